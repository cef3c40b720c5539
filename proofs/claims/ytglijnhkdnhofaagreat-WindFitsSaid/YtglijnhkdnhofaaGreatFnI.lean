/- What functions of the program compute, each proved once, part 9. -/
import Derived.Test.YtglijnhkdnhofaaGreatPiD
import Derived.Test.YtglijnhkdnhofaaGreatFnA
import Derived.Test.YtglijnhkdnhofaaGreatFnC
import Derived.Test.YtglijnhkdnhofaaGreatFnB

section
namespace Go.Proofs.YtglijnhkdnhofaaGreat
open Go Go.Pi Go.RowKit
set_option maxRecDepth 100000
set_option linter.unusedVariables false
set_option linter.unusedSimpArgs false

def f91 (x : Int × Int × Int) : Bool := decide (x.2.1 ≤ x.1) && decide (x.1 ≤ x.2.2)
def f91_e : Entry := { doms := [(false, (.int .i64)), (false, (.int .i64)), (false, (.int .i64))], cods := [(false, .bool)], pre := fun _ => True, fn := f91, uq := false, total := true }
def f91_E : Env := []
def f91_A : Anns := { loops := [], own := [] }
theorem f91_run (a0 : Int) (a1 : Int) (a2 : Int) (K : Bool → Prop) : runF Tryz.prog f91_E f91_A 6 Tryz.f91 f91_e.doms f91_e.cods (a0, a1, a2) K =
    (br (decide (a1 ≤ a0))
    (K (decide (a0 ≤ a2)))
    (K false)) := by kernel_rfl
theorem f91_t (a0 : Int) (a1 : Int) (a2 : Int) (K : Bool → Prop) (hK : ∀ y : Bool, y = f91 (a0, a1, a2) → K y) : RunF Tryz.prog f91_E f91_A 6 Tryz.f91 f91_e.doms f91_e.cods (a0, a1, a2) K := by
  refine ⟨?_⟩
  rw [f91_run a0 a1 a2 K]
  rw [br_dec]
  exact ⟨fun h => hK _ (by simp [f91, h]), fun h => hK _ (by simp [f91, h])⟩
theorem f91_fn : f91_e.fn = f91 := rfl
theorem f91_ok : EntryOK Tryz.prog 91 f91_e := by
  refine entryF progOK (EnvOK.nil) (A := f91_A) (d := 6) Tryz.func91 rfl rfl rfl rfl (fun _ _ => trivial) fun x hpre => ?_
  obtain ⟨a0, a1, a2⟩ := x
  exact f91_t a0 a1 a2 _ fun _ h => h.trans (congrFun f91_fn.symm _)
theorem f91_t1 {a b c : Int} : f91 (a, b, c) = true ↔ b ≤ a ∧ a ≤ c := by simp [f91]
theorem f91_f1 {a b c : Int} : f91 (a, b, c) = false ↔ ¬ (b ≤ a ∧ a ≤ c) := by rw [← Bool.not_eq_true, f91_t1]
end Go.Proofs.YtglijnhkdnhofaaGreat
end

section
namespace Go.Proofs.YtglijnhkdnhofaaGreat
open Go Go.Pi Go.RowKit
set_option maxRecDepth 100000
set_option linter.unusedVariables false
set_option linter.unusedSimpArgs false

def f32 (d : Int × Int × Int) : Int := dirE d
def f32_e : Entry := { doms := [(true, (.pair (.int .i64) (.pair (.int .i64) (.int .i64))))], cods := [(false, (.int .i64))], pre := fun _ => True, fn := f32, uq := false, total := true }
def f32_E : Env := [(91, f91_e)]
def f32_A : Anns := { loops := [], own := [], unroll := 4 }
theorem f32_run (a0 : Int × Int × Int) (K : Int → Prop) : runF Tryz.prog f32_E f32_A 6 Tryz.f32 f32_e.doms f32_e.cods a0 K =
    (br (!(f91 (a0.1, ((-9), 9))))
    (K 2)
    (br (!(f91 (a0.2.1, ((-9), 9))))
    (K 2)
    (br (!(f91 (a0.2.2, ((-9), 9))))
    (K 2)
    (br ((a0.1 == 0) && ((a0.2.1 == 0) && ((a0.2.2 == 0) && true)))
    (K 11)
    (K 0))))) := by kernel_rfl
theorem f32_t (a0 : Int × Int × Int) (K : Int → Prop) (hK : ∀ y : Int, y = f32 a0 → K y) : RunF Tryz.prog f32_E f32_A 6 Tryz.f32 f32_e.doms f32_e.cods a0 K := by
  refine ⟨?_⟩
  rw [f32_run a0 K]
  have e : ∀ n : Int, f91 (n, -9, 9) = decide (-9 ≤ n ∧ n ≤ 9) := fun n => by simp [f91]
  simp only [e]
  refine br_two (fun h1 => hK _ ?_) fun h1 => br_two (fun h2 => hK _ ?_) fun h2 => br_two (fun h3 => hK _ ?_) fun h3 => br_two (fun h4 => hK _ ?_) fun h4 => hK _ ?_
  · simp only [Bool.not_eq_true', decide_eq_false_iff_not] at h1
    rw [f32, dirE, if_pos (fun h => h1 h.1)]
  · simp only [Bool.not_eq_true', decide_eq_false_iff_not] at h2
    rw [f32, dirE, if_pos (fun h => h2 h.2.1)]
  · simp only [Bool.not_eq_true', decide_eq_false_iff_not] at h3
    rw [f32, dirE, if_pos (fun h => h3 h.2.2)]
  · simp only [Bool.not_eq_false', decide_eq_true_iff] at h1 h2 h3
    rw [f32, dirE, if_neg (fun h => h ⟨h1, h2, h3⟩)]
    obtain ⟨x, y, z⟩ := a0
    simp at h4
    simp [h4]
  · simp only [Bool.not_eq_false', decide_eq_true_iff] at h1 h2 h3
    rw [f32, dirE, if_neg (fun h => h ⟨h1, h2, h3⟩)]
    obtain ⟨x, y, z⟩ := a0
    simp at h4
    rw [if_neg (by simpa using h4)]
theorem f32_fn : f32_e.fn = f32 := rfl
theorem f32_ok : EntryOK Tryz.prog 32 f32_e := by
  refine entryF progOK (EnvOK.cons f91_ok (EnvOK.nil)) (A := f32_A) (d := 6) Tryz.func32 rfl rfl rfl rfl (fun _ _ => trivial) fun x hpre => ?_
  exact f32_t x _ fun _ h => h.trans (congrFun f32_fn.symm _)
end Go.Proofs.YtglijnhkdnhofaaGreat
end

section
namespace Go.Proofs.YtglijnhkdnhofaaGreat
open Go Go.Pi Go.RowKit
set_option maxRecDepth 100000
set_option linter.unusedVariables false
set_option linter.unusedSimpArgs false

def f87 (l : List ((Int × Int × Int) × Int × Int)) : Int × Int := rdOf l
def f87_e : Entry := { doms := [(false, (.sl (.pair (.pair (.int .i64) (.pair (.int .i64) (.int .i64))) (.pair (.int .i64) (.int .i64)))))], cods := [(false, (.int .i64)), (false, (.int .i64))], pre := fun _ => True, fn := f87, uq := false, total := true }
def f87_E : Env := [(32, f32_e), (91, f91_e)]
def f87_A : Anns := { loops := [(1048576, { tms := [(0, .keep), (4, .data false (.int .i64))], obs := [], fz := [] })], own := [] }
theorem f87_run (a0 : List ((Int × Int × Int) × Int × Int)) (K : (Int × Int) → Prop) : runF Tryz.prog f87_E f87_A 6 Tryz.f87 f87_e.doms f87_e.cods a0 K =
    (br (lenOk (a0.length))
    (br (((a0.length) : Int) == 0)
    (K (0, 10))
    (br (lenOk (a0.length))
    (br (decide (((a0.length) : Int) > 6))
    (K (0, 8))
    (LoopP (V := Int × Unit) (fun again v => (fun (again1 : Int → Prop) (v1_0 : Int) =>
    br (lenOk (a0.length))
    (br (decide (v1_0 < ((a0.length) : Int)))
    (br (decide (0 ≤ v1_0) && decide (v1_0 < ((a0.length) : Int)))
    (br ((f32 (((a0.getD v1_0.toNat ((0, (0, 0)), (0, 0))).1).1, (((a0.getD v1_0.toNat ((0, (0, 0)), (0, 0))).1).2))) != 0)
    (K (v1_0, (f32 (((a0.getD v1_0.toNat ((0, (0, 0)), (0, 0))).1).1, (((a0.getD v1_0.toNat ((0, (0, 0)), (0, 0))).1).2)))))
    (br (decide (0 ≤ v1_0) && decide (v1_0 < ((a0.length) : Int)))
    (br (!(f91 (((a0.getD v1_0.toNat ((0, (0, 0)), (0, 0))).2).1, ((-10000), 10000))))
    (K (v1_0, 2))
    (br (decide (0 ≤ v1_0) && decide (v1_0 < ((a0.length) : Int)))
    (br (!(f91 (((a0.getD v1_0.toNat ((0, (0, 0)), (0, 0))).2).2, ((-10000), 10000))))
    (K (v1_0, 2))
    (br (decide (0 ≤ v1_0) && decide (v1_0 < ((a0.length) : Int)))
    (br (decide (0 ≤ v1_0) && decide (v1_0 < ((a0.length) : Int)))
    (br (decide (((a0.getD v1_0.toNat ((0, (0, 0)), (0, 0))).2).1 > ((a0.getD v1_0.toNat ((0, (0, 0)), (0, 0))).2).2))
    (K (v1_0, 9))
    (again1 (IntKind.i64.wrap (v1_0 + 1))))
    False)
    False))
    False))
    False))
    False)
    (K (0, 0)))
    True)
    (fun v1_0 => again (v1_0, ())) v.1) (0, ())))
    True))
    True) := by kernel_rfl
theorem f87_t (a0 : List ((Int × Int × Int) × Int × Int)) (K : (Int × Int) → Prop) (hK : ∀ y : Int × Int, y = f87 a0 → K y) : RunF Tryz.prog f87_E f87_A 6 Tryz.f87 f87_e.doms f87_e.cods a0 K := by
  refine ⟨?_⟩
  rw [f87_run a0 K]
  rw [br_true_, lenOk_iff]
  intro hl
  refine br_two (fun h => hK _ ?_) fun h => br_weak (br_if (fun h2 => hK _ ?_) fun h2 => ?_)
  · have h : a0.length = 0 := by have := beq_iff_eq.1 h; omega
    rw [f87, rdOf, if_pos h]
  · have h : ¬ a0.length = 0 := by have := beq_eq_false_iff_ne.1 h; omega
    rw [f87, rdOf, if_neg h, if_pos (by omega)]
  · have h0 : ¬ a0.length = 0 := by have := beq_eq_false_iff_ne.1 h; omega
    have h1 : ¬ a0.length > 6 := by omega
    refine each_loop (K := K) (n := a0.length) (e := fun i => rdE (a0.getD i rd0)) (hK _ (by rw [f87, rdOf, if_neg h0, if_neg h1])) (fun again i hi hI good bad fin => ?_)
    dsimp only
    refine br_weak (br_if (fun hlt => ?_) fun hlt => fin (by omega))
    have hlt : i < a0.length := by omega
    have b0 : (decide (0 ≤ (i : Int)) && decide ((i : Int) < (a0.length : Int))) = true := inb (by omega) (by omega)
    have e35 : ∀ n : Int, f91 (n, -10000, 10000) = decide (-10000 ≤ n ∧ n ≤ 10000) := fun n => by simp [f91]
    rw [wr (n := (i : Int) + 1) (by omega) (by omega), Int.toNat_natCast]
    generalize hx : a0.getD i ((0, 0, 0), 0, 0) = x at *
    have hx : a0.getD i rd0 = x := hx
    rw [hx] at good bad
    have hd : f32 x.1 = dirE x.1 := rfl
    refine br_must b0 (br_two (fun he => ?_) fun he => br_must b0 (br_two (fun h3 => ?_) fun h3 => br_must b0 (br_two (fun h4 => ?_) fun h4 => br_must b0 (br_must b0 (br_if (fun h5 => ?_) fun h5 => ?_)))))
    · have he : dirE x.1 ≠ 0 := bne_t.1 he
      have := bad hlt (by rw [rdE, if_pos he]; exact he)
      rwa [rdE, if_pos he] at this
    · have he : dirE x.1 = 0 := bne_f.1 he
      rw [e35] at h3
      have e : rdE x = 2 := by rw [rdE, if_neg (fun h => h he), rngE, if_pos (fun h => nd_t.1 h3 h.1)]
      have := bad hlt (by rw [e]; decide)
      rwa [e] at this
    · have he : dirE x.1 = 0 := bne_f.1 he
      rw [e35] at h4
      have e : rdE x = 2 := by rw [rdE, if_neg (fun h => h he), rngE, if_pos (fun h => nd_t.1 h4 h.2)]
      have := bad hlt (by rw [e]; decide)
      rwa [e] at this
    · have he : dirE x.1 = 0 := bne_f.1 he
      rw [e35] at h3 h4
      have e : rdE x = 9 := by rw [rdE, if_neg (fun h => h he), rngE, if_neg (fun h => h ⟨nd_f.1 h3, nd_f.1 h4⟩), if_neg (by omega)]
      have := bad hlt (by rw [e]; decide)
      rwa [e] at this
    · have he : dirE x.1 = 0 := bne_f.1 he
      rw [e35] at h3 h4
      have e : rdE x = 0 := by rw [rdE, if_neg (fun h => h he), rngE, if_neg (fun h => h ⟨nd_f.1 h3, nd_f.1 h4⟩), if_pos (by omega)]
      exact good hlt e
theorem f87_fn : f87_e.fn = f87 := rfl
theorem f87_ok : EntryOK Tryz.prog 87 f87_e := by
  refine entryF progOK (EnvOK.cons f32_ok (EnvOK.cons f91_ok (EnvOK.nil))) (A := f87_A) (d := 6) Tryz.func87 rfl rfl rfl rfl (fun _ _ => trivial) fun x hpre => ?_
  exact f87_t x _ fun _ h => h.trans (congrFun f87_fn.symm _)
end Go.Proofs.YtglijnhkdnhofaaGreat
end

section
namespace Go.Proofs.YtglijnhkdnhofaaGreat
open Go Go.Pi Go.RowKit
set_option maxRecDepth 100000
set_option linter.unusedVariables false
set_option linter.unusedSimpArgs false

def f24 (l : List ((Int × Int × Int) × Int × Int)) : Int := (rdOf l).2
def f24_e : Entry := { doms := [(false, (.sl (.pair (.pair (.int .i64) (.pair (.int .i64) (.int .i64))) (.pair (.int .i64) (.int .i64)))))], cods := [(false, (.int .i64))], pre := fun _ => True, fn := f24, uq := false, total := true }
def f24_E : Env := [(87, f87_e)]
def f24_A : Anns := { loops := [], own := [] }
theorem f24_run (a0 : List ((Int × Int × Int) × Int × Int)) (K : Int → Prop) : runF Tryz.prog f24_E f24_A 6 Tryz.f24 f24_e.doms f24_e.cods a0 K =
    (K ((f87 a0).2)) := by kernel_rfl
theorem f24_t (a0 : List ((Int × Int × Int) × Int × Int)) (K : Int → Prop) (hK : ∀ y : Int, y = f24 a0 → K y) : RunF Tryz.prog f24_E f24_A 6 Tryz.f24 f24_e.doms f24_e.cods a0 K := by
  refine ⟨?_⟩
  rw [f24_run a0 K]
  exact hK _ rfl
theorem f24_fn : f24_e.fn = f24 := rfl
theorem f24_ok : EntryOK Tryz.prog 24 f24_e := by
  refine entryF progOK (EnvOK.cons f87_ok (EnvOK.nil)) (A := f24_A) (d := 6) Tryz.func24 rfl rfl rfl rfl (fun _ _ => trivial) fun x hpre => ?_
  exact f24_t x _ fun _ h => h.trans (congrFun f24_fn.symm _)
end Go.Proofs.YtglijnhkdnhofaaGreat
end

section
namespace Go.Proofs.YtglijnhkdnhofaaGreat
open Go Go.Pi Go.RowKit
set_option maxRecDepth 100000
set_option linter.unusedVariables false
set_option linter.unusedSimpArgs false

def f36 (x : (Int × Int × Int) × Int × Int × Int) : Int := w64 (dot x.1 x.2)
def f36_e : Entry := { doms := [(true, (.pair (.int .i64) (.pair (.int .i64) (.int .i64)))), (true, (.pair (.int .i64) (.pair (.int .i64) (.int .i64))))], cods := [(false, (.int .i64))], pre := fun _ => True, fn := f36, uq := false, total := true }
def f36_E : Env := []
def f36_A : Anns := { loops := [], own := [] }
theorem f36_run (a0 : Int × Int × Int) (a1 : Int × Int × Int) (K : Int → Prop) : runF Tryz.prog f36_E f36_A 6 Tryz.f36 f36_e.doms f36_e.cods (a0, a1) K =
    (K (IntKind.i64.wrap ((IntKind.i64.wrap ((IntKind.i64.wrap (a0.1 * a1.1)) + (IntKind.i64.wrap (a0.2.1 * a1.2.1)))) + (IntKind.i64.wrap (a0.2.2 * a1.2.2))))) := by kernel_rfl
theorem f36_t (a0 : Int × Int × Int) (a1 : Int × Int × Int) (K : Int → Prop) (hK : ∀ y : Int, y = f36 (a0, a1) → K y) : RunF Tryz.prog f36_E f36_A 6 Tryz.f36 f36_e.doms f36_e.cods (a0, a1) K := by
  refine ⟨?_⟩
  rw [f36_run a0 a1 K]
  exact hK _ (by simp only [f36, w64, dot, wrap_add_l, wrap_add_r])
theorem f36_fn : f36_e.fn = f36 := rfl
theorem f36_ok : EntryOK Tryz.prog 36 f36_e := by
  refine entryF progOK (EnvOK.nil) (A := f36_A) (d := 6) Tryz.func36 rfl rfl rfl rfl (fun _ _ => trivial) fun x hpre => ?_
  obtain ⟨a0, a1⟩ := x
  exact f36_t a0 a1 _ fun _ h => h.trans (congrFun f36_fn.symm _)
end Go.Proofs.YtglijnhkdnhofaaGreat
end

section
namespace Go.Proofs.YtglijnhkdnhofaaGreat
open Go Go.Pi Go.RowKit
set_option maxRecDepth 100000
set_option linter.unusedVariables false
set_option linter.unusedSimpArgs false

def f93 (x : (Int × Int × Int) × Int × Int × Int) : Int × Int × Int := w3 (cross x.1 x.2)
def f93_e : Entry := { doms := [(true, (.pair (.int .i64) (.pair (.int .i64) (.int .i64)))), (true, (.pair (.int .i64) (.pair (.int .i64) (.int .i64))))], cods := [(true, (.pair (.int .i64) (.pair (.int .i64) (.int .i64))))], pre := fun _ => True, fn := f93, uq := false, total := true }
def f93_E : Env := []
def f93_A : Anns := { loops := [], own := [] }
theorem f93_run (a0 : Int × Int × Int) (a1 : Int × Int × Int) (K : (Int × Int × Int) → Prop) : runF Tryz.prog f93_E f93_A 6 Tryz.f93 f93_e.doms f93_e.cods (a0, a1) K =
    (K ((IntKind.i64.wrap ((IntKind.i64.wrap (a0.2.1 * a1.2.2)) - (IntKind.i64.wrap (a0.2.2 * a1.2.1)))), ((IntKind.i64.wrap ((IntKind.i64.wrap (a0.2.2 * a1.1)) - (IntKind.i64.wrap (a0.1 * a1.2.2)))), (IntKind.i64.wrap ((IntKind.i64.wrap (a0.1 * a1.2.1)) - (IntKind.i64.wrap (a0.2.1 * a1.1))))))) := by kernel_rfl
theorem f93_t (a0 : Int × Int × Int) (a1 : Int × Int × Int) (K : (Int × Int × Int) → Prop) (hK : ∀ y : Int × Int × Int, y = f93 (a0, a1) → K y) : RunF Tryz.prog f93_E f93_A 6 Tryz.f93 f93_e.doms f93_e.cods (a0, a1) K := by
  refine ⟨?_⟩
  rw [f93_run a0 a1 K]
  exact hK _ (by simp only [f93, w3, w64, cross, wrap_sub_l, wrap_sub_r])
theorem f93_fn : f93_e.fn = f93 := rfl
theorem f93_ok : EntryOK Tryz.prog 93 f93_e := by
  refine entryF progOK (EnvOK.nil) (A := f93_A) (d := 6) Tryz.func93 rfl rfl rfl rfl (fun _ _ => trivial) fun x hpre => ?_
  obtain ⟨a0, a1⟩ := x
  exact f93_t a0 a1 _ fun _ h => h.trans (congrFun f93_fn.symm _)
end Go.Proofs.YtglijnhkdnhofaaGreat
end

section
namespace Go.Proofs.YtglijnhkdnhofaaGreat
open Go Go.Pi Go.RowKit
set_option maxRecDepth 100000
set_option linter.unusedVariables false
set_option linter.unusedSimpArgs false

def f72 (x : (Int × Int × Int) × (Int × Int × Int) × Int × Int × Int) : Int := w64 (det x.1 x.2.1 x.2.2)
def f72_e : Entry := { doms := [(true, (.pair (.int .i64) (.pair (.int .i64) (.int .i64)))), (true, (.pair (.int .i64) (.pair (.int .i64) (.int .i64)))), (true, (.pair (.int .i64) (.pair (.int .i64) (.int .i64))))], cods := [(false, (.int .i64))], pre := fun _ => True, fn := f72, uq := false, total := true }
def f72_E : Env := [(36, f36_e), (93, f93_e)]
def f72_A : Anns := { loops := [], own := [] }
theorem f72_run (a0 : Int × Int × Int) (a1 : Int × Int × Int) (a2 : Int × Int × Int) (K : Int → Prop) : runF Tryz.prog f72_E f72_A 6 Tryz.f72 f72_e.doms f72_e.cods (a0, a1, a2) K =
    (K (f36 (a0, ((f93 (a1, a2)).1, ((f93 (a1, a2)).2))))) := by kernel_rfl
theorem f72_t (a0 : Int × Int × Int) (a1 : Int × Int × Int) (a2 : Int × Int × Int) (K : Int → Prop) (hK : ∀ y : Int, y = f72 (a0, a1, a2) → K y) : RunF Tryz.prog f72_E f72_A 6 Tryz.f72 f72_e.doms f72_e.cods (a0, a1, a2) K := by
  refine ⟨?_⟩
  rw [f72_run a0 a1 a2 K]
  refine hK _ ?_
  show f36 (a0, f93 (a1, a2)) = _
  simp only [f36, f93, f72, det, dot_w]
theorem f72_fn : f72_e.fn = f72 := rfl
theorem f72_ok : EntryOK Tryz.prog 72 f72_e := by
  refine entryF progOK (EnvOK.cons f36_ok (EnvOK.cons f93_ok (EnvOK.nil))) (A := f72_A) (d := 6) Tryz.func72 rfl rfl rfl rfl (fun _ _ => trivial) fun x hpre => ?_
  obtain ⟨a0, a1, a2⟩ := x
  exact f72_t a0 a1 a2 _ fun _ h => h.trans (congrFun f72_fn.symm _)
end Go.Proofs.YtglijnhkdnhofaaGreat
end

section
namespace Go.Pi
set_option linter.unusedVariables false
abbrev z3 : V3 := (0, 0, 0)
def P1 (l : List V3) (i : Nat) : Bool := decide (l.getD i z3 ≠ z3)
def P2 (l : List V3) (i k : Nat) : Bool := decide (w3 (cross (l.getD i z3) (l.getD k z3)) ≠ z3)
def P3 (l : List V3) (i k j : Nat) : Bool := decide (w64 (det (l.getD i z3) (l.getD k z3) (l.getD j z3)) ≠ 0)
def rk3 (a b c : Bool) : Int := if c then 3 else if b then 2 else if a then 1 else 0
def any1 (l : List V3) (n : Nat) : Bool := (List.range n).any (P1 l)
def an2 (l : List V3) (i k : Nat) : Bool := (List.range k).any (P2 l i)
def any2 (l : List V3) (n : Nat) : Bool := (List.range n).any fun i => an2 l i i
def an3 (l : List V3) (i k j : Nat) : Bool := (List.range j).any (P3 l i k)
def an3' (l : List V3) (i k : Nat) : Bool := (List.range k).any fun k => an3 l i k k
def any3 (l : List V3) (n : Nat) : Bool := (List.range n).any fun i => an3' l i i
def rkR (l : List V3) : Int := rk3 (any1 l l.length) (any2 l l.length) (any3 l l.length)
theorem any_succ (f : Nat → Bool) (n : Nat) : (List.range (n + 1)).any f = ((List.range n).any f || f n) := by rw [List.range_succ, List.any_append]; simp
theorem rk3_le (a b c : Bool) : 0 ≤ rk3 a b c ∧ rk3 a b c ≤ 3 := by cases a <;> cases b <;> cases c <;> decide
theorem rk3_max1 (a b c : Bool) : max (rk3 a b c) 1 = rk3 true b c := by cases a <;> cases b <;> cases c <;> decide
theorem rk3_max2 (a b c : Bool) : max (rk3 a b c) 2 = rk3 a true c := by cases a <;> cases b <;> cases c <;> decide

/-! ### what the loops look for -/
theorem any1_iff {l : List V3} : any1 l l.length = true ↔ ∃ d ∈ l, d ≠ z3 := by
  unfold any1 P1
  simp only [List.any_eq_true, List.mem_range, decide_eq_true_eq]
  constructor
  · rintro ⟨i, hi, h⟩
    exact ⟨l.getD i z3, by rw [getD_lt hi]; exact List.getElem_mem _, h⟩
  · rintro ⟨d, hd, h⟩
    obtain ⟨i, hi, e⟩ := List.getElem_of_mem hd
    exact ⟨i, hi, by rw [getD_lt hi, e]; exact h⟩
structure Dirs (l : List V3) : Prop where
  le : ∀ d ∈ l, V3.le d 9
  ne : ∀ d ∈ l, d ≠ z3
theorem cr_w {d e : V3} (hd : V3.le d 9) (he : V3.le e 9) : w3 (cross d e) = cross d e := by
  have h := cross_le hd he
  unfold w3
  rw [w64_fit (fit_le h.1 (by omega)), w64_fit (fit_le h.2.1 (by omega)), w64_fit (fit_le h.2.2 (by omega))]
theorem det_w {d e f : V3} (hd : V3.le d 9) (he : V3.le e 9) (hf : V3.le f 9) : w64 (det d e f) = det d e f := by
  have h := det_le hd he hf
  exact w64_fit ⟨by omega, by omega⟩
theorem getD_mem3 {l : List V3} {i : Nat} (h : i < l.length) : l.getD i z3 ∈ l := by rw [getD_lt h]; exact List.getElem_mem _
theorem cross_neg {d e : V3} (h : cross d e = z3) : cross e d = z3 := by
  obtain ⟨a, b, c⟩ := d
  obtain ⟨x, y, z⟩ := e
  simp only [cross, Prod.mk.injEq] at h ⊢
  obtain ⟨h1, h2, h3⟩ := h
  refine ⟨by grind, by grind, by grind⟩
theorem cross_self (d : V3) : cross d d = z3 := by
  obtain ⟨a, b, c⟩ := d
  simp only [cross, Prod.mk.injEq]
  refine ⟨by grind, by grind, by grind⟩
theorem any2_iff {l : List V3} (h : ∀ d ∈ l, V3.le d 9) : any2 l l.length = true ↔ ∃ d e, d ∈ l ∧ e ∈ l ∧ cross d e ≠ z3 := by
  unfold any2 an2 P2
  simp only [List.any_eq_true, List.mem_range, decide_eq_true_eq]
  constructor
  · rintro ⟨i, hi, k, hk, hc⟩
    have m1 := getD_mem3 hi
    have m2 := getD_mem3 (show k < l.length by omega)
    rw [cr_w (h _ m1) (h _ m2)] at hc
    exact ⟨_, _, m1, m2, hc⟩
  · rintro ⟨d, e, hd, he, hc⟩
    obtain ⟨i, hi, ei⟩ := List.getElem_of_mem hd
    obtain ⟨k, hk, ek⟩ := List.getElem_of_mem he
    have ei' : l.getD i z3 = d := by rw [getD_lt hi, ei]
    have ek' : l.getD k z3 = e := by rw [getD_lt hk, ek]
    rcases Nat.lt_trichotomy i k with hik | hik | hik
    · refine ⟨k, hk, i, hik, ?_⟩
      rw [ei', ek', cr_w (h _ he) (h _ hd)]
      exact fun hh => hc (cross_neg hh)
    · subst hik
      rw [ei'] at ek'
      subst ek'
      exact absurd (cross_self _) hc
    · refine ⟨i, hi, k, hik, ?_⟩
      rw [ei', ek', cr_w (h _ hd) (h _ he)]
      exact hc
theorem det_perm (d e f : V3) : det e d f = -det d e f ∧ det d f e = -det d e f ∧ det f e d = -det d e f ∧ det e f d = det d e f ∧ det f d e = det d e f := by
  simp only [det, dot, cross]
  refine ⟨by grind, by grind, by grind, by grind, by grind⟩
theorem det_same (d e : V3) : det d d e = 0 ∧ det d e d = 0 ∧ det e d d = 0 := by
  simp only [det, dot, cross]
  refine ⟨by grind, by grind, by grind⟩
theorem any3_iff {l : List V3} (h : ∀ d ∈ l, V3.le d 9) : any3 l l.length = true ↔ ∃ d e f, d ∈ l ∧ e ∈ l ∧ f ∈ l ∧ det d e f ≠ 0 := by
  unfold any3 an3' an3 P3
  simp only [List.any_eq_true, List.mem_range, decide_eq_true_eq]
  constructor
  · rintro ⟨i, hi, k, hk, j, hj, hc⟩
    have m1 := getD_mem3 hi
    have m2 := getD_mem3 (show k < l.length by omega)
    have m3 := getD_mem3 (show j < l.length by omega)
    rw [det_w (h _ m1) (h _ m2) (h _ m3)] at hc
    exact ⟨_, _, _, m1, m2, m3, hc⟩
  · rintro ⟨d, e, f, hd, he, hf, hc⟩
    obtain ⟨i, hi, ei⟩ := List.getElem_of_mem hd
    obtain ⟨k, hk, ek⟩ := List.getElem_of_mem he
    obtain ⟨j, hj, ej⟩ := List.getElem_of_mem hf
    have ei' : l.getD i z3 = d := by rw [getD_lt hi, ei]
    have ek' : l.getD k z3 = e := by rw [getD_lt hk, ek]
    have ej' : l.getD j z3 = f := by rw [getD_lt hj, ej]
    obtain ⟨p1, p2, p3, p4, p5⟩ := det_perm d e f
    have fin : ∀ (a b c : Nat), a < l.length → b < a → c < b → det (l.getD a z3) (l.getD b z3) (l.getD c z3) ≠ 0 → ∃ i, i < l.length ∧ ∃ k, k < i ∧ ∃ j, j < k ∧ w64 (det (l.getD i z3) (l.getD k z3) (l.getD j z3)) ≠ 0 := fun a b c ha hb hc hn =>
      ⟨a, ha, b, hb, c, hc, by rwa [det_w (h _ (getD_mem3 ha)) (h _ (getD_mem3 (show b < l.length by omega))) (h _ (getD_mem3 (show c < l.length by omega)))]⟩
    have n1 : i ≠ k := fun hh => by rw [hh, ek'] at ei'; rw [← ei'] at hc; exact hc (det_same _ _).1
    have n2 : i ≠ j := fun hh => by rw [hh, ej'] at ei'; rw [← ei'] at hc; exact hc (det_same _ _).2.1
    have n3 : k ≠ j := fun hh => by rw [hh, ej'] at ek'; rw [← ek'] at hc; exact hc (det_same _ _).2.2
    rcases Nat.lt_or_ge i k with a | a
    · rcases Nat.lt_or_ge k j with b | b
      · exact fin j k i hj b a (by rw [ei', ek', ej', p3]; omega)
      · rcases Nat.lt_or_ge i j with c | c
        · exact fin k j i hk (by omega) c (by rw [ei', ek', ej', p4]; omega)
        · exact fin k i j hk a (by omega) (by rw [ei', ek', ej', p1]; omega)
    · rcases Nat.lt_or_ge k j with b | b
      · rcases Nat.lt_or_ge i j with c | c
        · exact fin j i k hj c (by omega) (by rw [ei', ek', ej', p5]; omega)
        · exact fin i j k hi (by omega) b (by rw [ei', ek', ej', p2]; omega)
      · exact fin i k j hi (by omega) (by omega) (by rw [ei', ek', ej']; omega)

/-! ### found step by step -/
def RkInv (seen : List V3) : List V3 → Prop
  | [] => seen = []
  | [a] => a ∈ seen ∧ a ≠ z3 ∧ ∀ d ∈ seen, cross a d = z3
  | [a, b] => a ∈ seen ∧ b ∈ seen ∧ cross a b ≠ z3 ∧ ∀ d ∈ seen, dot (cross a b) d = 0
  | [a, b, c] => a ∈ seen ∧ b ∈ seen ∧ c ∈ seen ∧ det a b c ≠ 0
  | _ => False
theorem dot_cr_l (a b : V3) : dot (cross a b) a = 0 ∧ dot (cross a b) b = 0 := by
  simp only [dot, cross]
  exact ⟨by grind, by grind⟩
theorem par_dot {a b d : V3} (h : cross a d = z3) : dot (cross a b) d = 0 := by
  obtain ⟨a1, a2, a3⟩ := a
  obtain ⟨b1, b2, b3⟩ := b
  obtain ⟨d1, d2, d3⟩ := d
  simp only [cross, Prod.mk.injEq] at h
  obtain ⟨h1, h2, h3⟩ := h
  simp only [dot, cross]
  grind
theorem dot_dw {a b d : V3} (ha : V3.le a 9) (hb : V3.le b 9) (hd : V3.le d 9) : w64 (dot (w3 (cross a b)) d) = dot (cross a b) d := by
  have h := dot_le (cross_le ha hb) hd
  rw [cr_w ha hb]
  exact w64_fit ⟨by omega, by omega⟩
theorem det_dot (a b c : V3) : det a b c = dot (cross a b) c := by simp only [det, dot, cross]; grind
theorem rk_inv : ∀ (l seen own : List V3), Dirs (seen ++ l) → RkInv seen own → RkInv (seen ++ l) (l.foldl rkStep own)
  | [], seen, own, _, h => by rw [List.append_nil]; exact h
  | d :: l, seen, own, hd, h => by
    have e : seen ++ d :: l = (seen ++ [d]) ++ l := by simp
    rw [List.foldl_cons, e]
    rw [e] at hd
    refine rk_inv l _ _ hd ?_
    have md : d ∈ seen ++ [d] := by simp
    have mv : ∀ x, x ∈ seen → x ∈ seen ++ [d] := fun x hx => List.mem_append_left _ hx
    have le : ∀ x, x ∈ seen ++ [d] → V3.le x 9 := fun x hx => hd.le x (List.mem_append_left _ hx)
    have cs : ∀ {P : V3 → Prop}, (∀ x ∈ seen, P x) → P d → ∀ x ∈ seen ++ [d], P x := fun h1 h2 x hx => by
      rcases List.mem_append.1 hx with hx | hx
      · exact h1 x hx
      · rw [List.mem_singleton] at hx; rw [hx]; exact h2
    match own, h with
    | [], h =>
      have h : seen = [] := h
      subst h
      exact ⟨md, hd.ne d (by simp), fun x hx => by
        have : x = d := by simpa using hx
        rw [this]; exact cross_self d⟩
    | [a], ⟨ha, hn, hc⟩ =>
      have hw := cr_w (le a (mv a ha)) (le d md)
      show RkInv _ (if w3 (cross a d) = (0, 0, 0) then [a] else [a, d])
      rw [hw]
      by_cases h0 : cross a d = (0, 0, 0)
      · rw [if_pos h0]; exact ⟨mv a ha, hn, cs hc h0⟩
      · rw [if_neg h0]; exact ⟨mv a ha, md, h0, cs (fun x hx => par_dot (hc x hx)) (dot_cr_l a d).2⟩
    | [a, b], ⟨ha, hb, hn, hc⟩ =>
      have hw := dot_dw (le a (mv a ha)) (le b (mv b hb)) (le d md)
      show RkInv _ (if w64 (dot (w3 (cross a b)) d) = 0 then [a, b] else [a, b, d])
      rw [hw]
      by_cases h0 : dot (cross a b) d = 0
      · rw [if_pos h0]; exact ⟨mv a ha, mv b hb, hn, cs hc h0⟩
      · rw [if_neg h0]; exact ⟨mv a ha, mv b hb, md, by rw [det_dot]; exact h0⟩
    | [a, b, c], ⟨ha, hb, hc, hn⟩ => exact ⟨mv a ha, mv b hb, mv c hc, hn⟩
theorem rkOwn_inv {l : List V3} (h : Dirs l) : RkInv l (rkOwn l) := rk_inv l [] [] h rfl
theorem v3_ne {n : V3} (h : n ≠ z3) : n.1 ≠ 0 ∨ n.2.1 ≠ 0 ∨ n.2.2 ≠ 0 := by
  obtain ⟨a, b, c⟩ := n
  rcases Classical.em (a = 0) with h1 | h1
  · rcases Classical.em (b = 0) with h2 | h2
    · rcases Classical.em (c = 0) with h3 | h3
      · subst h1 h2 h3; exact absurd rfl h
      · exact .inr (.inr h3)
    · exact .inr (.inl h2)
  · exact .inl h1
/-- Three vectors that are all at right angles to one. -/
theorem det_flat {n d e f : V3} (hn : n ≠ z3) (h1 : dot n d = 0) (h2 : dot n e = 0) (h3 : dot n f = 0) : det d e f = 0 := by
  obtain ⟨n1, n2, n3⟩ := n
  have k1 : det d e f * n1 = 0 := by simp only [det, dot, cross] at *; grind
  have k2 : det d e f * n2 = 0 := by simp only [det, dot, cross] at *; grind
  have k3 : det d e f * n3 = 0 := by simp only [det, dot, cross] at *; grind
  rcases v3_ne hn with h | h | h
  · exact (Int.mul_eq_zero.1 k1).resolve_right h
  · exact (Int.mul_eq_zero.1 k2).resolve_right h
  · exact (Int.mul_eq_zero.1 k3).resolve_right h
/-- Two vectors along one. -/
theorem cross_par {a d e : V3} (ha : a ≠ z3) (h1 : cross a d = z3) (h2 : cross a e = z3) : cross d e = z3 := by
  obtain ⟨a1, a2, a3⟩ := a
  obtain ⟨d1, d2, d3⟩ := d
  obtain ⟨e1, e2, e3⟩ := e
  simp only [cross, Prod.mk.injEq] at h1 h2 ⊢
  obtain ⟨p1, p2, p3⟩ := h1
  obtain ⟨q1, q2, q3⟩ := h2
  have key : ∀ {x y : Int}, x ≠ 0 → y * x = 0 → y = 0 := fun hx hy => (Int.mul_eq_zero.1 hy).resolve_right hx
  rcases v3_ne ha with h | h | h
  · exact ⟨key h (by grind), key h (by grind), key h (by grind)⟩
  · exact ⟨key h (by grind), key h (by grind), key h (by grind)⟩
  · exact ⟨key h (by grind), key h (by grind), key h (by grind)⟩
theorem det_cross0 {d e : V3} (f : V3) (h : cross d e = z3) : det d e f = 0 := by rw [det_dot, h]; simp [dot]
/-- Both ranks are the same. -/
theorem rkR_eq {l : List V3} (h : Dirs l) : rkR l = ((rkOwn l).length : Int) := by
  have hi := rkOwn_inv h
  unfold rkR
  generalize rkOwn l = own at hi
  match own, hi with
  | [], hi =>
    have hi : l = [] := hi
    subst hi; rfl
  | [a], ⟨ha, hn, hc⟩ =>
    have e3 : any3 l l.length = false := by
      rw [← Bool.not_eq_true, any3_iff h.le]
      rintro ⟨d, e, f, hd, he, hf, hh⟩
      exact hh (det_cross0 f (cross_par hn (hc d hd) (hc e he)))
    have e2 : any2 l l.length = false := by
      rw [← Bool.not_eq_true, any2_iff h.le]
      rintro ⟨d, e, hd, he, hh⟩
      exact hh (cross_par hn (hc d hd) (hc e he))
    rw [e3, e2, any1_iff.2 ⟨a, ha, hn⟩]; rfl
  | [a, b], ⟨ha, hb, hn, hc⟩ =>
    have e3 : any3 l l.length = false := by
      rw [← Bool.not_eq_true, any3_iff h.le]
      rintro ⟨d, e, f, hd, he, hf, hh⟩
      exact hh (det_flat hn (hc d hd) (hc e he) (hc f hf))
    rw [e3, (any2_iff h.le).2 ⟨a, b, ha, hb, hn⟩]; rfl
  | [a, b, c], ⟨ha, hb, hc, hn⟩ =>
    rw [(any3_iff h.le).2 ⟨a, b, c, ha, hb, hc, hn⟩]; rfl
end Go.Pi
end

section
namespace Go.Proofs.YtglijnhkdnhofaaGreat
open Go Go.Pi Go.RowKit
set_option maxRecDepth 100000
set_option linter.unusedVariables false
set_option linter.unusedSimpArgs false

def f29 (l : List (Int × Int × Int)) : Int := rkR l
theorem mm_max (a b : Int) : minmax true a b = max a b := by simp only [minmax]; rw [Int.max_def]; split <;> split <;> omega
theorem zt (x : V3) : (!((x.1 == 0) && ((x.2.1 == 0) && ((x.2.2 == 0) && true)))) = decide (x ≠ z3) := by
  rw [v3_z]
  by_cases h : x = z3
  · subst h; rfl
  · rw [decide_eq_false h, decide_eq_true h]; rfl
def f29_e : Entry := { doms := [(false, (.sl (.pair (.int .i64) (.pair (.int .i64) (.int .i64)))))], cods := [(false, (.int .i64))], pre := fun _ => True, fn := f29, uq := false, total := true }
def f29_E : Env := [(72, f72_e), (93, f93_e)]
def f29_A : Anns := { loops := [(1048576, { tms := [(0, .keep), (3, .data false (.int .i64)), (4, .data false (.int .i64))], obs := [], fz := [] }),
  (1048578, { tms := [(0, .keep), (3, .data false (.int .i64)), (4, .keep), (5, .data false (.int .i64))], obs := [], fz := [] }),
  (1048580, { tms := [(0, .keep), (3, .data false (.int .i64)), (4, .keep), (5, .keep), (6, .data false (.int .i64))], obs := [], fz := [] }),
  (1572893, { tms := [(0, .keep), (3, .data false (.int .i64)), (4, .keep)], obs := [], fz := [] })], own := [] }
theorem f29_run (a0 : List (Int × Int × Int)) (K : Int → Prop) : runF Tryz.prog f29_E f29_A 6 Tryz.f29 f29_e.doms f29_e.cods a0 K =
    (LoopP (V := Int × Int × Unit) (fun again v => (fun (again1 : Int → Int → Prop) (v1_0 : Int) (v1_1 : Int) =>
    br (lenOk (a0.length))
    (br (decide (v1_1 < ((a0.length) : Int)))
    (JoinQ (V := Int × Unit) (fun J => (fun (join2 : Int → Prop) =>
    br (decide (0 ≤ v1_1) && decide (v1_1 < ((a0.length) : Int)))
    (br (!(((a0.getD v1_1.toNat (0, (0, 0))).1 == 0) && ((((a0.getD v1_1.toNat (0, (0, 0))).2).1 == 0) && ((((a0.getD v1_1.toNat (0, (0, 0))).2).2 == 0) && true))))
    (join2 (minmax true v1_0 1))
    (join2 v1_0))
    False) (fun j2_0 => J (j2_0, ()))) (fun v => (fun (j2_0 : Int) =>
    LoopP (V := Int × Int × Unit) (fun again v => (fun (again3 : Int → Int → Prop) (v3_0 : Int) (v3_1 : Int) =>
    br (decide (v3_1 < v1_1))
    (br (decide (0 ≤ v1_1) && decide (v1_1 < ((a0.length) : Int)))
    (br (decide (0 ≤ v3_1) && decide (v3_1 < ((a0.length) : Int)))
    (br (!(((f93 (((a0.getD v1_1.toNat (0, (0, 0))).1, ((a0.getD v1_1.toNat (0, (0, 0))).2)), ((a0.getD v3_1.toNat (0, (0, 0))).1, ((a0.getD v3_1.toNat (0, (0, 0))).2)))).1 == 0) && ((((f93 (((a0.getD v1_1.toNat (0, (0, 0))).1, ((a0.getD v1_1.toNat (0, (0, 0))).2)), ((a0.getD v3_1.toNat (0, (0, 0))).1, ((a0.getD v3_1.toNat (0, (0, 0))).2)))).2).1 == 0) && ((((f93 (((a0.getD v1_1.toNat (0, (0, 0))).1, ((a0.getD v1_1.toNat (0, (0, 0))).2)), ((a0.getD v3_1.toNat (0, (0, 0))).1, ((a0.getD v3_1.toNat (0, (0, 0))).2)))).2).2 == 0) && true))))
    (LoopP (V := Int × Int × Unit) (fun again v => (fun (again4 : Int → Int → Prop) (v4_0 : Int) (v4_1 : Int) =>
    br (decide (v4_1 < v3_1))
    (br (decide (0 ≤ v1_1) && decide (v1_1 < ((a0.length) : Int)))
    (br (decide (0 ≤ v3_1) && decide (v3_1 < ((a0.length) : Int)))
    (br (decide (0 ≤ v4_1) && decide (v4_1 < ((a0.length) : Int)))
    (br ((f72 (((a0.getD v1_1.toNat (0, (0, 0))).1, ((a0.getD v1_1.toNat (0, (0, 0))).2)), (((a0.getD v3_1.toNat (0, (0, 0))).1, ((a0.getD v3_1.toNat (0, (0, 0))).2)), ((a0.getD v4_1.toNat (0, (0, 0))).1, ((a0.getD v4_1.toNat (0, (0, 0))).2))))) != 0)
    (again4 3 (IntKind.i64.wrap (v4_1 + 1)))
    (again4 v4_0 (IntKind.i64.wrap (v4_1 + 1))))
    False)
    False)
    False)
    (again3 v4_0 (IntKind.i64.wrap (v3_1 + 1))))
    (fun v4_0 v4_1 => again (v4_0, v4_1, ())) v.1 v.2.1) ((minmax true v3_0 2), 0, ()))
    (LoopP (V := Int × Int × Unit) (fun again v => (fun (again5 : Int → Int → Prop) (v5_0 : Int) (v5_1 : Int) =>
    br (decide (v5_1 < v3_1))
    (br (decide (0 ≤ v1_1) && decide (v1_1 < ((a0.length) : Int)))
    (br (decide (0 ≤ v3_1) && decide (v3_1 < ((a0.length) : Int)))
    (br (decide (0 ≤ v5_1) && decide (v5_1 < ((a0.length) : Int)))
    (br ((f72 (((a0.getD v1_1.toNat (0, (0, 0))).1, ((a0.getD v1_1.toNat (0, (0, 0))).2)), (((a0.getD v3_1.toNat (0, (0, 0))).1, ((a0.getD v3_1.toNat (0, (0, 0))).2)), ((a0.getD v5_1.toNat (0, (0, 0))).1, ((a0.getD v5_1.toNat (0, (0, 0))).2))))) != 0)
    (again5 3 (IntKind.i64.wrap (v5_1 + 1)))
    (again5 v5_0 (IntKind.i64.wrap (v5_1 + 1))))
    False)
    False)
    False)
    (again3 v5_0 (IntKind.i64.wrap (v3_1 + 1))))
    (fun v5_0 v5_1 => again (v5_0, v5_1, ())) v.1 v.2.1) (v3_0, 0, ())))
    False)
    False)
    (again1 v3_0 (IntKind.i64.wrap (v1_1 + 1))))
    (fun v3_0 v3_1 => again (v3_0, v3_1, ())) v.1 v.2.1) (j2_0, 0, ())) v.1))
    (K v1_0))
    True)
    (fun v1_0 v1_1 => again (v1_0, v1_1, ())) v.1 v.2.1) (0, 0, ())) := by kernel_rfl
theorem f29_t (a0 : List (Int × Int × Int)) (K : Int → Prop) (hK : ∀ y : Int, y = f29 a0 → K y) : RunF Tryz.prog f29_E f29_A 6 Tryz.f29 f29_e.doms f29_e.cods a0 K := by
  refine ⟨?_⟩
  rw [f29_run a0 K]
  have e93 : ∀ a b : V3, f93 (a, b) = w3 (cross a b) := fun _ _ => rfl
  have e72 : ∀ a b c : V3, f72 (a, b, c) = w64 (det a b c) := fun _ _ _ => rfl
  have b1 : ∀ i : Nat, (!(((a0.getD i z3).1 == 0) && (((a0.getD i z3).2.1 == 0) && (((a0.getD i z3).2.2 == 0) && true)))) = P1 a0 i := fun i => zt _
  have b2 : ∀ i k : Nat, (!(((f93 (a0.getD i z3, a0.getD k z3)).1 == 0) && (((f93 (a0.getD i z3, a0.getD k z3)).2.1 == 0) && (((f93 (a0.getD i z3, a0.getD k z3)).2.2 == 0) && true)))) = P2 a0 i k := fun i k => zt _
  have b3 : ∀ i k j : Nat, (f72 (a0.getD i z3, a0.getD k z3, a0.getD j z3) != 0) = P3 a0 i k j := fun i k j => by
    rw [e72, P3]
    by_cases h : w64 (det (a0.getD i z3) (a0.getD k z3) (a0.getD j z3)) = 0
    · rw [h, decide_eq_false (fun hh => hh rfl)]; rfl
    · rw [decide_eq_true h]; exact bne_iff_ne.2 h
  refine LoopP.up2 a0.length (fun i r (_ : Unit) => r = rk3 (any1 a0 i.toNat) (any2 a0 i.toNat) (any3 a0 i.toNat)) (fun again1 r1 i1 _ h10 h1n G1 H1 => ?_) (by omega) rfl
  obtain ⟨i, rfl⟩ := Int.eq_ofNat_of_zero_le h10
  dsimp only at G1 ⊢
  rw [br_true_, lenOk_iff]
  intro hl
  refine br_if (fun hi => ?_) fun hi => hK _ ?_
  rotate_left
  · have : i = a0.length := by omega
    subst this
    rw [G1]; rfl
  have hi : i < a0.length := by omega
  have bi := inb (show (0 : Int) ≤ i by omega) (show (i : Int) < (a0.length : Int) by omega)
  rw [wr (n := (i : Int) + 1) (by omega) (by omega)]
  rw [Int.toNat_natCast] at G1 ⊢
  have s1 : any1 a0 (i + 1) = (any1 a0 i || P1 a0 i) := any_succ _ _
  have s2 : any2 a0 (i + 1) = (any2 a0 i || an2 a0 i i) := any_succ _ _
  have s3 : any3 a0 (i + 1) = (any3 a0 i || an3' a0 i i) := any_succ _ _
  refine JoinQ.use (fun q => q = (rk3 (any1 a0 (i + 1)) (any2 a0 i) (any3 a0 i), ())) (fun G hG => ?_) fun q hq => ?_
  · refine br_must bi ?_
    rw [b1, mm_max, G1, rk3_max1]
    refine br_two (fun h => hG _ (by rw [s1, h, Bool.or_true])) fun h => hG _ (by rw [s1, h, Bool.or_false])
  subst hq
  dsimp only
  refine LoopP.up2 i (fun k r (_ : Unit) => r = rk3 (any1 a0 (i + 1)) (any2 a0 i || an2 a0 i k.toNat) (any3 a0 i || an3' a0 i k.toNat)) (fun again2 r2 k2 _ h20 h2n G2 H2 => ?_) (by omega) (by simp [an2, an3'])
  obtain ⟨k, rfl⟩ := Int.eq_ofNat_of_zero_le h20
  dsimp only at G2 ⊢
  refine br_if (fun hk => ?_) fun hk => H1 _ () (by omega) ?_
  rotate_left
  · have : k = i := by omega
    subst this
    rw [G2, show ((k : Int) + 1).toNat = k + 1 by omega, Int.toNat_natCast, s2, s3]
  have hk : k < i := by omega
  have bk := inb (show (0 : Int) ≤ k by omega) (show (k : Int) < (a0.length : Int) by omega)
  rw [wr (n := (k : Int) + 1) (by omega) (by omega)]
  rw [Int.toNat_natCast] at G2 ⊢
  have t2 : an2 a0 i (k + 1) = (an2 a0 i k || P2 a0 i k) := any_succ _ _
  have t3 : an3' a0 i (k + 1) = (an3' a0 i k || an3 a0 i k k) := any_succ _ _
  refine br_must bi (br_must bk ?_)
  show br (!(((f93 (a0.getD i z3, a0.getD k z3)).1 == 0) && (((f93 (a0.getD i z3, a0.getD k z3)).2.1 == 0) && (((f93 (a0.getD i z3, a0.getD k z3)).2.2 == 0) && true)))) _ _
  rw [b2, mm_max, G2, rk3_max2]
  have hs : ∀ b, P2 a0 i k = b → rk3 (any1 a0 (i + 1)) (if b then true else (any2 a0 i || an2 a0 i k)) (any3 a0 i || an3' a0 i k) = rk3 (any1 a0 (i + 1)) (any2 a0 i || an2 a0 i (k + 1)) (any3 a0 i || an3' a0 i k) := fun b h => by
    rw [t2, h]
    cases b <;> simp
  refine br_two (fun h => ?_) fun h => ?_
  · rw [show rk3 (any1 a0 (i + 1)) true (any3 a0 i || an3' a0 i k) = _ from hs true h]
    refine LoopP.up2 k (fun j r (_ : Unit) => r = rk3 (any1 a0 (i + 1)) (any2 a0 i || an2 a0 i (k + 1)) (any3 a0 i || an3' a0 i k || an3 a0 i k j.toNat)) (fun again3 r3 j3 _ h30 h3n G3 H3 => ?_) (by omega) (by simp [an3])
    obtain ⟨j, rfl⟩ := Int.eq_ofNat_of_zero_le h30
    dsimp only at G3 ⊢
    refine br_if (fun hj => ?_) fun hj => H2 _ () (by omega) ?_
    rotate_left
    · have : j = k := by omega
      subst this
      rw [G3, show ((j : Int) + 1).toNat = j + 1 by omega, Int.toNat_natCast, t3, Bool.or_assoc]
    have hj : j < k := by omega
    have u3 : an3 a0 i k (j + 1) = (an3 a0 i k j || P3 a0 i k j) := any_succ _ _
    rw [wr (n := (j : Int) + 1) (by omega) (by omega)]
    rw [Int.toNat_natCast] at G3 ⊢
    refine br_must bi (br_must bk (br_must (inb (by omega) (by omega)) ?_))
    show br (f72 (a0.getD i z3, a0.getD k z3, a0.getD j z3) != 0) _ _
    rw [b3, G3]
    refine br_two (fun h => H3 _ () (by omega) ?_) fun h => H3 _ () (by omega) ?_
    · rw [show ((j : Int) + 1).toNat = j + 1 by omega, u3, h, Bool.or_true, Bool.or_true]; rfl
    · rw [show ((j : Int) + 1).toNat = j + 1 by omega, u3, h, Bool.or_false]
  · rw [show rk3 (any1 a0 (i + 1)) (any2 a0 i || an2 a0 i k) (any3 a0 i || an3' a0 i k) = _ from hs false h]
    refine LoopP.up2 k (fun j r (_ : Unit) => r = rk3 (any1 a0 (i + 1)) (any2 a0 i || an2 a0 i (k + 1)) (any3 a0 i || an3' a0 i k || an3 a0 i k j.toNat)) (fun again3 r3 j3 _ h30 h3n G3 H3 => ?_) (by omega) (by simp [an3])
    obtain ⟨j, rfl⟩ := Int.eq_ofNat_of_zero_le h30
    dsimp only at G3 ⊢
    refine br_if (fun hj => ?_) fun hj => H2 _ () (by omega) ?_
    rotate_left
    · have : j = k := by omega
      subst this
      rw [G3, show ((j : Int) + 1).toNat = j + 1 by omega, Int.toNat_natCast, t3, Bool.or_assoc]
    have hj : j < k := by omega
    have u3 : an3 a0 i k (j + 1) = (an3 a0 i k j || P3 a0 i k j) := any_succ _ _
    rw [wr (n := (j : Int) + 1) (by omega) (by omega)]
    rw [Int.toNat_natCast] at G3 ⊢
    refine br_must bi (br_must bk (br_must (inb (by omega) (by omega)) ?_))
    show br (f72 (a0.getD i z3, a0.getD k z3, a0.getD j z3) != 0) _ _
    rw [b3, G3]
    refine br_two (fun h => H3 _ () (by omega) ?_) fun h => H3 _ () (by omega) ?_
    · rw [show ((j : Int) + 1).toNat = j + 1 by omega, u3, h, Bool.or_true, Bool.or_true]; rfl
    · rw [show ((j : Int) + 1).toNat = j + 1 by omega, u3, h, Bool.or_false]
theorem f29_fn : f29_e.fn = f29 := rfl
theorem f29_ok : EntryOK Tryz.prog 29 f29_e := by
  refine entryF progOK (EnvOK.cons f72_ok (EnvOK.cons f93_ok (EnvOK.nil))) (A := f29_A) (d := 6) Tryz.func29 rfl rfl rfl rfl (fun _ _ => trivial) fun x hpre => ?_
  exact f29_t x _ fun _ h => h.trans (congrFun f29_fn.symm _)
end Go.Proofs.YtglijnhkdnhofaaGreat
end

section
namespace Go.Pi
set_option linter.unusedVariables false
def sgn (n : Int) : Int := if n < 0 then -1 else if n > 0 then 1 else 0
def cmpQ (x : Int × Int × Int × Int) : Int := sgn (x.1 * x.2.2.2 - x.2.2.1 * x.2.1)
abbrev R2 := Int × Int
def mns (a b : R2) : R2 := (a.1 - b.2, a.2 - b.1)
def nearF (d : R2) : Int := if d.1 ≤ 0 ∧ 0 ≤ d.2 then 0 else minmax false (d.1 * d.1) (d.2 * d.2)
def farF (d : R2) : Int := minmax true (d.1 * d.1) (d.2 * d.2)
def lagD (l : List R2) (lag i : Nat) : R2 := mns (l.getD (i + lag) (0, 0)) (l.getD i (0, 0))
def sumN (f : Nat → Int) (n : Nat) : Int := ((List.range n).map f).sum
theorem sumN_succ (f : Nat → Int) (n : Nat) : sumN f (n + 1) = sumN f n + f n := by simp [sumN, List.range_succ]
theorem sumN_le {f g : Nat → Int} : ∀ {n : Nat}, (∀ i, i < n → f i ≤ g i) → sumN f n ≤ sumN g n
  | 0, _ => by simp [sumN]
  | n + 1, h => by
    rw [sumN_succ, sumN_succ]
    have := sumN_le (n := n) fun i hi => h i (by omega)
    have := h n (by omega)
    omega
theorem sumN_congr {f g : Nat → Int} {n : Nat} (h : ∀ i, i < n → f i = g i) : sumN f n = sumN g n :=
  Int.le_antisymm (sumN_le fun i hi => by rw [h i hi]; exact Int.le_refl _) (sumN_le fun i hi => by rw [h i hi]; exact Int.le_refl _)
theorem sumN_bound {f : Nat → Int} {M : Int} : ∀ {n : Nat}, (∀ i, i < n → 0 ≤ f i ∧ f i ≤ M) → 0 ≤ sumN f n ∧ sumN f n ≤ n * M
  | 0, _ => by simp [sumN]
  | n + 1, h => by
    have h1 := sumN_bound (n := n) fun i hi => h i (by omega)
    have h2 := h n (by omega)
    rw [sumN_succ, show ((n + 1 : Nat) : Int) * M = n * M + M by rw [Int.natCast_add, Int.add_mul]; simp]
    omega
/-- The error of ranges and a lag. -/
def rgsE (l : List R2) : Int := if l.length = 0 then 10 else if l.length > 30 then 8 else (eachE l.length fun i => rngE (l.getD i (0, 0)) 10000).2
def lagE (n : Nat) (lag : Int) : Int := if 1 ≤ lag ∧ lag ≤ (n : Int) - 1 then 0 else 2
def strE (l : List R2) (lag : Int) : Int := if rgsE l ≠ 0 then rgsE l else lagE l.length lag
def strV (l : List R2) (lag : Nat) : R2 × R2 := (low (sumN (fun i => nearF (lagD l lag i)) (l.length - lag)) ((l.length : Int) - lag), low (sumN (fun i => farF (lagD l lag i)) (l.length - lag)) ((l.length : Int) - lag))
def strIn (l : List R2) (lag : Int) : (R2 × R2) × Int := if strE l lag ≠ 0 then (no4, strE l lag) else (strV l lag.toNat, 0)
theorem rngE_zero {r : R2} {m : Int} (h : rngE r m = 0) : -m ≤ r.1 ∧ r.1 ≤ r.2 ∧ r.2 ≤ m := by
  unfold rngE at h
  split at h
  · simp at h
  · rename_i h4
    split at h
    · rename_i h5
      have h4 := Classical.byContradiction h4
      exact ⟨by omega, h5, by omega⟩
    · simp at h
/-- Valid ranges and a lag. -/
structure RgOK (l : List R2) (lag : Int) : Prop where
  len : l.length ≤ 30
  lag : 1 ≤ lag ∧ lag ≤ (l.length : Int) - 1
  el : ∀ r ∈ l, -10000 ≤ r.1 ∧ r.1 ≤ r.2 ∧ r.2 ≤ 10000
theorem strE_zero {l : List R2} {lag : Int} (h : strE l lag = 0) : RgOK l lag ∧ rgsE l = 0 := by
  unfold strE at h
  split at h
  · rename_i h1; exact absurd h h1
  · rename_i h1
    have h1 := Classical.byContradiction h1
    have h0 := h1
    unfold rgsE at h1
    unfold lagE at h
    split at h1
    · simp at h1
    · split at h1
      · simp at h1
      · rename_i h2 h3
        split at h
        · rename_i h4
          have hz := eachE_zero h1
          refine ⟨⟨by omega, h4, fun r hr => ?_⟩, h0⟩
          obtain ⟨i, hi, e⟩ := List.getElem_of_mem hr
          have := rngE_zero (hz i hi)
          rwa [getD_lt hi, e] at this
        · simp at h
theorem sq_le {n m : Int} (h : -m ≤ n ∧ n ≤ m) : 0 ≤ n * n ∧ n * n ≤ m * m := by
  have h1 := mul_le h h
  refine ⟨?_, h1.2⟩
  rcases Int.le_total 0 n with h2 | h2
  · exact Int.mul_nonneg h2 h2
  · exact Int.mul_nonneg_of_nonpos_of_nonpos h2 h2
theorem lagD_le {l : List R2} {lag : Nat} (h : RgOK l lag) {i : Nat} (hi : i < l.length - lag) : (-20000 ≤ (lagD l lag i).1 ∧ (lagD l lag i).1 ≤ 20000) ∧ -20000 ≤ (lagD l lag i).2 ∧ (lagD l lag i).2 ≤ 20000 := by
  have h1 := h.el _ (getD_mem (d := (0, 0)) (show i + lag < l.length by omega))
  have h2 := h.el _ (getD_mem (d := (0, 0)) (show i < l.length by omega))
  simp only [lagD, mns]
  omega
theorem nearF_b {l : List R2} {lag : Nat} (h : RgOK l lag) {i : Nat} (hi : i < l.length - lag) : 0 ≤ nearF (lagD l lag i) ∧ nearF (lagD l lag i) ≤ 400000000 := by
  have hd := lagD_le h hi
  have h1 := sq_le hd.1
  have h2 := sq_le hd.2
  unfold nearF minmax
  split
  · omega
  · simp only; split <;> omega
theorem farF_b {l : List R2} {lag : Nat} (h : RgOK l lag) {i : Nat} (hi : i < l.length - lag) : 0 ≤ farF (lagD l lag i) ∧ farF (lagD l lag i) ≤ 400000000 := by
  have hd := lagD_le h hi
  have h1 := sq_le hd.1
  have h2 := sq_le hd.2
  unfold farF minmax
  simp only; split <;> omega
theorem strS {l : List R2} {lag : Nat} (h : RgOK l lag) {n : Nat} (hn : n ≤ l.length - lag) : (0 ≤ sumN (fun i => nearF (lagD l lag i)) n ∧ sumN (fun i => nearF (lagD l lag i)) n ≤ 12000000000) ∧ 0 ≤ sumN (fun i => farF (lagD l lag i)) n ∧ sumN (fun i => farF (lagD l lag i)) n ≤ 12000000000 := by
  have h1 := sumN_bound (n := n) fun i hi => nearF_b h (show i < l.length - lag by omega)
  have h2 := sumN_bound (n := n) fun i hi => farF_b h (show i < l.length - lag by omega)
  have := h.len
  omega
end Go.Pi
end

section
namespace Go.Pi
set_option linter.unusedVariables false
theorem sgn_neg {n : Int} : sgn n < 0 ↔ n < 0 := by
  unfold sgn
  split
  · omega
  · split <;> omega
theorem sgn_ne {n : Int} : sgn n ≠ 0 ↔ n ≠ 0 := by
  unfold sgn
  split
  · omega
  · split <;> omega
/-- A wind that can be compared. -/
def WFit (v : WV) : Prop := (Fit v.1 ∧ Fit v.2.1 ∧ Fit v.2.2.1 ∧ Fit v.2.2.2) ∧ 0 < v.2.2.2
theorem wfit_le {v : WV} {m : Int} (h : V3.le (wpt v) m) (hd : v.2.2.2 ≤ m) (h0 : 0 < v.2.2.2) (hm : m ≤ 9223372036854775807) : WFit v :=
  ⟨⟨fit_le h.1 hm, fit_le h.2.1 hm, fit_le h.2.2 hm, fit_le ⟨by omega, hd⟩ hm⟩, h0⟩
theorem gcd_le_add (a b : Nat) : Nat.gcd a b ≤ a + b := by
  rcases Nat.eq_zero_or_pos a with h | h
  · subst h; rw [Nat.gcd_zero_left]; omega
  · exact Nat.le_trans (Nat.gcd_le_left b h) (by omega)
theorem insW_split (v : WV) (q : List WV) : ∀ p : List WV, (∀ x ∈ p, wlt x v) → insW (p ++ q) v = p ++ insW q v
  | [], _ => rfl
  | x :: p, h => by
    rw [List.cons_append, insW, if_pos (show ordC x v < 0 from h x (.head _)), insW_split v q p fun y hy => h y (.tail _ hy)]; rfl
theorem lowV_neg (p : V3) {d : Int} (h : d ≠ 0) : lowV (-p.1, -p.2.1, -p.2.2) (-d) = lowV p d := by
  have h' : -d ≠ 0 := by omega
  obtain ⟨a1, a2, a3⟩ := lowV_mul p d h
  obtain ⟨b1, b2, b3⟩ := lowV_mul (-p.1, -p.2.1, -p.2.2) (-d) h'
  have key : ∀ {n x y a b : Int}, n * y = a * d → -n * x = b * -d → b * y = a * x := fun {n x y a b} e1 e2 => by
    refine Int.eq_of_mul_eq_mul_right h ?_
    have : b * y * d = (b * d) * y := by grind
    rw [this, show b * d = n * x by grind, show n * x * y = (n * y) * x by grind, e1]
    grind
  exact (lowV_ok h').eq (lowV_ok h) (key a1 b1) (key a2 b2) (key a3 b3)
def revE (e : Nat) : Nat := e / 4 % 2 + 2 * (e / 2 % 2) + 4 * (e % 2)
theorem revE_lt (e : Nat) : revE e < 8 := by unfold revE; omega
theorem revE_bits (e : Nat) : revE e % 2 = e / 4 % 2 ∧ revE e / 2 % 2 = e / 2 % 2 ∧ revE e / 4 % 2 = e % 2 := by
  unfold revE
  have h1 : e / 4 % 2 < 2 := Nat.mod_lt _ (by omega)
  have h2 : e / 2 % 2 < 2 := Nat.mod_lt _ (by omega)
  have h3 : e % 2 < 2 := Nat.mod_lt _ (by omega)
  generalize e / 4 % 2 = x at *
  generalize e / 2 % 2 = y at *
  generalize e % 2 = z at *
  omega
theorem sol1_rev {l : List Rd} (h : RdLe l) {a b c : Nat} (ha : a < l.length) (hb : b < l.length) (hc : c < l.length) (e : Nat) (hd : det3 (rows3 l a b c) ≠ 0) : sol1 l c b a (revE e) = sol1 l a b c e := by
  rw [sol1_eq h ha hb hc, sol1_eq h hc hb ha, ← lowV_neg _ hd]
  have e1 : endR (l.getD c rd0).2 (revE e) = endR (l.getD c rd0).2 (e / 4) := by unfold endR; rw [(revE_bits e).1]
  have e2 : endR (l.getD b rd0).2 (revE e / 2) = endR (l.getD b rd0).2 (e / 2) := by unfold endR; rw [(revE_bits e).2.1]
  have e3 : endR (l.getD a rd0).2 (revE e / 4) = endR (l.getD a rd0).2 e := by unfold endR; rw [(revE_bits e).2.2]
  have ee : ends3 l c b a (revE e) = ((ends3 l a b c e).2.2, (ends3 l a b c e).2.1, (ends3 l a b c e).1) := by unfold ends3; rw [e1, e2, e3]
  have er : rows3 l c b a = ((rows3 l a b c).2.2, (rows3 l a b c).2.1, (rows3 l a b c).1) := rfl
  rw [ee, er]
  generalize rows3 l a b c = m
  generalize ends3 l a b c e = v
  have d0 : det3 (m.2.2, m.2.1, m.1) = -det3 m := by simp only [det3, det, dot, cross]; grind
  have d1 : det3 (c0 (m.2.2, m.2.1, m.1) (v.2.2, v.2.1, v.1)) = -det3 (c0 m v) := by simp only [det3, det, dot, cross, c0]; grind
  have d2 : det3 (c1 (m.2.2, m.2.1, m.1) (v.2.2, v.2.1, v.1)) = -det3 (c1 m v) := by simp only [det3, det, dot, cross, c1]; grind
  have d3 : det3 (c2 (m.2.2, m.2.1, m.1) (v.2.2, v.2.1, v.1)) = -det3 (c2 m v) := by simp only [det3, det, dot, cross, c2]; grind
  rw [d0, d1, d2, d3]
/-- The candidates in another order. -/
def refA (l : List Rd) (i j k : Nat) : List WV := if det3 (rows3 l i j k) = 0 then [] else (List.range 8).flatMap (candE l i j k)
def refB (l : List Rd) (i j : Nat) : List WV := (List.range j).flatMap (refA l i j)
def refC (l : List Rd) (i : Nat) : List WV := (List.range i).flatMap (refB l i)
def refs (l : List Rd) : List WV := (List.range l.length).flatMap (refC l)
theorem refs_mem {l : List Rd} {v : WV} : v ∈ refs l ↔ ∃ a b c e, a < b ∧ b < c ∧ c < l.length ∧ e < 8 ∧ det3 (rows3 l c b a) ≠ 0 ∧ v = sol1 l c b a e ∧ l.all (agR · v) = true := by
  simp only [refs, refC, refB, List.mem_flatMap, List.mem_range]
  constructor
  · rintro ⟨c, hc, b, hb, a, ha, hm⟩
    unfold refA at hm
    split at hm
    · cases hm
    · rename_i hd
      simp only [List.mem_flatMap, List.mem_range] at hm
      obtain ⟨e, he, hm⟩ := hm
      unfold candE at hm
      split at hm
      · rename_i hg
        rw [List.mem_singleton] at hm
        exact ⟨a, b, c, e, ha, hb, hc, he, hd, hm, by rw [hm]; exact hg⟩
      · cases hm
  · rintro ⟨a, b, c, e, ha, hb, hc, he, hd, rfl, hg⟩
    refine ⟨c, hc, b, hb, a, ha, ?_⟩
    unfold refA
    rw [if_neg hd]
    simp only [List.mem_flatMap, List.mem_range]
    refine ⟨e, he, ?_⟩
    unfold candE
    rw [if_pos hg]
    exact .head _
theorem det3_rev (l : List Rd) (a b c : Nat) : det3 (rows3 l c b a) = -det3 (rows3 l a b c) := by simp only [rows3, det3, det, dot, cross]; grind
theorem refs_cands {l : List Rd} (h : RdLe l) (v : WV) : v ∈ refs l ↔ v ∈ cands l := by
  rw [refs_mem, cands_mem]
  constructor
  · rintro ⟨a, b, c, e, ha, hb, hc, he, hd, rfl, hg⟩
    have hw := (h.sml (a := a) (b := b) (c := c) (by omega) (by omega) hc e).w
    refine ⟨a, b, c, revE e, ha, hb, hc, revE_lt e, ?_, ?_, hg⟩
    · rw [hw]; rw [det3_rev] at hd; omega
    · exact (sol1_rev h hc (by omega) (by omega) e hd).symm
  · rintro ⟨a, b, c, e, ha, hb, hc, he, hd, rfl, hg⟩
    have hw := (h.sml (a := a) (b := b) (c := c) (by omega) (by omega) hc e).w
    rw [hw] at hd
    refine ⟨a, b, c, revE e, ha, hb, hc, revE_lt e, ?_, ?_, hg⟩
    · rw [det3_rev]; omega
    · exact (sol1_rev h (by omega) (by omega) hc e hd).symm
theorem refs_ok {l : List Rd} (h : RdLe l) : ∀ v ∈ refs l, WOK v ∧ v.2.2.2 ≤ 4374 ∧ V3.le (wpt v) 4860000 := fun v hv => cands_ok h v ((refs_cands h v).1 hv)
theorem sortW_refs {l : List Rd} (h : RdLe l) : sortW (refs l) = vtx l :=
  asc_eq (sortW_ok fun w hw => (refs_ok h w hw).1) (sortW_ok fun w hw => (cands_ok h w hw).1) (sortW_asc fun w hw => (refs_ok h w hw).1) (sortW_asc fun w hw => (cands_ok h w hw).1) fun x => by
    rw [sortW_mem, vtx, sortW_mem, refs_cands h]
theorem refs_len {l : List Rd} (h : RdLe l) : (refs l).length ≤ 4096 := by
  have hE : ∀ a b c e, (candE l a b c e).length ≤ 1 := fun a b c e => by unfold candE; split <;> simp
  have hA : ∀ c b a, (refA l c b a).length ≤ 8 := fun c b a => by
    unfold refA
    split
    · simp
    · exact flatMap_len _ 1 8 fun e _ => hE c b a e
  have hB : ∀ c b, b ≤ 8 → (refB l c b).length ≤ 64 := fun c b hb => Nat.le_trans (flatMap_len _ 8 b fun a _ => hA c b a) (by omega)
  have hC : ∀ c, c ≤ 8 → (refC l c).length ≤ 512 := fun c hc => Nat.le_trans (flatMap_len _ 64 c fun b hb => hB c b (by omega)) (by omega)
  have := flatMap_len (refC l) 512 l.length fun c hc => hC c (by have := h.len; omega)
  have := h.len
  unfold refs
  omega
theorem insW_len (v : WV) : ∀ l : List WV, (insW l v).length ≤ l.length + 1
  | [] => by simp [insW]
  | w :: r => by
    have := insW_len v r
    unfold insW
    split
    · simp only [List.length_cons]; omega
    · split <;> simp only [List.length_cons] <;> omega
theorem sortW_append (a b : List WV) : sortW (a ++ b) = b.foldl insW (sortW a) := List.foldl_append
theorem sortW_len : ∀ (l acc : List WV), (l.foldl insW acc).length ≤ acc.length + l.length
  | [], acc => by simp
  | v :: r, acc => by
    have h1 := sortW_len r (insW acc v)
    have h2 := insW_len v acc
    rw [List.foldl_cons, List.length_cons]
    omega
/-- What has been put in so far. -/
structure Got (out L : List WV) (n : Nat) : Prop where
  e : out = sortW L
  ok : ∀ v ∈ L, WFit v
  len : L.length ≤ n
theorem Got.put {out L : List WV} {n : Nat} (h : Got out L n) {v : WV} (hv : WFit v) : Got (insW out v) (L ++ [v]) (n + 1) := by
  refine ⟨by rw [sortW_append, ← h.e]; rfl, fun w hw => ?_, by rw [List.length_append, List.length_singleton]; have := h.len; omega⟩
  rcases List.mem_append.1 hw with hw | hw
  · exact h.ok w hw
  · rw [List.mem_singleton] at hw; rw [hw]; exact hv
theorem Got.size {out L : List WV} {n : Nat} (h : Got out L n) : out.length ≤ n := by
  have h0 : (L.foldl insW []).length ≤ 0 + L.length := sortW_len L []
  have e : out.length = (L.foldl insW []).length := by rw [h.e]; rfl
  have := h.len
  rw [e]
  omega
theorem Got.all {out L : List WV} {n : Nat} (h : Got out L n) : ∀ v ∈ out, WFit v := fun v hv => h.ok v (sortW_mem.1 (h.e ▸ hv))
theorem Got.to {out L M : List WV} {n m : Nat} (h : Got out L n) (hl : L = M) (hn : n ≤ m) : Got out M m := ⟨by rw [h.e, hl], hl ▸ h.ok, by rw [← hl]; exact Nat.le_trans h.len hn⟩
end Go.Pi
end

section
namespace Go.Proofs.YtglijnhkdnhofaaGreat
open Go Go.Pi Go.RowKit
set_option maxRecDepth 100000
set_option linter.unusedVariables false
set_option linter.unusedSimpArgs false

def f30 (l : List ((Int × Int × Int) × Int × Int)) : List (Int × Int × Int) := l.map (·.1)
def f30_pre (l : List ((Int × Int × Int) × Int × Int)) : Prop := l.length ≤ 1048576
def f30_e : Entry := { doms := [(false, (.sl (.pair (.pair (.int .i64) (.pair (.int .i64) (.int .i64))) (.pair (.int .i64) (.int .i64)))))], cods := [(false, (.sl (.pair (.int .i64) (.pair (.int .i64) (.int .i64)))))], pre := f30_pre, fn := f30, uq := false, total := false }
def f30_E : Env := []
def f30_A : Anns := { loops := [(1048576, { tms := [(0, .keep), (3, .ref 1053703), (4, .data false (.int .i64))], obs := [(1053703, .arr (.uniq) (.pair (.int .i64) (.pair (.int .i64) (.int .i64))))], fz := [] })], own := [] }
theorem f30_run (a0 : List ((Int × Int × Int) × Int × Int)) (K : (List (Int × Int × Int)) → Prop) : runF Tryz.prog f30_E f30_A 6 Tryz.f30 f30_e.doms f30_e.cods a0 K =
    (LoopP (V := Int × List (Int × Int × Int) × Unit) (fun again v => (fun (again1 : Int → List (Int × Int × Int) → Prop) (v1_0 : Int) (v1_1 : List (Int × Int × Int)) =>
    br (lenOk (a0.length))
    (br (decide (v1_0 < ((a0.length) : Int)))
    (br (decide (0 ≤ v1_0) && decide (v1_0 < ((a0.length) : Int)))
    (br (roomOk ((v1_1.length) + 1) 24)
    (again1 (IntKind.i64.wrap (v1_0 + 1)) (v1_1 ++ ([(((a0.getD v1_0.toNat ((0, (0, 0)), (0, 0))).1).1, (((a0.getD v1_0.toNat ((0, (0, 0)), (0, 0))).1).2))] : List (Int × Int × Int))))
    False)
    False)
    (K v1_1))
    True)
    (fun v1_0 v1_1 => again (v1_0, v1_1, ())) v.1 v.2.1) (0, ([] : List (Int × Int × Int)), ())) := by kernel_rfl
theorem f30_t (a0 : List ((Int × Int × Int) × Int × Int)) (hpre : f30_pre a0) (K : (List (Int × Int × Int)) → Prop) (hK : ∀ y : List (Int × Int × Int), y = f30 a0 → K y) : RunF Tryz.prog f30_E f30_A 6 Tryz.f30 f30_e.doms f30_e.cods a0 K := by
  refine ⟨?_⟩
  rw [f30_run a0 K]
  have hl : a0.length ≤ 1048576 := hpre
  refine LoopP.of (fun q : Int × List (Int × Int × Int) × Unit => ∃ i : Nat, i ≤ a0.length ∧ q = ((i : Int), (a0.take i).map (·.1), ())) (fun q => ((a0.length : Int) - q.1).toNat) (fun again q hq hag => ?_) ⟨0, by omega, rfl⟩
  obtain ⟨i, hi, rfl⟩ := hq
  dsimp only
  refine br_weak (br_if (fun hlt => ?_) fun hge => hK _ ?_)
  · have hlt' : i < a0.length := by omega
    refine br_must (inb (by omega) hlt) (br_must ?_ (hag _ ⟨i + 1, by omega, ?_⟩ ?_))
    · rw [roomOk_iff, List.length_map, List.length_take]; omega
    · rw [wr (by omega) (by omega), Int.toNat_natCast, List.take_succ_eq_append_getElem hlt', List.map_append, getD_lt hlt']; rfl
    · dsimp only
      rw [wr (by omega) (by omega)]; omega
  · have : i = a0.length := by omega
    rw [this, List.take_length, f30]
theorem f30_fn : f30_e.fn = f30 := rfl
theorem f30_ok : EntryOK Tryz.prog 30 f30_e := by
  refine entryF progOK (EnvOK.nil) (A := f30_A) (d := 6) Tryz.func30 rfl rfl rfl rfl (fun h => by cases h) fun x hpre => ?_
  exact f30_t x hpre _ fun _ h => h.trans (congrFun f30_fn.symm _)
end Go.Proofs.YtglijnhkdnhofaaGreat
end
