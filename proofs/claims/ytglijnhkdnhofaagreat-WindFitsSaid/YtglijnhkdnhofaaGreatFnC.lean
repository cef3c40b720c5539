/- What functions of the program compute, each proved once, part 3. -/
import Derived.Test.YtglijnhkdnhofaaGreatPiD
import Derived.Test.YtglijnhkdnhofaaGreatFnA
import Derived.Test.YtglijnhkdnhofaaGreatFnB

section
namespace Go.Proofs.YtglijnhkdnhofaaGreat
open Go Go.Pi Go.RowKit
set_option maxRecDepth 100000
set_option linter.unusedVariables false
set_option linter.unusedSimpArgs false

def f61 (l : List Int) : Int := match l.find? (· != 0) with
  | some n => n
  | none => 0
def f61_e : Entry := { doms := [(false, (.sl (.int .i64)))], cods := [(false, (.int .i64))], pre := fun _ => True, fn := f61, uq := false, total := true }
def f61_E : Env := []
def f61_A : Anns := { loops := [(1048576, { tms := [(5, .keep), (6, .keep), (7, .data false (.int .i64))], obs := [], fz := [] })], own := [] }
theorem f61_run (a0 : List Int) (K : Int → Prop) : runF Tryz.prog f61_E f61_A 6 Tryz.f61 f61_e.doms f61_e.cods a0 K =
    (br (lenOk (a0.length))
    (LoopP (V := Int × Unit) (fun again v => (fun (again1 : Int → Prop) (v1_0 : Int) =>
    br (decide (v1_0 < ((a0.length) : Int)))
    (br (decide (0 ≤ v1_0) && decide (v1_0 < ((a0.length) : Int)))
    (br ((a0.getD v1_0.toNat 0) != 0)
    (K (a0.getD v1_0.toNat 0))
    (again1 (IntKind.i64.wrap (v1_0 + 1))))
    False)
    (K 0))
    (fun v1_0 => again (v1_0, ())) v.1) (0, ()))
    True) := by kernel_rfl
theorem f61_t (a0 : List Int) (K : Int → Prop) (hK : ∀ y : Int, y = f61 a0 → K y) : RunF Tryz.prog f61_E f61_A 6 Tryz.f61 f61_e.doms f61_e.cods a0 K := by
  refine ⟨?_⟩
  rw [f61_run a0 K]
  rw [br_true_, lenOk_iff]
  intro hl
  refine LoopP.up a0.length (fun i _ => ∀ x ∈ a0.take i.toNat, (x != 0) = false) (fun again i v h0 hn hI hag => ?_) (by omega) all_zero
  simp only [br_both, decide_eq_true_eq, decide_eq_false_iff_not, Bool.and_eq_true]
  refine ⟨fun hi => ⟨fun _ => ⟨fun hne => ?_, fun he => ?_⟩, fun hf => ?_⟩, fun hi => ?_⟩
  · exact hK _ (by rw [f61, find_at h0 hi hI hne])
  · rw [wr (by omega) (by omega)]
    exact hag () hi (all_step h0 hi hI he)
  · simp at hf; omega
  · exact hK _ (by rw [f61, find_none (all_done hi hI)])
theorem f61_fn : f61_e.fn = f61 := rfl
theorem f61_ok : EntryOK Tryz.prog 61 f61_e := by
  refine entryF progOK (EnvOK.nil) (A := f61_A) (d := 6) Tryz.func61 rfl rfl rfl rfl (fun _ _ => trivial) fun x hpre => ?_
  exact f61_t x _ fun _ h => h.trans (congrFun f61_fn.symm _)
theorem f61_nil : f61 [] = 0 := rfl
theorem f61_cons (a : Int) (l : List Int) : f61 (a :: l) = if a = 0 then f61 l else a := by
  by_cases h : a = 0 <;> simp [f61, h]
end Go.Proofs.YtglijnhkdnhofaaGreat
end

section
namespace Go.Proofs.YtglijnhkdnhofaaGreat
open Go Go.Pi Go.RowKit
set_option maxRecDepth 100000
set_option linter.unusedVariables false
set_option linter.unusedSimpArgs false

def f83 (x : Bool × Int) : Int := if x.1 then 0 else x.2
def f83_e : Entry := { doms := [(false, .bool), (false, (.int .i64))], cods := [(false, (.int .i64))], pre := fun _ => True, fn := f83, uq := false, total := true }
def f83_E : Env := []
def f83_A : Anns := { loops := [], own := [] }
theorem f83_run (a0 : Bool) (a1 : Int) (K : Int → Prop) : runF Tryz.prog f83_E f83_A 6 Tryz.f83 f83_e.doms f83_e.cods (a0, a1) K =
    (br a0
    (K 0)
    (K a1)) := by kernel_rfl
theorem f83_t (a0 : Bool) (a1 : Int) (K : Int → Prop) (hK : ∀ y : Int, y = f83 (a0, a1) → K y) : RunF Tryz.prog f83_E f83_A 6 Tryz.f83 f83_e.doms f83_e.cods (a0, a1) K := by
  refine ⟨?_⟩
  rw [f83_run a0 a1 K]
  cases a0 <;> exact hK _ rfl
theorem f83_fn : f83_e.fn = f83 := rfl
theorem f83_ok : EntryOK Tryz.prog 83 f83_e := by
  refine entryF progOK (EnvOK.nil) (A := f83_A) (d := 6) Tryz.func83 rfl rfl rfl rfl (fun _ _ => trivial) fun x hpre => ?_
  obtain ⟨a0, a1⟩ := x
  exact f83_t a0 a1 _ fun _ h => h.trans (congrFun f83_fn.symm _)
end Go.Proofs.YtglijnhkdnhofaaGreat
end

section
namespace Go.Proofs.YtglijnhkdnhofaaGreat
open Go Go.Pi Go.RowKit
set_option maxRecDepth 100000
set_option linter.unusedVariables false
set_option linter.unusedSimpArgs false

def f85 (x : Int × Int) : Bool := f84 (x.1, IntKind.i64.wrap (0 - x.2), x.2)
def f85_e : Entry := { doms := [(false, (.int .i64)), (false, (.int .i64))], cods := [(false, .bool)], pre := fun _ => True, fn := f85, uq := false, total := true }
def f85_E : Env := [(84, f84_e)]
def f85_A : Anns := { loops := [], own := [] }
theorem f85_run (a0 : Int) (a1 : Int) (K : Bool → Prop) : runF Tryz.prog f85_E f85_A 6 Tryz.f85 f85_e.doms f85_e.cods (a0, a1) K =
    (K (f84 (a0, ((IntKind.i64.wrap (0 - a1)), a1)))) := by kernel_rfl
theorem f85_t (a0 : Int) (a1 : Int) (K : Bool → Prop) (hK : ∀ y : Bool, y = f85 (a0, a1) → K y) : RunF Tryz.prog f85_E f85_A 6 Tryz.f85 f85_e.doms f85_e.cods (a0, a1) K := by
  refine ⟨?_⟩
  rw [f85_run a0 a1 K]
  exact hK _ rfl
theorem f85_fn : f85_e.fn = f85 := rfl
theorem f85_ok : EntryOK Tryz.prog 85 f85_e := by
  refine entryF progOK (EnvOK.cons f84_ok (EnvOK.nil)) (A := f85_A) (d := 6) Tryz.func85 rfl rfl rfl rfl (fun _ _ => trivial) fun x hpre => ?_
  obtain ⟨a0, a1⟩ := x
  exact f85_t a0 a1 _ fun _ h => h.trans (congrFun f85_fn.symm _)
theorem f85_eq {a b : Int} (h : 0 ≤ b) (h2 : b ≤ 9223372036854775807) : f85 (a, b) = decide (-b ≤ a ∧ a ≤ b) := by
  unfold f85
  dsimp only
  rw [wr (by omega) (by omega), f84_eq]
  congr 1
  simp only [Int.zero_sub]
end Go.Proofs.YtglijnhkdnhofaaGreat
end

section
namespace Go.Proofs.YtglijnhkdnhofaaGreat
open Go Go.Pi Go.RowKit
set_option maxRecDepth 100000
set_option linter.unusedVariables false
set_option linter.unusedSimpArgs false

def f62 (d : Int × Int × Int) : Int := dirE d
def f62_e : Entry := { doms := [(true, (.pair (.int .i64) (.pair (.int .i64) (.int .i64))))], cods := [(false, (.int .i64))], pre := fun _ => True, fn := f62, uq := false, total := true }
def f62_E : Env := [(61, f61_e), (83, f83_e), (85, f85_e)]
def f62_A : Anns := { loops := [], own := [1048576], unroll := 4 }
theorem f62_run (a0 : Int × Int × Int) (K : Int → Prop) : runF Tryz.prog f62_E f62_A 6 Tryz.f62 f62_e.doms f62_e.cods a0 K =
    (br (!(f85 (a0.1, 9)))
    (K (f61 ([(f83 (false, 2)), (f83 ((!((a0.1 == 0) && ((a0.2.1 == 0) && ((a0.2.2 == 0) && true)))), 11))] : List Int)))
    (br (!(f85 (a0.2.1, 9)))
    (K (f61 ([(f83 (false, 2)), (f83 ((!((a0.1 == 0) && ((a0.2.1 == 0) && ((a0.2.2 == 0) && true)))), 11))] : List Int)))
    (br (!(f85 (a0.2.2, 9)))
    (K (f61 ([(f83 (false, 2)), (f83 ((!((a0.1 == 0) && ((a0.2.1 == 0) && ((a0.2.2 == 0) && true)))), 11))] : List Int)))
    (K (f61 ([(f83 (true, 2)), (f83 ((!((a0.1 == 0) && ((a0.2.1 == 0) && ((a0.2.2 == 0) && true)))), 11))] : List Int)))))) := by kernel_rfl
theorem f62_t (a0 : Int × Int × Int) (K : Int → Prop) (hK : ∀ y : Int, y = f62 a0 → K y) : RunF Tryz.prog f62_E f62_A 6 Tryz.f62 f62_e.doms f62_e.cods a0 K := by
  refine ⟨?_⟩
  rw [f62_run a0 K]
  have e : ∀ n : Int, f85 (n, 9) = decide (-9 ≤ n ∧ n ≤ 9) := fun n => f85_eq (by omega) (by omega)
  simp only [e]
  refine br_two (fun h1 => hK _ ?_) fun h1 => br_two (fun h2 => hK _ ?_) fun h2 => br_two (fun h3 => hK _ ?_) fun h3 => hK _ ?_
  · simp only [Bool.not_eq_true', decide_eq_false_iff_not] at h1
    rw [f61_cons, f62, dirE, if_pos (fun h => h1 h.1)]; rfl
  · simp only [Bool.not_eq_true', decide_eq_false_iff_not] at h2
    rw [f61_cons, f62, dirE, if_pos (fun h => h2 h.2.1)]; rfl
  · simp only [Bool.not_eq_true', decide_eq_false_iff_not] at h3
    rw [f61_cons, f62, dirE, if_pos (fun h => h3 h.2.2)]; rfl
  · simp only [Bool.not_eq_false', decide_eq_true_iff] at h1 h2 h3
    have hv : V3.le a0 9 := ⟨h1, h2, h3⟩
    have e2 : f62 a0 = if a0 = (0, 0, 0) then 11 else 0 := by rw [f62, dirE, if_neg (fun h => h hv)]
    rw [e2, f61_cons, f61_cons, f61_nil]
    obtain ⟨x, y, z⟩ := a0
    by_cases hx : x = 0 <;> by_cases hy : y = 0 <;> by_cases hz : z = 0 <;> simp [f83, hx, hy, hz]
theorem f62_fn : f62_e.fn = f62 := rfl
theorem f62_ok : EntryOK Tryz.prog 62 f62_e := by
  refine entryF progOK (EnvOK.cons f61_ok (EnvOK.cons f83_ok (EnvOK.cons f85_ok (EnvOK.nil)))) (A := f62_A) (d := 6) Tryz.func62 rfl rfl rfl rfl (fun _ _ => trivial) fun x hpre => ?_
  exact f62_t x _ fun _ h => h.trans (congrFun f62_fn.symm _)
end Go.Proofs.YtglijnhkdnhofaaGreat
end

section
namespace Go.Proofs.YtglijnhkdnhofaaGreat
open Go Go.Pi Go.RowKit
set_option maxRecDepth 100000
set_option linter.unusedVariables false
set_option linter.unusedSimpArgs false

def f102 (x : (Int × Int) × Int) : Int := if ¬ (f85 (x.1.1, x.2) = true ∧ f85 (x.1.2, x.2) = true) then 2 else if x.1.1 ≤ x.1.2 then 0 else 9
def f102_e : Entry := { doms := [(true, (.pair (.int .i64) (.int .i64))), (false, (.int .i64))], cods := [(false, (.int .i64))], pre := fun _ => True, fn := f102, uq := false, total := true }
def f102_E : Env := [(61, f61_e), (83, f83_e), (85, f85_e)]
def f102_A : Anns := { loops := [], own := [] }
theorem f102_run (a0 : Int × Int) (a1 : Int) (K : Int → Prop) : runF Tryz.prog f102_E f102_A 6 Tryz.f102 f102_e.doms f102_e.cods (a0, a1) K =
    (br (f85 (a0.1, a1))
    (K (f61 ([(f83 ((f85 (a0.2, a1)), 2)), (f83 ((decide (a0.1 ≤ a0.2)), 9))] : List Int)))
    (K (f61 ([(f83 (false, 2)), (f83 ((decide (a0.1 ≤ a0.2)), 9))] : List Int)))) := by kernel_rfl
theorem f102_t (a0 : Int × Int) (a1 : Int) (K : Int → Prop) (hK : ∀ y : Int, y = f102 (a0, a1) → K y) : RunF Tryz.prog f102_E f102_A 6 Tryz.f102 f102_e.doms f102_e.cods (a0, a1) K := by
  refine ⟨?_⟩
  rw [f102_run a0 a1 K]
  refine br_two (fun h1 => hK _ ?_) fun h1 => hK _ ?_
  · rw [f61_cons, f61_cons, f61_nil]
    cases h2 : f85 (a0.2, a1) <;> by_cases h3 : a0.1 ≤ a0.2 <;> simp [f102, f83, h1, h2, h3]
  · rw [f61_cons]
    simp [f102, f83, h1]
theorem f102_fn : f102_e.fn = f102 := rfl
theorem f102_ok : EntryOK Tryz.prog 102 f102_e := by
  refine entryF progOK (EnvOK.cons f61_ok (EnvOK.cons f83_ok (EnvOK.cons f85_ok (EnvOK.nil)))) (A := f102_A) (d := 6) Tryz.func102 rfl rfl rfl rfl (fun _ _ => trivial) fun x hpre => ?_
  obtain ⟨a0, a1⟩ := x
  exact f102_t a0 a1 _ fun _ h => h.trans (congrFun f102_fn.symm _)
end Go.Proofs.YtglijnhkdnhofaaGreat
end

section
namespace Go.Proofs.YtglijnhkdnhofaaGreat
open Go Go.Pi Go.RowKit
set_option maxRecDepth 100000
set_option linter.unusedVariables false
set_option linter.unusedSimpArgs false

def f131 (x : Int × (Int × Int × Int) × Int × Int) : Int := rdE x.2
theorem f102_eq {r : Int × Int} {m : Int} (h : 0 ≤ m) (h2 : m ≤ 9223372036854775807) : f102 (r, m) = rngE r m := by
  unfold f102 rngE
  simp only [f85_eq h h2, decide_eq_true_eq]
def f131_e : Entry := { doms := [(false, (.int .i64)), (true, (.pair (.pair (.int .i64) (.pair (.int .i64) (.int .i64))) (.pair (.int .i64) (.int .i64))))], cods := [(false, (.int .i64))], pre := fun _ => True, fn := f131, uq := false, total := true }
def f131_E : Env := [(61, f61_e), (62, f62_e), (102, f102_e)]
def f131_A : Anns := { loops := [], own := [] }
theorem f131_run (a0 : Int) (a1 : (Int × Int × Int) × Int × Int) (K : Int → Prop) : runF Tryz.prog f131_E f131_A 6 Tryz.f131 f131_e.doms f131_e.cods (a0, a1) K =
    (K (f61 ([(f62 a1.1), (f102 (a1.2, 10000))] : List Int))) := by kernel_rfl
theorem f131_t (a0 : Int) (a1 : (Int × Int × Int) × Int × Int) (K : Int → Prop) (hK : ∀ y : Int, y = f131 (a0, a1) → K y) : RunF Tryz.prog f131_E f131_A 6 Tryz.f131 f131_e.doms f131_e.cods (a0, a1) K := by
  refine ⟨?_⟩
  rw [f131_run a0 a1 K]
  refine hK _ ?_
  have e1 : f62 a1.1 = dirE a1.1 := rfl
  have e2 : f102 (a1.2, 10000) = rngE a1.2 10000 := f102_eq (by omega) (by omega)
  rw [show f131 (a0, a1) = rdE a1 from rfl, rdE, f61_cons, f61_cons, f61_nil, e1, e2]
  by_cases h : dirE a1.1 = 0 <;> by_cases h2 : rngE a1.2 10000 = 0 <;> simp [h, h2]
theorem f131_fn : f131_e.fn = f131 := rfl
theorem f131_ok : EntryOK Tryz.prog 131 f131_e := by
  refine entryF progOK (EnvOK.cons f61_ok (EnvOK.cons f62_ok (EnvOK.cons f102_ok (EnvOK.nil)))) (A := f131_A) (d := 6) Tryz.func131 rfl rfl rfl rfl (fun _ _ => trivial) fun x hpre => ?_
  obtain ⟨a0, a1⟩ := x
  exact f131_t a0 a1 _ fun _ h => h.trans (congrFun f131_fn.symm _)
end Go.Proofs.YtglijnhkdnhofaaGreat
end

section
namespace Go.Proofs.YtglijnhkdnhofaaGreat
open Go Go.Pi Go.RowKit
set_option maxRecDepth 100000
set_option linter.unusedVariables false
set_option linter.unusedSimpArgs false

def f77 (l : List ((Int × Int × Int) × Int × Int)) : Int × Int := rdOf l
def f77_e : Entry := { doms := [(false, (.sl (.pair (.pair (.int .i64) (.pair (.int .i64) (.int .i64))) (.pair (.int .i64) (.int .i64)))))], cods := [(false, (.int .i64)), (false, (.int .i64))], pre := fun _ => True, fn := f77, uq := false, total := true }
def f77_E : Env := [(61, f61_e), (83, f83_e), (131, f131_e)]
def f77_A : Anns := { loops := [(1100586418176, { tms := [(2, .keep), (26, .keep), (27, .keep), (28, .data false (.int .i64))], obs := [], fz := [] })], own := [] }
theorem f77_run (a0 : List ((Int × Int × Int) × Int × Int)) (K : (Int × Int) → Prop) : runF Tryz.prog f77_E f77_A 6 Tryz.f77 f77_e.doms f77_e.cods a0 K =
    (br (lenOk (a0.length))
    (br (lenOk (a0.length))
    (br ((f61 ([(f83 ((decide (((a0.length) : Int) > 0)), 10)), (f83 ((decide (((a0.length) : Int) ≤ 6)), 8))] : List Int)) != 0)
    (K (0, (f61 ([(f83 ((decide (((a0.length) : Int) > 0)), 10)), (f83 ((decide (((a0.length) : Int) ≤ 6)), 8))] : List Int))))
    (br (lenOk (a0.length))
    (LoopP (V := Int × Unit) (fun again v => (fun (again1 : Int → Prop) (v1_0 : Int) =>
    br (decide (v1_0 < ((a0.length) : Int)))
    (br (decide (0 ≤ v1_0) && decide (v1_0 < ((a0.length) : Int)))
    (br ((f131 (v1_0, ((((a0.getD v1_0.toNat ((0, (0, 0)), (0, 0))).1).1, (((a0.getD v1_0.toNat ((0, (0, 0)), (0, 0))).1).2)), ((a0.getD v1_0.toNat ((0, (0, 0)), (0, 0))).2)))) != 0)
    (K (v1_0, (f131 (v1_0, ((((a0.getD v1_0.toNat ((0, (0, 0)), (0, 0))).1).1, (((a0.getD v1_0.toNat ((0, (0, 0)), (0, 0))).1).2)), ((a0.getD v1_0.toNat ((0, (0, 0)), (0, 0))).2))))))
    (again1 (IntKind.i64.wrap (v1_0 + 1))))
    False)
    (K (0, 0)))
    (fun v1_0 => again (v1_0, ())) v.1) (0, ()))
    True))
    True)
    True) := by kernel_rfl
theorem f77_t (a0 : List ((Int × Int × Int) × Int × Int)) (K : (Int × Int) → Prop) (hK : ∀ y : Int × Int, y = f77 a0 → K y) : RunF Tryz.prog f77_E f77_A 6 Tryz.f77 f77_e.doms f77_e.cods a0 K := by
  refine ⟨?_⟩
  rw [f77_run a0 K]
  rw [br_true_, lenOk_iff]
  intro hl
  refine br_weak ?_
  have e0 : f61 [f83 (decide ((a0.length : Int) > 0), 10), f83 (decide ((a0.length : Int) ≤ 6), 8)] = if a0.length = 0 then 10 else if a0.length > 6 then 8 else 0 := by
    rw [f61_cons, f61_cons, f61_nil]
    by_cases h0 : a0.length = 0
    · simp [f83, h0]
    · by_cases h1 : a0.length > 6
      · simp only [f83, if_neg h0, if_pos h1]
        rw [decide_eq_true (by omega), decide_eq_false (by omega)]; rfl
      · simp only [f83, if_neg h0, if_neg h1]
        rw [decide_eq_true (by omega), decide_eq_true (by omega)]; rfl
  rw [e0]
  refine br_two (fun h => hK _ ?_) fun h => br_weak ?_
  · have h := bne_t.1 h
    rw [f77, rdOf]
    by_cases h0 : a0.length = 0
    · rw [if_pos h0, if_pos h0]
    · by_cases h1 : a0.length > 6
      · rw [if_neg h0, if_pos h1, if_neg h0, if_pos h1]
      · rw [if_neg h0, if_neg h1] at h; exact absurd rfl h
  · have h := bne_f.1 h
    have h0 : ¬ a0.length = 0 := fun h0 => by rw [if_pos h0] at h; cases h
    have h1 : ¬ a0.length > 6 := fun h1 => by rw [if_neg h0, if_pos h1] at h; cases h
    refine each_loop (K := K) (n := a0.length) (e := fun i => rdE (a0.getD i rd0)) (hK _ (by rw [f77, rdOf, if_neg h0, if_neg h1])) (fun again i hi hI good bad fin => ?_)
    dsimp only
    refine br_if (fun hlt => ?_) fun hlt => fin (by omega)
    have hlt : i < a0.length := by omega
    refine br_must (inb (by omega) (by omega)) ?_
    rw [wr (n := (i : Int) + 1) (by omega) (by omega), Int.toNat_natCast]
    refine br_two (fun he => bad hlt (bne_t.1 he)) fun he => good hlt (bne_f.1 he)
theorem f77_fn : f77_e.fn = f77 := rfl
theorem f77_ok : EntryOK Tryz.prog 77 f77_e := by
  refine entryF progOK (EnvOK.cons f61_ok (EnvOK.cons f83_ok (EnvOK.cons f131_ok (EnvOK.nil)))) (A := f77_A) (d := 6) Tryz.func77 rfl rfl rfl rfl (fun _ _ => trivial) fun x hpre => ?_
  exact f77_t x _ fun _ h => h.trans (congrFun f77_fn.symm _)
end Go.Proofs.YtglijnhkdnhofaaGreat
end

section
namespace Go.Proofs.YtglijnhkdnhofaaGreat
open Go Go.Pi Go.RowKit
set_option maxRecDepth 100000
set_option linter.unusedVariables false
set_option linter.unusedSimpArgs false

def f60 (l : List ((Int × Int × Int) × Int × Int)) : List ((Int × Int × Int) × Int × Int) × Int := (l, (rdOf l).2)
def f60_e : Entry := { doms := [(false, (.sl (.pair (.pair (.int .i64) (.pair (.int .i64) (.int .i64))) (.pair (.int .i64) (.int .i64)))))], cods := [(false, (.sl (.pair (.pair (.int .i64) (.pair (.int .i64) (.int .i64))) (.pair (.int .i64) (.int .i64))))), (false, (.int .i64))], pre := fun _ => True, fn := f60, uq := false, total := true }
def f60_E : Env := [(77, f77_e)]
def f60_A : Anns := { loops := [], own := [] }
theorem f60_run (a0 : List ((Int × Int × Int) × Int × Int)) (K : (List ((Int × Int × Int) × Int × Int) × Int) → Prop) : runF Tryz.prog f60_E f60_A 6 Tryz.f60 f60_e.doms f60_e.cods a0 K =
    (K (a0, (f77 a0).2)) := by kernel_rfl
theorem f60_t (a0 : List ((Int × Int × Int) × Int × Int)) (K : (List ((Int × Int × Int) × Int × Int) × Int) → Prop) (hK : ∀ y : List ((Int × Int × Int) × Int × Int) × Int, y = f60 a0 → K y) : RunF Tryz.prog f60_E f60_A 6 Tryz.f60 f60_e.doms f60_e.cods a0 K := by
  refine ⟨?_⟩
  rw [f60_run a0 K]
  exact hK _ rfl
theorem f60_fn : f60_e.fn = f60 := rfl
theorem f60_ok : EntryOK Tryz.prog 60 f60_e := by
  refine entryF progOK (EnvOK.cons f77_ok (EnvOK.nil)) (A := f60_A) (d := 6) Tryz.func60 rfl rfl rfl rfl (fun _ _ => trivial) fun x hpre => ?_
  exact f60_t x _ fun _ h => h.trans (congrFun f60_fn.symm _)
end Go.Proofs.YtglijnhkdnhofaaGreat
end

section
namespace Go.Pi
set_option linter.unusedVariables false
theorem v3_z (x : V3) : ((x.1 == 0) && ((x.2.1 == 0) && ((x.2.2 == 0) && true))) = decide (x = (0, 0, 0)) := by
  obtain ⟨a, b, c⟩ := x
  rw [Bool.eq_iff_iff]
  simp
def rkStep (own : List V3) (d : V3) : List V3 := match own with
  | [] => [d]
  | [a] => if w3 (cross a d) = (0, 0, 0) then [a] else [a, d]
  | [a, b] => if w64 (dot (w3 (cross a b)) d) = 0 then [a, b] else [a, b, d]
  | l => l
def rkOwn (l : List V3) : List V3 := l.foldl rkStep []
theorem rkOwn_snoc (l : List V3) (d : V3) : rkOwn (l ++ [d]) = rkStep (rkOwn l) d := by simp [rkOwn]
theorem rkStep_len {own : List V3} (d : V3) (h : own.length ≤ 3) : (rkStep own d).length ≤ 3 := by
  match own, h with
  | [], _ => simp [rkStep]
  | [a], _ => simp only [rkStep]; split <;> simp
  | [a, b], _ => simp only [rkStep]; split <;> simp
  | a :: b :: c :: r, h => simpa [rkStep] using h
theorem foldl_rk_len : ∀ (l own : List V3), own.length ≤ 3 → (l.foldl rkStep own).length ≤ 3
  | [], own, h => h
  | d :: r, own, h => foldl_rk_len r _ (rkStep_len d h)
theorem rkOwn_len (l : List V3) : (rkOwn l).length ≤ 3 := foldl_rk_len l [] (by simp)
end Go.Pi
end

section
namespace Go.Proofs.YtglijnhkdnhofaaGreat
open Go Go.Pi Go.RowKit
set_option maxRecDepth 100000
set_option linter.unusedVariables false
set_option linter.unusedSimpArgs false

def f116 (l : List ((Int × Int × Int) × Int × Int)) : Int × List (Int × Int × Int) := (((rkOwn (l.map (·.1))).length : Int), rkOwn (l.map (·.1)))
def f116_e : Entry := { doms := [(false, (.sl (.pair (.pair (.int .i64) (.pair (.int .i64) (.int .i64))) (.pair (.int .i64) (.int .i64)))))], cods := [(false, (.int .i64)), (false, (.sl (.pair (.int .i64) (.pair (.int .i64) (.int .i64)))))], pre := fun _ => True, fn := f116, uq := false, total := true }
def f116_E : Env := [(66, f66_e), (120, f120_e)]
def f116_A : Anns := { loops := [(1048576, { tms := [(4, .ref 1056771), (8, .keep), (9, .keep), (10, .data false (.int .i64))], obs := [(1056771, .arr (.uniq) (.pair (.int .i64) (.pair (.int .i64) (.int .i64))))], fz := [] })], own := [] }
theorem f116_run (a0 : List ((Int × Int × Int) × Int × Int)) (K : (Int × List (Int × Int × Int)) → Prop) : runF Tryz.prog f116_E f116_A 6 Tryz.f116 f116_e.doms f116_e.cods a0 K =
    (br (lenOk (a0.length))
    (LoopP (V := Int × List (Int × Int × Int) × Unit) (fun again v => (fun (again1 : Int → List (Int × Int × Int) → Prop) (v1_0 : Int) (v1_1 : List (Int × Int × Int)) =>
    br (decide (v1_0 < ((a0.length) : Int)))
    (br (decide (0 ≤ v1_0) && decide (v1_0 < ((a0.length) : Int)))
    (br (lenOk (v1_1.length))
    (br (((v1_1.length) : Int) == 0)
    (br (roomOk ((v1_1.length) + 1) 24)
    (again1 (IntKind.i64.wrap (v1_0 + 1)) (v1_1 ++ ([(((a0.getD v1_0.toNat ((0, (0, 0)), (0, 0))).1).1, (((a0.getD v1_0.toNat ((0, (0, 0)), (0, 0))).1).2))] : List (Int × Int × Int))))
    False)
    (br (((v1_1.length) : Int) == 1)
    (br (decide (0 ≤ 0) && decide (0 < ((v1_1.length) : Int)))
    (br (!(((f120 (((v1_1.getD 0 (0, (0, 0))).1, ((v1_1.getD 0 (0, (0, 0))).2)), (((a0.getD v1_0.toNat ((0, (0, 0)), (0, 0))).1).1, (((a0.getD v1_0.toNat ((0, (0, 0)), (0, 0))).1).2)))).1 == 0) && ((((f120 (((v1_1.getD 0 (0, (0, 0))).1, ((v1_1.getD 0 (0, (0, 0))).2)), (((a0.getD v1_0.toNat ((0, (0, 0)), (0, 0))).1).1, (((a0.getD v1_0.toNat ((0, (0, 0)), (0, 0))).1).2)))).2).1 == 0) && ((((f120 (((v1_1.getD 0 (0, (0, 0))).1, ((v1_1.getD 0 (0, (0, 0))).2)), (((a0.getD v1_0.toNat ((0, (0, 0)), (0, 0))).1).1, (((a0.getD v1_0.toNat ((0, (0, 0)), (0, 0))).1).2)))).2).2 == 0) && true))))
    (br (roomOk ((v1_1.length) + 1) 24)
    (again1 (IntKind.i64.wrap (v1_0 + 1)) (v1_1 ++ ([(((a0.getD v1_0.toNat ((0, (0, 0)), (0, 0))).1).1, (((a0.getD v1_0.toNat ((0, (0, 0)), (0, 0))).1).2))] : List (Int × Int × Int))))
    False)
    (again1 (IntKind.i64.wrap (v1_0 + 1)) v1_1))
    False)
    (br (((v1_1.length) : Int) == 2)
    (br (decide (0 ≤ 0) && decide (0 < ((v1_1.length) : Int)))
    (br (decide (0 ≤ 1) && decide (1 < ((v1_1.length) : Int)))
    (br ((f66 (((f120 (((v1_1.getD 0 (0, (0, 0))).1, ((v1_1.getD 0 (0, (0, 0))).2)), ((v1_1.getD 1 (0, (0, 0))).1, ((v1_1.getD 1 (0, (0, 0))).2)))).1, ((f120 (((v1_1.getD 0 (0, (0, 0))).1, ((v1_1.getD 0 (0, (0, 0))).2)), ((v1_1.getD 1 (0, (0, 0))).1, ((v1_1.getD 1 (0, (0, 0))).2)))).2)), (((a0.getD v1_0.toNat ((0, (0, 0)), (0, 0))).1).1, (((a0.getD v1_0.toNat ((0, (0, 0)), (0, 0))).1).2)))) != 0)
    (br (roomOk ((v1_1.length) + 1) 24)
    (again1 (IntKind.i64.wrap (v1_0 + 1)) (v1_1 ++ ([(((a0.getD v1_0.toNat ((0, (0, 0)), (0, 0))).1).1, (((a0.getD v1_0.toNat ((0, (0, 0)), (0, 0))).1).2))] : List (Int × Int × Int))))
    False)
    (again1 (IntKind.i64.wrap (v1_0 + 1)) v1_1))
    False)
    False)
    (again1 (IntKind.i64.wrap (v1_0 + 1)) v1_1))))
    True)
    False)
    (br (lenOk (v1_1.length))
    (K (((v1_1.length) : Int), v1_1))
    True))
    (fun v1_0 v1_1 => again (v1_0, v1_1, ())) v.1 v.2.1) (0, ([] : List (Int × Int × Int)), ()))
    True) := by kernel_rfl
theorem f116_t (a0 : List ((Int × Int × Int) × Int × Int)) (K : (Int × List (Int × Int × Int)) → Prop) (hK : ∀ y : Int × List (Int × Int × Int), y = f116 a0 → K y) : RunF Tryz.prog f116_E f116_A 6 Tryz.f116 f116_e.doms f116_e.cods a0 K := by
  refine ⟨?_⟩
  rw [f116_run a0 K]
  rw [br_true_, lenOk_iff]
  intro hl
  refine LoopP.of (fun q : Int × List (Int × Int × Int) × Unit => ∃ i : Nat, i ≤ a0.length ∧ q.1 = (i : Int) ∧ q.2.1 = rkOwn ((a0.take i).map (·.1))) (fun q => ((a0.length : Int) - q.1).toNat) (fun again q hq hag => ?_) ⟨0, by omega, rfl, rfl⟩
  obtain ⟨j, own, u⟩ := q
  obtain ⟨i, hi, e1, e2⟩ := hq
  simp only at e1 e2
  subst e1
  dsimp only
  have h3 : own.length ≤ 3 := by rw [e2]; exact rkOwn_len _
  have room : ∀ m : Nat, m ≤ 3 → roomOk (m + 1) 24 = true := fun m hm => by rw [roomOk_iff]; omega
  refine br_if (fun hlt => br_must (inb (by omega) hlt) (br_weak ?_)) fun hlt => br_weak (hK _ ?_)
  · have hlt : i < a0.length := by omega
    rw [wr (n := (i : Int) + 1) (by omega) (by omega), Int.toNat_natCast]
    have hn : rkOwn ((a0.take (i + 1)).map (·.1)) = rkStep own (a0.getD i ((0, 0, 0), 0, 0)).1 := by
      rw [List.take_add_one, List.getElem?_eq_getElem hlt, getD_lt hlt, List.map_append, e2]
      exact rkOwn_snoc _ _
    generalize a0.getD i ((0, 0, 0), 0, 0) = x at *
    have go : ∀ own' : List V3, own' = rkStep own x.1 → again ((i : Int) + 1, own', ()) := fun own' e => by
      exact hag ((i : Int) + 1, own', ()) ⟨i + 1, by omega, by simp, by rw [hn]; exact e⟩ (by simp only; omega)
    clear hn e2
    match own, h3, go with
    | [], _, go =>
      refine br_two (fun _ => br_must (room _ (by simp)) (go _ rfl)) fun h => ?_
      simp at h
    | [a], _, go =>
      refine br_two (fun h => by simp at h) fun _ => br_two (fun _ => br_must (by simp) ?_) fun h => by simp at h
      have e : ((f120 (a, x.1)).1 == 0 && ((f120 (a, x.1)).2.1 == 0 && ((f120 (a, x.1)).2.2 == 0 && true))) = decide (w3 (cross a x.1) = (0, 0, 0)) := v3_z _
      show br (!((f120 (a, x.1)).1 == 0 && ((f120 (a, x.1)).2.1 == 0 && ((f120 (a, x.1)).2.2 == 0 && true)))) _ _
      rw [e]
      refine br_two (fun h => br_must (room _ (by simp)) (go _ ?_)) fun h => go _ ?_
      · simp only [rkStep, if_neg (nd_t.1 h)]; rfl
      · simp only [rkStep, if_pos (nd_f.1 h)]
    | [a, b], _, go =>
      refine br_two (fun h => by simp at h) fun _ => br_two (fun h => by simp at h) fun _ => br_two (fun _ => br_must (by simp) (br_must (by simp) ?_)) fun h => by simp at h
      show br (w64 (dot (w3 (cross a b)) x.1) != 0) _ _
      refine br_two (fun h => br_must (room _ (by simp)) (go _ ?_)) fun h => go _ ?_
      · simp only [rkStep, if_neg (bne_t.1 h)]; rfl
      · simp only [rkStep, if_pos (bne_f.1 h)]
    | [a, b, c], _, go =>
      refine br_two (fun h => by simp at h) fun _ => br_two (fun h => by simp at h) fun _ => br_two (fun h => by simp at h) fun _ => go _ rfl
  · have : i = a0.length := by omega
    subst this
    rw [e2, List.take_length]
    rfl
theorem f116_fn : f116_e.fn = f116 := rfl
theorem f116_ok : EntryOK Tryz.prog 116 f116_e := by
  refine entryF progOK (EnvOK.cons f66_ok (EnvOK.cons f120_ok (EnvOK.nil))) (A := f116_A) (d := 6) Tryz.func116 rfl rfl rfl rfl (fun _ _ => trivial) fun x hpre => ?_
  exact f116_t x _ fun _ h => h.trans (congrFun f116_fn.symm _)
end Go.Proofs.YtglijnhkdnhofaaGreat
end

section
namespace Go.Proofs.YtglijnhkdnhofaaGreat
open Go Go.Pi Go.RowKit
set_option maxRecDepth 100000
set_option linter.unusedVariables false
set_option linter.unusedSimpArgs false

def f63 (l : List ((Int × Int × Int) × Int × Int)) : Int := if (rkOwn (l.map (·.1))).length = 3 then 0 else 19
def f63_e : Entry := { doms := [(false, (.sl (.pair (.pair (.int .i64) (.pair (.int .i64) (.int .i64))) (.pair (.int .i64) (.int .i64)))))], cods := [(false, (.int .i64))], pre := fun _ => True, fn := f63, uq := false, total := true }
def f63_E : Env := [(83, f83_e), (116, f116_e)]
def f63_A : Anns := { loops := [], own := [] }
theorem f63_run (a0 : List ((Int × Int × Int) × Int × Int)) (K : Int → Prop) : runF Tryz.prog f63_E f63_A 6 Tryz.f63 f63_e.doms f63_e.cods a0 K =
    (K (f83 (((f116 a0).1 == 3), 19))) := by kernel_rfl
theorem f63_t (a0 : List ((Int × Int × Int) × Int × Int)) (K : Int → Prop) (hK : ∀ y : Int, y = f63 a0 → K y) : RunF Tryz.prog f63_E f63_A 6 Tryz.f63 f63_e.doms f63_e.cods a0 K := by
  refine ⟨?_⟩
  rw [f63_run a0 K]
  refine hK _ ?_
  show f83 (((rkOwn (a0.map (·.1))).length : Int) == 3, 19) = _
  rw [f63, f83]
  by_cases h : (rkOwn (a0.map (·.1))).length = 3
  · simp [h]
  · rw [if_neg h]
    have : ((((rkOwn (a0.map (·.1))).length : Int)) == 3) = false := by rw [beq_eq_false_iff_ne]; omega
    simp [this]
theorem f63_fn : f63_e.fn = f63 := rfl
theorem f63_ok : EntryOK Tryz.prog 63 f63_e := by
  refine entryF progOK (EnvOK.cons f83_ok (EnvOK.cons f116_ok (EnvOK.nil))) (A := f63_A) (d := 6) Tryz.func63 rfl rfl rfl rfl (fun _ _ => trivial) fun x hpre => ?_
  exact f63_t x _ fun _ h => h.trans (congrFun f63_fn.symm _)
end Go.Proofs.YtglijnhkdnhofaaGreat
end

section
namespace Go.Proofs.YtglijnhkdnhofaaGreat
open Go Go.Pi Go.RowKit
set_option maxRecDepth 100000
set_option linter.unusedVariables false
set_option linter.unusedSimpArgs false

def f64 (x : Int × Int) : Int × Int := low x.1 x.2
def f64_pre (x : Int × Int) : Prop := Fit x.1 ∧ Fit x.2 ∧ x.2 ≠ 0
def f64_e : Entry := { doms := [(false, (.int .i64)), (false, (.int .i64))], cods := [(true, (.pair (.int .i64) (.int .i64)))], pre := f64_pre, fn := f64, uq := false, total := false }
def f64_E : Env := [(126, f126_e)]
def f64_A : Anns := { loops := [], own := [] }
theorem f64_run (a0 : Int) (a1 : Int) (K : (Int × Int) → Prop) : runF Tryz.prog f64_E f64_A 6 Tryz.f64 f64_e.doms f64_e.cods (a0, a1) K =
    (f126_pre ([a0, a1] : List Int) ∧
    br (decide (a1 < 0))
    (br (!(decide ((IntKind.i64.wrap (0 - (f126 ([a0, a1] : List Int)))) = 0)))
    (br (!(decide ((IntKind.i64.wrap (0 - (f126 ([a0, a1] : List Int)))) = 0)))
    (K ((IntKind.i64.wrap (a0.tdiv (IntKind.i64.wrap (0 - (f126 ([a0, a1] : List Int)))))), (IntKind.i64.wrap (a1.tdiv (IntKind.i64.wrap (0 - (f126 ([a0, a1] : List Int))))))))
    False)
    False)
    (br (!(decide ((f126 ([a0, a1] : List Int)) = 0)))
    (br (!(decide ((f126 ([a0, a1] : List Int)) = 0)))
    (K ((IntKind.i64.wrap (a0.tdiv (f126 ([a0, a1] : List Int)))), (IntKind.i64.wrap (a1.tdiv (f126 ([a0, a1] : List Int))))))
    False)
    False)) := by kernel_rfl
theorem f64_t (a0 : Int) (a1 : Int) (hpre : f64_pre (a0, a1)) (K : (Int × Int) → Prop) (hK : ∀ y : Int × Int, y = f64 (a0, a1) → K y) : RunF Tryz.prog f64_E f64_A 6 Tryz.f64 f64_e.doms f64_e.cods (a0, a1) K := by
  refine ⟨?_⟩
  rw [f64_run a0 a1 K]
  obtain ⟨h1, h2, h3⟩ := hpre
  dsimp only at h1 h2 h3
  have hp : f126_pre [a0, a1] := fun n hn => by
    rcases List.mem_cons.1 hn with rfl | hn
    · exact h1
    · rcases List.mem_cons.1 hn with rfl | hn
      · exact h2
      · cases hn
  have hg : f126 [a0, a1] = (Nat.gcd a0.natAbs a1.natAbs : Int) := by simp [f126, gcdL]
  have hle := gcdL_fit hp
  have hpos : 0 < Nat.gcd a0.natAbs a1.natAbs := Nat.gcd_pos_of_pos_right _ (by omega)
  have hle2 : Nat.gcd a0.natAbs a1.natAbs ≤ 9223372036854775807 := by simpa [gcdL] using hle
  have hng : IntKind.i64.wrap (0 - (Nat.gcd a0.natAbs a1.natAbs : Int)) = -(Nat.gcd a0.natAbs a1.natAbs : Int) := by rw [wr (by omega) (by omega)]; omega
  have hw : ∀ n : Int, Fit n → IntKind.i64.wrap n = n := fun n h => w64_fit h
  rw [hg, hng]
  refine ⟨hp, br_if (fun hd => br_must (ne_zero_b (by omega)) (br_must (ne_zero_b (by omega)) (hK _ ?_))) fun hd => br_must (ne_zero_b (by omega)) (br_must (ne_zero_b (by omega)) (hK _ ?_))⟩
  · rw [hw _ (tdiv_fit h1), hw _ (tdiv_fit h2), f64, low, if_pos hd]
  · rw [hw _ (tdiv_fit h1), hw _ (tdiv_fit h2), f64, low, if_neg hd]
theorem f64_fn : f64_e.fn = f64 := rfl
theorem f64_ok : EntryOK Tryz.prog 64 f64_e := by
  refine entryF progOK (EnvOK.cons f126_ok (EnvOK.nil)) (A := f64_A) (d := 6) Tryz.func64 rfl rfl rfl rfl (fun h => by cases h) fun x hpre => ?_
  obtain ⟨a0, a1⟩ := x
  exact f64_t a0 a1 hpre _ fun _ h => h.trans (congrFun f64_fn.symm _)
end Go.Proofs.YtglijnhkdnhofaaGreat
end

section
namespace Go.Pi
set_option linter.unusedVariables false
theorem low_pos {n d : Int} (h : 0 < d) : 0 < (low n d).2 ∧ (low n d).2 ≤ d := by
  have hg : 0 < Nat.gcd n.natAbs d.natAbs := Nat.gcd_pos_of_pos_right _ (by omega)
  unfold low
  rw [if_neg (by omega)]
  show 0 < d.tdiv _ ∧ d.tdiv _ ≤ d
  obtain ⟨k, hk⟩ := Nat.gcd_dvd_right n.natAbs d.natAbs
  generalize Nat.gcd n.natAbs d.natAbs = g at *
  have e : d = (g : Int) * k := by have : (d.natAbs : Int) = ((g * k : Nat) : Int) := by rw [← hk]
                                   rw [Int.natCast_mul] at this; omega
  have e2 : d.tdiv (g : Int) = k := by rw [e]; exact Int.mul_tdiv_cancel_left _ (by omega)
  rw [e2]
  have hk0 : 0 < (k : Int) := by
    rcases Nat.eq_zero_or_pos k with h0 | h0
    · subst h0; simp at e; omega
    · omega
  refine ⟨hk0, ?_⟩
  rw [e]
  have : 1 * (k : Int) ≤ (g : Int) * k := Int.mul_le_mul_of_nonneg_right (by omega) (by omega)
  omega
theorem low_le {n d m : Int} (h : -m ≤ n ∧ n ≤ m) : -m ≤ (low n d).1 ∧ (low n d).1 ≤ m := by
  unfold low
  split <;> exact tdiv_size h
theorem low_mul {n d : Int} (h : 0 < d) : (low n d).1 * d = n * (low n d).2 := by
  have hg : 0 < Nat.gcd n.natAbs d.natAbs := Nat.gcd_pos_of_pos_right _ (by omega)
  unfold low
  rw [if_neg (by omega)]
  show n.tdiv _ * d = n * d.tdiv _
  have h1 : ((Nat.gcd n.natAbs d.natAbs : Nat) : Int) ∣ n := by rw [← Int.natAbs_dvd_natAbs]; exact Nat.gcd_dvd_left _ _
  have h2 : ((Nat.gcd n.natAbs d.natAbs : Nat) : Int) ∣ d := by rw [← Int.natAbs_dvd_natAbs]; exact Nat.gcd_dvd_right _ _
  have e1 := Int.mul_tdiv_cancel' h1
  have e2 := Int.mul_tdiv_cancel' h2
  generalize n.tdiv _ = x at *
  generalize d.tdiv _ = y at *
  generalize ((Nat.gcd n.natAbs d.natAbs : Nat) : Int) = g at *
  rw [← e1, ← e2]
  grind
def fracs (vs : List WV) (d : V3) : List (Int × Int) := vs.map fun v => low (dot (wpt v) d) v.2.2.2
def less2 (a b : Int × Int) : Int := a.1 * b.2 - b.1 * a.2
def pickF (t : Int → Bool) (m x : Int × Int) : Int × Int := if t (less2 x m) = true then x else m
def pick (t : Int → Bool) (l : List (Int × Int)) : Int × Int := (l.drop 1).foldl (pickF t) (l.getD 0 (0, 0))
def minF (l : List (Int × Int)) : Int × Int := pick (fun n => decide (n < 0)) l
def maxF (l : List (Int × Int)) : Int × Int := pick (fun n => decide (n > 0)) l
def spanW (vs : List WV) (d : V3) : (Int × Int) × Int × Int := (minF (fracs vs d), maxF (fracs vs d))
def no4 : (Int × Int) × Int × Int := ((0, 0), (0, 0))
def rangeW (l : List Rd) (d : V3) : ((Int × Int) × Int × Int) × Int :=
  if (rdOf l).2 ≠ 0 then (no4, (rdOf l).2) else if dirE d ≠ 0 then (no4, dirE d) else if (rkOwn (l.map (·.1))).length ≠ 3 then (no4, 19) else if (vtx l).length = 0 then (no4, 12) else (spanW (vtx l) d, 0)
def errW (l : List Rd) (d : V3) : Int := if (rdOf l).2 ≠ 0 then (rdOf l).2 else if dirE d ≠ 0 then dirE d else if (rkOwn (l.map (·.1))).length = 3 then 0 else 19
theorem rangeW_err (l : List Rd) (d : V3) (h : errW l d ≠ 0) : rangeW l d = (no4, errW l d) := by
  unfold errW at h ⊢
  unfold rangeW
  by_cases h1 : (rdOf l).2 ≠ 0
  · rw [if_pos h1, if_pos h1]
  · by_cases h2 : dirE d ≠ 0
    · rw [if_neg h1, if_neg h1, if_pos h2, if_pos h2]
    · by_cases h3 : (rkOwn (l.map (·.1))).length = 3
      · rw [if_neg h1, if_neg h2, if_pos h3] at h; exact absurd rfl h
      · rw [if_neg h1, if_neg h1, if_neg h2, if_neg h2, if_pos h3, if_neg h3]
theorem errW_zero {l : List Rd} {d : V3} (h : errW l d = 0) : (rdOf l).2 = 0 ∧ dirE d = 0 ∧ (rkOwn (l.map (·.1))).length = 3 := by
  unfold errW at h
  by_cases h1 : (rdOf l).2 ≠ 0
  · rw [if_pos h1] at h; exact absurd h h1
  · by_cases h2 : dirE d ≠ 0
    · rw [if_neg h1, if_pos h2] at h; exact absurd h h2
    · by_cases h3 : (rkOwn (l.map (·.1))).length = 3
      · exact ⟨Classical.byContradiction h1, Classical.byContradiction h2, h3⟩
      · rw [if_neg h1, if_neg h2, if_neg h3] at h; cases h
theorem pick_take (t : Int → Bool) (l : List (Int × Int)) {i : Nat} (h1 : 1 ≤ i) (h : i < l.length) : pick t (l.take (i + 1)) = pickF t (pick t (l.take i)) (l.getD i (0, 0)) := by
  have e : l.take (i + 1) = l.take i ++ [l.getD i (0, 0)] := by
    rw [List.take_add_one, List.getElem?_eq_getElem h, getD_lt h]; rfl
  unfold pick
  have e2 : (l.take (i + 1)).drop 1 = (l.take i).drop 1 ++ [l.getD i (0, 0)] := by
    rw [e, List.drop_append_of_le_length (by rw [List.length_take]; omega)]
  have e3 : (l.take (i + 1)).getD 0 (0, 0) = (l.take i).getD 0 (0, 0) := by
    simp only [List.getD_eq_getElem?_getD, List.getElem?_take]
    rw [if_pos (by omega), if_pos (by omega)]
  rw [e2, e3, List.foldl_append]
  rfl
/-- Fractions whose products are far from an int's limits. -/
def FS (x : Int × Int) : Prop := (-200000000 ≤ x.1 ∧ x.1 ≤ 200000000) ∧ 0 < x.2 ∧ x.2 ≤ 100000
theorem less2_w {a b : Int × Int} (ha : FS a) (hb : FS b) : w64 (a.1 * b.2 - b.1 * a.2) = less2 a b := by
  have h1 := mul_le ha.1 (show -100000 ≤ b.2 ∧ b.2 ≤ 100000 from ⟨by have := hb.2.1; omega, hb.2.2⟩)
  have h2 := mul_le hb.1 (show -100000 ≤ a.2 ∧ a.2 ≤ 100000 from ⟨by have := ha.2.1; omega, ha.2.2⟩)
  exact w64_in (by omega) (by omega)
theorem pickF_fs {t : Int → Bool} {m x : Int × Int} (hm : FS m) (hx : FS x) : FS (pickF t m x) := by
  unfold pickF; split
  · exact hx
  · exact hm
theorem pick_fs {t : Int → Bool} {l : List (Int × Int)} (h0 : 0 < l.length) (h : ∀ x ∈ l, FS x) : FS (pick t l) := by
  have key : ∀ (r : List (Int × Int)) (m : Int × Int), FS m → (∀ x ∈ r, FS x) → FS (r.foldl (pickF t) m) := by
    intro r
    induction r with
    | nil => intro m hm _; exact hm
    | cons x r ih => intro m hm hr; exact ih _ (pickF_fs hm (hr x (.head _))) fun y hy => hr y (.tail _ hy)
  exact key _ _ (h _ (getD_mem h0)) fun x hx => h x (List.mem_of_mem_drop hx)
theorem dirE_zero {d : V3} (h : dirE d = 0) : V3.le d 9 ∧ d ≠ (0, 0, 0) := by
  unfold dirE at h
  split at h
  · simp at h
  · rename_i h2
    split at h
    · simp at h
    · rename_i h3
      exact ⟨Classical.byContradiction h2, h3⟩
theorem fracs_fs {l : List Rd} (h : RdLe l) {d : V3} (hd : V3.le d 9) : ∀ x ∈ fracs (vtx l) d, FS x := fun x hx => by
  obtain ⟨v, hv, rfl⟩ := List.mem_map.1 hx
  obtain ⟨h1, h2, h3⟩ := cands_ok h v (vtx_mem.1 hv)
  have h4 := dot_le h3 hd
  have h5 := low_pos (n := dot (wpt v) d) h1.den
  have h6 := low_le (d := v.2.2.2) (m := 200000000) (show -200000000 ≤ dot (wpt v) d ∧ dot (wpt v) d ≤ 200000000 from ⟨by omega, by omega⟩)
  exact ⟨h6, h5.1, by omega⟩
theorem rangeW_ok {l : List Rd} {d : V3} (h : (rangeW l d).2 = 0) : (rdOf l).2 = 0 ∧ dirE d = 0 ∧ (rkOwn (l.map (·.1))).length = 3 ∧ 0 < (vtx l).length ∧ rangeW l d = (spanW (vtx l) d, 0) := by
  by_cases he : errW l d = 0
  · obtain ⟨h1, h2, h3⟩ := errW_zero he
    unfold rangeW at h ⊢
    rw [if_neg (fun hh => hh h1), if_neg (fun hh => hh h2), if_neg (fun hh => hh h3)] at h ⊢
    by_cases h4 : (vtx l).length = 0
    · rw [if_pos h4] at h; cases h
    · rw [if_neg h4]; exact ⟨h1, h2, h3, by omega, rfl⟩
  · rw [rangeW_err l d he] at h; exact absurd h he
theorem spanW_fs {l : List Rd} {d : V3} (h : (rangeW l d).2 = 0) : FS (rangeW l d).1.1 ∧ FS (rangeW l d).1.2 := by
  obtain ⟨h1, h2, h3, h4, h5⟩ := rangeW_ok h
  have hf := fracs_fs (rdOf_ok h1).rdLe (dirE_zero h2).1
  have hl : 0 < (fracs (vtx l) d).length := by simp [fracs]; exact h4
  rw [h5]
  exact ⟨pick_fs hl hf, pick_fs hl hf⟩
def headW (l : List Rd) (d : V3) : (Int × Int) × Int := if (rangeW l d).2 ≠ 0 then ((0, 0), (rangeW l d).2) else (((rangeW l d).1.1.1 / (rangeW l d).1.1.2, -((-(rangeW l d).1.2.1) / (rangeW l d).1.2.2)), 0)
end Go.Pi
end
