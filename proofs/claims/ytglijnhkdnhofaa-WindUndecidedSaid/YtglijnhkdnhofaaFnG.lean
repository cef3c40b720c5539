/- What functions of the program compute, each proved once, part 7. -/
import Derived.Test.YtglijnhkdnhofaaPiD
import Derived.Test.YtglijnhkdnhofaaFnA
import Derived.Test.YtglijnhkdnhofaaFnF
import Derived.Test.YtglijnhkdnhofaaFnE

section
namespace Go.Proofs.Ytglijnhkdnhofaa
open Go Go.Pi Go.RowKit
set_option maxRecDepth 100000
set_option linter.unusedVariables false
set_option linter.unusedSimpArgs false

def f26 (l : List ((Int × Int × Int) × Int × Int)) : Int × Int := rdOf l
def f26_e : Entry := { doms := [(false, (.sl (.pair (.pair (.int .i64) (.pair (.int .i64) (.int .i64))) (.pair (.int .i64) (.int .i64)))))], cods := [(false, (.int .i64)), (false, (.int .i64))], pre := fun _ => True, fn := f26, uq := false, total := true }
def f26_E : Env := [(35, f35_e), (77, f77_e)]
def f26_A : Anns := { loops := [(1048576, { tms := [(0, .keep), (4, .data false (.int .i64))], obs := [], fz := [] })], own := [] }
theorem f26_run (a0 : List ((Int × Int × Int) × Int × Int)) (K : (Int × Int) → Prop) : runF Try.prog f26_E f26_A 6 Try.f26 f26_e.doms f26_e.cods a0 K =
    (br (lenOk (a0.length))
    (br (((a0.length) : Int) == 0)
    (K (0, 10))
    (br (lenOk (a0.length))
    (br (decide (((a0.length) : Int) > 6))
    (K (0, 8))
    (LoopP (V := Int × Unit) (fun again v => (fun (again1 : Int → Prop) (v1_0 : Int) =>
    br (lenOk (a0.length))
    (br (decide (v1_0 < ((a0.length) : Int)))
    (br (decide (0 ≤ v1_0) && decide (v1_0 < ((a0.length) : Int)))
    (br ((f77 (((a0.getD v1_0.toNat ((0, (0, 0)), (0, 0))).1).1, (((a0.getD v1_0.toNat ((0, (0, 0)), (0, 0))).1).2))) != 0)
    (K (v1_0, (f77 (((a0.getD v1_0.toNat ((0, (0, 0)), (0, 0))).1).1, (((a0.getD v1_0.toNat ((0, (0, 0)), (0, 0))).1).2)))))
    (br (decide (0 ≤ v1_0) && decide (v1_0 < ((a0.length) : Int)))
    (br (!(f35 (((a0.getD v1_0.toNat ((0, (0, 0)), (0, 0))).2).1, ((-10000), 10000))))
    (K (v1_0, 2))
    (br (decide (0 ≤ v1_0) && decide (v1_0 < ((a0.length) : Int)))
    (br (!(f35 (((a0.getD v1_0.toNat ((0, (0, 0)), (0, 0))).2).2, ((-10000), 10000))))
    (K (v1_0, 2))
    (br (decide (0 ≤ v1_0) && decide (v1_0 < ((a0.length) : Int)))
    (br (decide (0 ≤ v1_0) && decide (v1_0 < ((a0.length) : Int)))
    (br (decide (((a0.getD v1_0.toNat ((0, (0, 0)), (0, 0))).2).1 > ((a0.getD v1_0.toNat ((0, (0, 0)), (0, 0))).2).2))
    (K (v1_0, 9))
    (again1 (IntKind.i64.wrap (v1_0 + 1))))
    False)
    False))
    False))
    False))
    False)
    (K (0, 0)))
    True)
    (fun v1_0 => again (v1_0, ())) v.1) (0, ())))
    True))
    True) := by kernel_rfl
theorem f26_t (a0 : List ((Int × Int × Int) × Int × Int)) (K : (Int × Int) → Prop) (hK : ∀ y : Int × Int, y = f26 a0 → K y) : RunF Try.prog f26_E f26_A 6 Try.f26 f26_e.doms f26_e.cods a0 K := by
  refine ⟨?_⟩
  rw [f26_run a0 K]
  rw [br_true_, lenOk_iff]
  intro hl
  refine br_two (fun h => hK _ ?_) fun h => br_weak (br_if (fun h2 => hK _ ?_) fun h2 => ?_)
  · have h : a0.length = 0 := by have := beq_iff_eq.1 h; omega
    rw [f26, rdOf, if_pos h]
  · have h : ¬ a0.length = 0 := by have := beq_eq_false_iff_ne.1 h; omega
    rw [f26, rdOf, if_neg h, if_pos (by omega)]
  · have h0 : ¬ a0.length = 0 := by have := beq_eq_false_iff_ne.1 h; omega
    have h1 : ¬ a0.length > 6 := by omega
    refine each_loop (K := K) (n := a0.length) (e := fun i => rdE (a0.getD i rd0)) (hK _ (by rw [f26, rdOf, if_neg h0, if_neg h1])) (fun again i hi hI good bad fin => ?_)
    dsimp only
    refine br_weak (br_if (fun hlt => ?_) fun hlt => fin (by omega))
    have hlt : i < a0.length := by omega
    have b0 : (decide (0 ≤ (i : Int)) && decide ((i : Int) < (a0.length : Int))) = true := inb (by omega) (by omega)
    have e35 : ∀ n : Int, f35 (n, -10000, 10000) = decide (-10000 ≤ n ∧ n ≤ 10000) := fun n => by simp [f35]
    rw [wr (n := (i : Int) + 1) (by omega) (by omega), Int.toNat_natCast]
    generalize hx : a0.getD i ((0, 0, 0), 0, 0) = x at *
    have hx : a0.getD i rd0 = x := hx
    rw [hx] at good bad
    have hd : f77 x.1 = dirE x.1 := rfl
    refine br_must b0 (br_two (fun he => ?_) fun he => br_must b0 (br_two (fun h3 => ?_) fun h3 => br_must b0 (br_two (fun h4 => ?_) fun h4 => br_must b0 (br_must b0 (br_if (fun h5 => ?_) fun h5 => ?_)))))
    · have he : dirE x.1 ≠ 0 := bne_t.1 he
      have := bad hlt (by rw [rdE, if_pos he]; exact he)
      rwa [rdE, if_pos he] at this
    · have he : dirE x.1 = 0 := bne_f.1 he
      rw [e35] at h3
      have e : rdE x = 2 := by rw [rdE, if_neg (fun h => h he), rngE, if_pos (fun h => nd_t.1 h3 h.1)]
      have := bad hlt (by rw [e]; decide)
      rwa [e] at this
    · have he : dirE x.1 = 0 := bne_f.1 he
      rw [e35] at h4
      have e : rdE x = 2 := by rw [rdE, if_neg (fun h => h he), rngE, if_pos (fun h => nd_t.1 h4 h.2)]
      have := bad hlt (by rw [e]; decide)
      rwa [e] at this
    · have he : dirE x.1 = 0 := bne_f.1 he
      rw [e35] at h3 h4
      have e : rdE x = 9 := by rw [rdE, if_neg (fun h => h he), rngE, if_neg (fun h => h ⟨nd_f.1 h3, nd_f.1 h4⟩), if_neg (by omega)]
      have := bad hlt (by rw [e]; decide)
      rwa [e] at this
    · have he : dirE x.1 = 0 := bne_f.1 he
      rw [e35] at h3 h4
      have e : rdE x = 0 := by rw [rdE, if_neg (fun h => h he), rngE, if_neg (fun h => h ⟨nd_f.1 h3, nd_f.1 h4⟩), if_pos (by omega)]
      exact good hlt e
theorem f26_fn : f26_e.fn = f26 := rfl
theorem f26_ok : EntryOK Try.prog 26 f26_e := by
  refine entryF progOK (EnvOK.cons f35_ok (EnvOK.cons f77_ok (EnvOK.nil))) (A := f26_A) (d := 6) Try.func26 rfl rfl rfl rfl (fun _ _ => trivial) fun x hpre => ?_
  exact f26_t x _ fun _ h => h.trans (congrFun f26_fn.symm _)
end Go.Proofs.Ytglijnhkdnhofaa
end

section
namespace Go.Proofs.Ytglijnhkdnhofaa
open Go Go.Pi Go.RowKit
set_option maxRecDepth 100000
set_option linter.unusedVariables false
set_option linter.unusedSimpArgs false

def f32 (l : List ((Int × Int × Int) × Int × Int)) : Int := (rdOf l).2
def f32_e : Entry := { doms := [(false, (.sl (.pair (.pair (.int .i64) (.pair (.int .i64) (.int .i64))) (.pair (.int .i64) (.int .i64)))))], cods := [(false, (.int .i64))], pre := fun _ => True, fn := f32, uq := false, total := true }
def f32_E : Env := [(26, f26_e)]
def f32_A : Anns := { loops := [], own := [] }
theorem f32_run (a0 : List ((Int × Int × Int) × Int × Int)) (K : Int → Prop) : runF Try.prog f32_E f32_A 6 Try.f32 f32_e.doms f32_e.cods a0 K =
    (K ((f26 a0).2)) := by kernel_rfl
theorem f32_t (a0 : List ((Int × Int × Int) × Int × Int)) (K : Int → Prop) (hK : ∀ y : Int, y = f32 a0 → K y) : RunF Try.prog f32_E f32_A 6 Try.f32 f32_e.doms f32_e.cods a0 K := by
  refine ⟨?_⟩
  rw [f32_run a0 K]
  exact hK _ rfl
theorem f32_fn : f32_e.fn = f32 := rfl
theorem f32_ok : EntryOK Try.prog 32 f32_e := by
  refine entryF progOK (EnvOK.cons f26_ok (EnvOK.nil)) (A := f32_A) (d := 6) Try.func32 rfl rfl rfl rfl (fun _ _ => trivial) fun x hpre => ?_
  exact f32_t x _ fun _ h => h.trans (congrFun f32_fn.symm _)
end Go.Proofs.Ytglijnhkdnhofaa
end

section
namespace Go.Proofs.Ytglijnhkdnhofaa
open Go Go.Pi Go.RowKit
set_option maxRecDepth 100000
set_option linter.unusedVariables false
set_option linter.unusedSimpArgs false

def f113 (n : Int) : Int := minmax true n (IntKind.i64.wrap (0 - n))
def f113_e : Entry := { doms := [(false, (.int .i64))], cods := [(false, (.int .i64))], pre := fun _ => True, fn := f113, uq := false, total := true }
def f113_E : Env := []
def f113_A : Anns := { loops := [], own := [] }
theorem f113_run (a0 : Int) (K : Int → Prop) : runF Try.prog f113_E f113_A 6 Try.f113 f113_e.doms f113_e.cods a0 K =
    (K (minmax true a0 (IntKind.i64.wrap (0 - a0)))) := by kernel_rfl
theorem f113_t (a0 : Int) (K : Int → Prop) (hK : ∀ y : Int, y = f113 a0 → K y) : RunF Try.prog f113_E f113_A 6 Try.f113 f113_e.doms f113_e.cods a0 K := by
  refine ⟨?_⟩
  rw [f113_run a0 K]
  exact hK _ rfl
theorem f113_fn : f113_e.fn = f113 := rfl
theorem f113_ok : EntryOK Try.prog 113 f113_e := by
  refine entryF progOK (EnvOK.nil) (A := f113_A) (d := 6) Try.func113 rfl rfl rfl rfl (fun _ _ => trivial) fun x hpre => ?_
  exact f113_t x _ fun _ h => h.trans (congrFun f113_fn.symm _)
end Go.Proofs.Ytglijnhkdnhofaa
end

section
namespace Go.Proofs.Ytglijnhkdnhofaa
open Go Go.Pi Go.RowKit
set_option maxRecDepth 100000
set_option linter.unusedVariables false
set_option linter.unusedSimpArgs false

def f84 (x : Int × Int) : Int := (Nat.gcd x.1.natAbs x.2.natAbs : Int)
def f84_pre (x : Int × Int) : Prop := Fit x.1 ∧ Fit x.2
def f84_e : Entry := { doms := [(false, (.int .i64)), (false, (.int .i64))], cods := [(false, (.int .i64))], pre := f84_pre, fn := f84, uq := false, total := false }
def f84_E : Env := [(113, f113_e)]
def f84_A : Anns := { loops := [(1048576, { tms := [(0, .data false (.int .i64)), (1, .data false (.int .i64))], obs := [], fz := [] })], own := [] }
theorem f84_run (a0 : Int) (a1 : Int) (K : Int → Prop) : runF Try.prog f84_E f84_A 6 Try.f84 f84_e.doms f84_e.cods (a0, a1) K =
    (LoopP (V := Int × Int × Unit) (fun again v => (fun (again1 : Int → Int → Prop) (v1_0 : Int) (v1_1 : Int) =>
    br (v1_1 != 0)
    (br (!(decide (v1_1 = 0)))
    (again1 v1_1 (v1_0.tmod v1_1))
    False)
    (K (f113 v1_0)))
    (fun v1_0 v1_1 => again (v1_0, v1_1, ())) v.1 v.2.1) (a0, a1, ())) := by kernel_rfl
theorem f84_t (a0 : Int) (a1 : Int) (hpre : f84_pre (a0, a1)) (K : Int → Prop) (hK : ∀ y : Int, y = f84 (a0, a1) → K y) : RunF Try.prog f84_E f84_A 6 Try.f84 f84_e.doms f84_e.cods (a0, a1) K := by
  refine ⟨?_⟩
  rw [f84_run a0 a1 K]
  obtain ⟨h1, h2⟩ := hpre
  refine LoopP.of (fun q : Int × Int × Unit => Fit q.1 ∧ Fit q.2.1 ∧ Nat.gcd q.1.natAbs q.2.1.natAbs = Nat.gcd a0.natAbs a1.natAbs) (fun q => q.2.1.natAbs) (fun again q hq hag => ?_) ⟨h1, h2, rfl⟩
  obtain ⟨a, b, u⟩ := q
  obtain ⟨f1, f2, hg⟩ := hq
  dsimp only at f1 f2 hg ⊢
  refine br_two (fun hb => ?_) fun hb => ?_
  · have hb := bne_t.1 hb
    exact br_must (ne_zero_b hb) (hag (b, a.tmod b, ()) ⟨f2, tmod_fit f1 hb, (gcd_step a b hb).trans hg⟩ (tmod_lt hb))
  · have hb := bne_f.1 hb
    subst hb
    refine hK _ ?_
    simp only [f113, f84, minmax_abs f1, ← hg]
    simp
theorem f84_fn : f84_e.fn = f84 := rfl
theorem f84_ok : EntryOK Try.prog 84 f84_e := by
  refine entryF progOK (EnvOK.cons f113_ok (EnvOK.nil)) (A := f84_A) (d := 6) Try.func84 rfl rfl rfl rfl (fun h => by cases h) fun x hpre => ?_
  obtain ⟨a0, a1⟩ := x
  exact f84_t a0 a1 hpre _ fun _ h => h.trans (congrFun f84_fn.symm _)
end Go.Proofs.Ytglijnhkdnhofaa
end

section
namespace Go.Proofs.Ytglijnhkdnhofaa
open Go Go.Pi Go.RowKit
set_option maxRecDepth 100000
set_option linter.unusedVariables false
set_option linter.unusedSimpArgs false

def f33 (v : Int × Int × Int × Int) : Int := windE v
def f33_e : Entry := { doms := [(true, (.pair (.int .i64) (.pair (.int .i64) (.pair (.int .i64) (.int .i64)))))], cods := [(false, (.int .i64))], pre := fun _ => True, fn := f33, uq := false, total := true }
def f33_E : Env := [(35, f35_e), (84, f84_e)]
def f33_A : Anns := { loops := [], own := [] }
theorem f33_run (a0 : Int × Int × Int × Int) (K : Int → Prop) : runF Try.prog f33_E f33_A 6 Try.f33 f33_e.doms f33_e.cods a0 K =
    (br (!(f35 (a0.2.2.2, (1, 1000000000))))
    (K 2)
    (br (!(f35 (a0.1, ((-1000000000000), 1000000000000))))
    (K 2)
    (br (!(f35 (a0.2.1, ((-1000000000000), 1000000000000))))
    (K 2)
    (br (!(f35 (a0.2.2.1, ((-1000000000000), 1000000000000))))
    (K 2)
    (f84_pre (a0.2.1, a0.2.2.1) ∧
    f84_pre (a0.1, (f84 (a0.2.1, a0.2.2.1))) ∧
    f84_pre (a0.2.2.2, (f84 (a0.1, (f84 (a0.2.1, a0.2.2.1))))) ∧
    br ((f84 (a0.2.2.2, (f84 (a0.1, (f84 (a0.2.1, a0.2.2.1)))))) != 1)
    (K 3)
    (K 0)))))) := by kernel_rfl
theorem f33_t (a0 : Int × Int × Int × Int) (K : Int → Prop) (hK : ∀ y : Int, y = f33 a0 → K y) : RunF Try.prog f33_E f33_A 6 Try.f33 f33_e.doms f33_e.cods a0 K := by
  refine ⟨?_⟩
  rw [f33_run a0 K]
  have e : ∀ a b c : Int, f35 (a, b, c) = decide (b ≤ a ∧ a ≤ c) := fun a b c => by simp [f35]
  simp only [e]
  refine br_two (fun h1 => hK _ ?_) fun h1 => br_two (fun h2 => hK _ ?_) fun h2 => br_two (fun h3 => hK _ ?_) fun h3 => br_two (fun h4 => hK _ ?_) fun h4 => ?_
  · rw [f33, windE, if_pos (fun h => nd_t.1 h1 h.1)]
  · rw [f33, windE, if_pos (fun h => nd_t.1 h2 h.2.1)]
  · rw [f33, windE, if_pos (fun h => nd_t.1 h3 h.2.2.1)]
  · rw [f33, windE, if_pos (fun h => nd_t.1 h4 h.2.2.2)]
  · have h1 := nd_f.1 h1
    have h2 := nd_f.1 h2
    have h3 := nd_f.1 h3
    have h4 := nd_f.1 h4
    have q1 : Fit a0.1 := fit_le h2 (by omega)
    have q2 : Fit a0.2.1 := fit_le h3 (by omega)
    have q3 : Fit a0.2.2.1 := fit_le h4 (by omega)
    have q4 : Fit a0.2.2.2 := ⟨by omega, by omega⟩
    have g1 := gcd_fit (fit_abs q2) (fit_abs q3)
    have g2 := gcd_fit (fit_abs q1) g1
    have hg : f84 (a0.2.2.2, f84 (a0.1, f84 (a0.2.1, a0.2.2.1))) = (gcdL [a0.2.2.2, a0.1, a0.2.1, a0.2.2.1] : Int) := by
      rw [gcdL_four]; simp only [f84, Int.natAbs_natCast]
    rw [hg]
    refine ⟨⟨q2, q3⟩, ⟨q1, fit_nat g1⟩, ⟨q4, ?_⟩, br_two (fun h => hK _ ?_) fun h => hK _ ?_⟩
    · have := fit_nat g2
      simpa only [f84, Int.natAbs_natCast] using this
    · have h := bne_t.1 h
      rw [f33, windE, if_neg (fun h => h ⟨h1, h2, h3, h4⟩), if_neg (by omega)]
    · have h := bne_f.1 h
      rw [f33, windE, if_neg (fun h => h ⟨h1, h2, h3, h4⟩), if_pos (by omega)]
theorem f33_fn : f33_e.fn = f33 := rfl
theorem f33_ok : EntryOK Try.prog 33 f33_e := by
  refine entryF progOK (EnvOK.cons f35_ok (EnvOK.cons f84_ok (EnvOK.nil))) (A := f33_A) (d := 6) Try.func33 rfl rfl rfl rfl (fun _ _ => trivial) fun x hpre => ?_
  exact f33_t x _ fun _ h => h.trans (congrFun f33_fn.symm _)
end Go.Proofs.Ytglijnhkdnhofaa
end

section
namespace Go.Proofs.Ytglijnhkdnhofaa
open Go Go.Pi Go.RowKit
set_option maxRecDepth 100000
set_option linter.unusedVariables false
set_option linter.unusedSimpArgs false

def f36 (x : Int × Int × Int × Int) : Int × Int × Int := (x.1, x.2.1, x.2.2.1)
def f36_e : Entry := { doms := [(true, (.pair (.int .i64) (.pair (.int .i64) (.pair (.int .i64) (.int .i64)))))], cods := [(true, (.pair (.int .i64) (.pair (.int .i64) (.int .i64))))], pre := fun _ => True, fn := f36, uq := false, total := true }
def f36_E : Env := []
def f36_A : Anns := { loops := [], own := [] }
theorem f36_run (a0 : Int × Int × Int × Int) (K : (Int × Int × Int) → Prop) : runF Try.prog f36_E f36_A 6 Try.f36 f36_e.doms f36_e.cods a0 K =
    (K (a0.1, (a0.2.1, a0.2.2.1))) := by kernel_rfl
theorem f36_t (a0 : Int × Int × Int × Int) (K : (Int × Int × Int) → Prop) (hK : ∀ y : Int × Int × Int, y = f36 a0 → K y) : RunF Try.prog f36_E f36_A 6 Try.f36 f36_e.doms f36_e.cods a0 K := by
  refine ⟨?_⟩
  rw [f36_run a0 K]
  exact hK _ rfl
theorem f36_fn : f36_e.fn = f36 := rfl
theorem f36_ok : EntryOK Try.prog 36 f36_e := by
  refine entryF progOK (EnvOK.nil) (A := f36_A) (d := 6) Try.func36 rfl rfl rfl rfl (fun _ _ => trivial) fun x hpre => ?_
  exact f36_t x _ fun _ h => h.trans (congrFun f36_fn.symm _)
end Go.Proofs.Ytglijnhkdnhofaa
end

section
namespace Go.Proofs.Ytglijnhkdnhofaa
open Go Go.Pi Go.RowKit
set_option maxRecDepth 100000
set_option linter.unusedVariables false
set_option linter.unusedSimpArgs false

def f37 (x : (Int × Int × Int) × Int × Int × Int) : Int := w64 (dot x.1 x.2)
def f37_e : Entry := { doms := [(true, (.pair (.int .i64) (.pair (.int .i64) (.int .i64)))), (true, (.pair (.int .i64) (.pair (.int .i64) (.int .i64))))], cods := [(false, (.int .i64))], pre := fun _ => True, fn := f37, uq := false, total := true }
def f37_E : Env := []
def f37_A : Anns := { loops := [], own := [] }
theorem f37_run (a0 : Int × Int × Int) (a1 : Int × Int × Int) (K : Int → Prop) : runF Try.prog f37_E f37_A 6 Try.f37 f37_e.doms f37_e.cods (a0, a1) K =
    (K (IntKind.i64.wrap ((IntKind.i64.wrap ((IntKind.i64.wrap (a0.1 * a1.1)) + (IntKind.i64.wrap (a0.2.1 * a1.2.1)))) + (IntKind.i64.wrap (a0.2.2 * a1.2.2))))) := by kernel_rfl
theorem f37_t (a0 : Int × Int × Int) (a1 : Int × Int × Int) (K : Int → Prop) (hK : ∀ y : Int, y = f37 (a0, a1) → K y) : RunF Try.prog f37_E f37_A 6 Try.f37 f37_e.doms f37_e.cods (a0, a1) K := by
  refine ⟨?_⟩
  rw [f37_run a0 a1 K]
  exact hK _ (by simp only [f37, w64, dot, wrap_add_l, wrap_add_r])
theorem f37_fn : f37_e.fn = f37 := rfl
theorem f37_ok : EntryOK Try.prog 37 f37_e := by
  refine entryF progOK (EnvOK.nil) (A := f37_A) (d := 6) Try.func37 rfl rfl rfl rfl (fun _ _ => trivial) fun x hpre => ?_
  obtain ⟨a0, a1⟩ := x
  exact f37_t a0 a1 _ fun _ h => h.trans (congrFun f37_fn.symm _)
end Go.Proofs.Ytglijnhkdnhofaa
end

section
namespace Go.Proofs.Ytglijnhkdnhofaa
open Go Go.Pi Go.RowKit
set_option maxRecDepth 100000
set_option linter.unusedVariables false
set_option linter.unusedSimpArgs false

def f6 (x : List ((Int × Int × Int) × Int × Int) × (Int × Int × Int × Int) × Int) : Bool := true
theorem rdOf_parts {l : List Rd} (h : (rdOf l).2 = 0) : 0 < l.length ∧ l.length ≤ 6 ∧ ∀ r ∈ l, rdE r = 0 := by
  have ok := rdOf_ok h
  refine ⟨ok.pos, ok.six, fun r hr => ?_⟩
  have h1 := ok.pos
  have h2 := ok.six
  rw [rdOf, if_neg (by omega), if_neg (by omega)] at h
  obtain ⟨i, hi, e⟩ := List.getElem_of_mem hr
  have := eachE_zero h i hi
  rwa [getD_lt hi, e] at this
theorem rdOf_of {l : List Rd} (h1 : 0 < l.length) (h2 : l.length ≤ 6) (h : ∀ r ∈ l, rdE r = 0) : (rdOf l).2 = 0 := by
  rw [rdOf, if_neg (by omega), if_neg (by omega), eachE_none fun i hi => h _ (by rw [getD_lt hi]; exact List.getElem_mem _)]
theorem rkStep_grow (own : List V3) (d : V3) (h : own.length ≤ 3) : (rkStep own d).length = own.length ∨ (rkStep own d).length = own.length + 1 := by
  match own, h with
  | [], _ => exact .inr rfl
  | [a], _ =>
    simp only [rkStep]
    split
    · exact .inl rfl
    · exact .inr rfl
  | [a, b], _ =>
    simp only [rkStep]
    split
    · exact .inl rfl
    · exact .inr rfl
  | a :: b :: c :: r, _ => exact .inl rfl
def f6_e : Entry := { doms := [(false, (.sl (.pair (.pair (.int .i64) (.pair (.int .i64) (.int .i64))) (.pair (.int .i64) (.int .i64))))), (true, (.pair (.int .i64) (.pair (.int .i64) (.pair (.int .i64) (.int .i64))))), (false, (.int .i64))], cods := [(false, .bool)], pre := fun _ => True, fn := f6, uq := false, total := true }
def f6_E : Env := [(10, f10_e), (21, f21_e), (23, f23_e), (24, f24_e), (25, f25_e), (31, f31_e), (32, f32_e), (33, f33_e), (35, f35_e), (36, f36_e), (37, f37_e)]
def f6_A : Anns := { loops := [(1048576, { tms := [(0, .keep), (2, .keep), (4, .keep), (9, .keep), (13, .keep), (15, .keep), (16, .data false (.int .i64))], obs := [(1048576, .keep), (1061890, .arr (.fixed 3) (.int .i64))], fz := [] }),
  (1048580, { tms := [(0, .keep), (2, .keep), (4, .keep), (9, .keep), (13, .keep), (15, .keep), (16, .keep), (18, .data false (.int .i64))], obs := [(1048576, .keep), (1061890, .keep)], fz := [] }),
  (1572905, { tms := [(0, .keep), (2, .keep), (4, .keep), (9, .keep)], obs := [(1048576, .keep)], fz := [] })], own := [], unroll := 4 }
theorem f6_run (a0 : List ((Int × Int × Int) × Int × Int)) (a1 : Int × Int × Int × Int) (a2 : Int) (K : Bool → Prop) : runF Try.prog f6_E f6_A 6 Try.f6 f6_e.doms f6_e.cods (a0, a1, a2) K =
    (br (!(f10 ()))
    (K false)
    (br (!(f21 a0))
    (K true)
    (br ((f32 a0) != 0)
    (K true)
    (br ((f33 a1) != 0)
    (K true)
    (br (!(f35 (a2, ((-1000), 1000))))
    (K true)
    (f23_pre a0 ∧
    f23_pre a0 ∧
    br (lenOk (a0.length))
    (br (decide ((0 : Int) ≤ 0 ∧ 0 ≤ (minmax true 1 (IntKind.i64.wrap (((a0.length) : Int) - 1))) ∧ (minmax true 1 (IntKind.i64.wrap (((a0.length) : Int) - 1))) ≤ ((a0.length) : Int)))
    (f23_pre ((a0.take ((minmax true 1 (IntKind.i64.wrap (((a0.length) : Int) - 1))).toNat)).drop 0) ∧
    JoinQ (V := Unit) (fun J => (fun (join1 : Prop) =>
    br ((f24 (f23 a0)).2 != 0)
    (K false)
    (br ((f25 (f23 a0)).2 != 0)
    (K false)
    (br ((f24 (f23 ((a0.take ((minmax true 1 (IntKind.i64.wrap (((a0.length) : Int) - 1))).toNat)).drop 0))).2 != 0)
    (K false)
    (br (!(f35 ((f24 (f23 a0)).1, (1, 3))))
    (K false)
    (br (lenOk (((f25 (f23 a0)).1).length))
    (br (((((f25 (f23 a0)).1).length) : Int) != (IntKind.i64.wrap (3 - (f24 (f23 a0)).1)))
    (K false)
    (br (lenOk (a0.length))
    (br (decide (((a0.length) : Int) > 1))
    (br ((f24 (f23 ((a0.take ((minmax true 1 (IntKind.i64.wrap (((a0.length) : Int) - 1))).toNat)).drop 0))).1 != (f24 (f23 a0)).1)
    (br ((f24 (f23 ((a0.take ((minmax true 1 (IntKind.i64.wrap (((a0.length) : Int) - 1))).toNat)).drop 0))).1 != (IntKind.i64.wrap ((f24 (f23 a0)).1 - 1)))
    (K false)
    (join1))
    (join1))
    (join1))
    True))
    True))))) (J ())) (fun v =>
    f23_pre a0 ∧
    br ((f31 ((f23 a0), a1)).2 != 0)
    (K false)
    (LoopP (V := Int × List Int × Unit) (fun again v => (fun (again2 : Int → List Int → Prop) (v2_0 : Int) (v2_1 : List Int) =>
    br (lenOk (((f25 (f23 a0)).1).length))
    (br (decide (v2_0 < ((((f25 (f23 a0)).1).length) : Int)))
    (br (decide (0 ≤ v2_0) && decide (v2_0 < ((((f25 (f23 a0)).1).length) : Int)))
    (br (!(f35 ((((f25 (f23 a0)).1).getD v2_0.toNat (0, (0, 0))).1, ((-1000000), 1000000))))
    (K false)
    (br (decide (0 ≤ v2_0) && decide (v2_0 < ((((f25 (f23 a0)).1).length) : Int)))
    (br (decide (0 ≤ v2_0) && decide (v2_0 < ((((f25 (f23 a0)).1).length) : Int)))
    (br (!(f35 (((((f25 (f23 a0)).1).getD v2_0.toNat (0, (0, 0))).2).1, ((-1000000), 1000000))))
    (K false)
    (br (decide (0 ≤ v2_0) && decide (v2_0 < ((((f25 (f23 a0)).1).length) : Int)))
    (br (decide (0 ≤ v2_0) && decide (v2_0 < ((((f25 (f23 a0)).1).length) : Int)))
    (br (!(f35 (((((f25 (f23 a0)).1).getD v2_0.toNat (0, (0, 0))).2).2, ((-1000000), 1000000))))
    (K false)
    (br (decide (0 ≤ v2_0) && decide (v2_0 < ((((f25 (f23 a0)).1).length) : Int)))
    (LoopP (V := Int × Unit) (fun again v => (fun (again3 : Int → Prop) (v3_0 : Int) =>
    br (lenOk (a0.length))
    (br (decide (v3_0 < ((a0.length) : Int)))
    (br (decide (0 ≤ v3_0) && decide (v3_0 < ((a0.length) : Int)))
    (br (decide (0 ≤ v2_0) && decide (v2_0 < ((((f25 (f23 a0)).1).length) : Int)))
    (br ((f37 ((((a0.getD v3_0.toNat ((0, (0, 0)), (0, 0))).1).1, (((a0.getD v3_0.toNat ((0, (0, 0)), (0, 0))).1).2)), ((((f25 (f23 a0)).1).getD v2_0.toNat (0, (0, 0))).1, ((((f25 (f23 a0)).1).getD v2_0.toNat (0, (0, 0))).2)))) != 0)
    (K false)
    (again3 (IntKind.i64.wrap (v3_0 + 1))))
    False)
    False)
    (again2 (IntKind.i64.wrap (v2_0 + 1)) (((v2_1.set 0 (IntKind.i64.wrap ((v2_1.getD 0 0) + (IntKind.i64.wrap ((IntKind.i64.wrap ((IntKind.i64.wrap (a2 * (IntKind.i64.wrap (v2_0 + 1)))) * a1.2.2.2)) * (((f25 (f23 a0)).1).getD v2_0.toNat (0, (0, 0))).1))))).set 1 (IntKind.i64.wrap (((v2_1.set 0 (IntKind.i64.wrap ((v2_1.getD 0 0) + (IntKind.i64.wrap ((IntKind.i64.wrap ((IntKind.i64.wrap (a2 * (IntKind.i64.wrap (v2_0 + 1)))) * a1.2.2.2)) * (((f25 (f23 a0)).1).getD v2_0.toNat (0, (0, 0))).1))))).getD 1 0) + (IntKind.i64.wrap ((IntKind.i64.wrap ((IntKind.i64.wrap (a2 * (IntKind.i64.wrap (v2_0 + 1)))) * a1.2.2.2)) * ((((f25 (f23 a0)).1).getD v2_0.toNat (0, (0, 0))).2).1))))).set 2 (IntKind.i64.wrap ((((v2_1.set 0 (IntKind.i64.wrap ((v2_1.getD 0 0) + (IntKind.i64.wrap ((IntKind.i64.wrap ((IntKind.i64.wrap (a2 * (IntKind.i64.wrap (v2_0 + 1)))) * a1.2.2.2)) * (((f25 (f23 a0)).1).getD v2_0.toNat (0, (0, 0))).1))))).set 1 (IntKind.i64.wrap (((v2_1.set 0 (IntKind.i64.wrap ((v2_1.getD 0 0) + (IntKind.i64.wrap ((IntKind.i64.wrap ((IntKind.i64.wrap (a2 * (IntKind.i64.wrap (v2_0 + 1)))) * a1.2.2.2)) * (((f25 (f23 a0)).1).getD v2_0.toNat (0, (0, 0))).1))))).getD 1 0) + (IntKind.i64.wrap ((IntKind.i64.wrap ((IntKind.i64.wrap (a2 * (IntKind.i64.wrap (v2_0 + 1)))) * a1.2.2.2)) * ((((f25 (f23 a0)).1).getD v2_0.toNat (0, (0, 0))).2).1))))).getD 2 0) + (IntKind.i64.wrap ((IntKind.i64.wrap ((IntKind.i64.wrap (a2 * (IntKind.i64.wrap (v2_0 + 1)))) * a1.2.2.2)) * ((((f25 (f23 a0)).1).getD v2_0.toNat (0, (0, 0))).2).2)))))))
    True)
    (fun v3_0 => again (v3_0, ())) v.1) (0, ()))
    False))
    False)
    False))
    False)
    False))
    False)
    (br ((f33 ((v2_1.getD 0 0), ((v2_1.getD 1 0), ((v2_1.getD 2 0), a1.2.2.2)))) != 0)
    (K true)
    (f23_pre a0 ∧
    br ((f31 ((f23 a0), ((v2_1.getD 0 0), ((v2_1.getD 1 0), ((v2_1.getD 2 0), a1.2.2.2))))).2 == 0)
    (K ((f31 ((f23 a0), ((v2_1.getD 0 0), ((v2_1.getD 1 0), ((v2_1.getD 2 0), a1.2.2.2))))).1 == (f31 ((f23 a0), a1)).1))
    (K false))))
    True)
    (fun v2_0 v2_1 => again (v2_0, v2_1, ())) v.1 v.2.1) (0, ([(f36 a1).1, ((f36 a1).2).1, ((f36 a1).2).2] : List Int), ()))))
    False)
    True)))))) := by kernel_rfl
theorem f6_t (a0 : List ((Int × Int × Int) × Int × Int)) (a1 : Int × Int × Int × Int) (a2 : Int) (K : Bool → Prop) (hK : ∀ y : Bool, y = f6 (a0, a1, a2) → K y) : RunF Try.prog f6_E f6_A 6 Try.f6 f6_e.doms f6_e.cods (a0, a1, a2) K := by
  refine ⟨?_⟩
  rw [f6_run a0 a1 a2 K]
  have e10 : f10 () = true := rfl
  have hT : K true := hK _ rfl
  have hKb : ∀ b : Bool, b = true → K b := fun b h => hK _ (by rw [h]; rfl)
  have e21 : f21 a0 = decide (a0.length ≤ 8) := rfl
  have e23 : ∀ l, f23 l = l := fun _ => rfl
  have e32 : f32 a0 = (rdOf a0).2 := rfl
  have e33 : ∀ v, f33 v = windE v := fun _ => rfl
  have e35 : ∀ n a b : Int, f35 (n, a, b) = decide (a ≤ n ∧ n ≤ b) := fun n a b => by simp [f35]
  have e36 : f36 a1 = wpt a1 := rfl
  have e24 : ∀ l, (rdOf l).2 = 0 → f24 l = (((rkOwn (l.map (·.1))).length : Int), 0) := fun l h => if_neg (fun hh => hh h)
  have e25 : ∀ l, (rdOf l).2 = 0 → f25 l = (und (rkOwn (l.map (·.1))), 0) := fun l h => if_neg (fun hh => hh h)
  have e31 : ∀ v, (rdOf a0).2 = 0 → windE v = 0 → f31 (a0, v) = (a0.all (agR · v), 0) := fun v h h2 => (if_neg (fun hh => hh h)).trans (if_neg (fun hh => hh h2))
  simp only [e23, e32, e33, e36]
  rw [e10, e21]
  refine br_two (fun h => by cases h) fun _ => br_two (fun _ => hT) fun h9 => br_two (fun _ => hT) fun hv => br_two (fun _ => hT) fun hw => ?_
  rw [e35]
  refine br_two (fun _ => hT) fun hby => ?_
  have hv := bne_f.1 hv
  have hw := bne_f.1 hw
  have hby : -1000 ≤ a2 ∧ a2 ≤ 1000 := by simpa using hby
  obtain ⟨hpos, hsix, hall⟩ := rdOf_parts hv
  have ok := rdOf_ok hv
  obtain ⟨⟨w1, w2⟩, ⟨w3, w4, w5⟩, _⟩ := windE_zero hw
  have hd := dirs_ok ok
  have hi := rkOwn_inv hd
  have hn3 := rkOwn_len (a0.map (·.1))
  have hu := und_ok hd
  have p23 : f23_pre a0 := show a0.length ≤ 1048576 by omega
  obtain ⟨m, hm⟩ : ∃ m : Nat, m = max 1 (a0.length - 1) := ⟨_, rfl⟩
  have em : minmax true 1 (IntKind.i64.wrap ((a0.length : Int) - 1)) = (m : Int) := by
    rw [wr (n := (a0.length : Int) - 1) (by omega) (by omega)]
    simp only [minmax]
    split <;> omega
  rw [em]
  simp only [Int.toNat_natCast, List.drop_zero]
  have hfew : (rdOf (a0.take m)).2 = 0 := rdOf_of (by rw [List.length_take]; omega) (by rw [List.length_take]; omega) fun r hr => hall r (List.mem_of_mem_take hr)
  rw [e24 _ hv, e25 _ hv, e24 _ hfew, e31 _ hv hw]
  have hne : rkOwn (a0.map (·.1)) ≠ [] := fun hh => by
    rw [hh] at hi
    have hi : a0.map (·.1) = [] := hi
    have : a0 = [] := List.map_eq_nil_iff.1 hi
    subst this
    simp at hpos
  have hul := und_len hne hn3
  have hstep : a0.length > 1 → (rkOwn (a0.map (·.1))).length = (rkOwn ((a0.take m).map (·.1))).length ∨ (rkOwn (a0.map (·.1))).length = (rkOwn ((a0.take m).map (·.1))).length + 1 := fun hgt => by
    have e : a0 = a0.take m ++ [a0.getD m rd0] := by
      have hlt : m < a0.length := by omega
      have := List.take_succ_eq_append_getElem hlt
      rw [getD_lt hlt, ← this]
      exact (List.take_of_length_le (by omega)).symm
    have e2 : rkOwn (a0.map (·.1)) = rkStep (rkOwn ((a0.take m).map (·.1))) (a0.getD m rd0).1 := by
      conv => lhs; rw [e]
      rw [List.map_append, List.map_cons, List.map_nil, rkOwn_snoc]
    rw [e2]
    exact rkStep_grow _ _ (rkOwn_len _)
  generalize hown : rkOwn (a0.map (·.1)) = own at *
  generalize hfo : rkOwn ((a0.take m).map (·.1)) = fo at *
  have hn1 : 1 ≤ own.length := by
    cases own with
    | nil => exact absurd rfl hne
    | cons a r => simp
  generalize hus : und own = us at *
  refine ⟨p23, p23, br_weak (br_must (decide_eq_true ⟨by omega, by omega, by omega⟩) ⟨show (a0.take m).length ≤ 1048576 by rw [List.length_take]; omega, ?_⟩)⟩
  refine JoinQ.use0 True (fun G hG => ?_) fun _ => ?_
  · have hj := hG trivial
    rw [wr (n := 3 - (own.length : Int)) (by omega) (by omega), e35]
    refine br_two (fun h => by simp at h) fun _ => br_two (fun h => by simp at h) fun _ => br_two (fun h => by simp at h) fun _ => br_two (fun h => ?_) fun _ => br_weak (br_two (fun h => ?_) fun _ => br_weak (br_if (fun hgt => br_two (fun h1 => br_two (fun h2 => ?_) fun _ => hj) fun _ => hj) fun _ => hj))
    · rw [decide_eq_true (by dsimp only; omega)] at h; cases h
    · have h := bne_t.1 h
      dsimp only at h
      omega
    · have h1 := bne_t.1 h1
      have h2 := bne_t.1 h2
      dsimp only at h1 h2
      rw [wr (n := (own.length : Int) - 1) (by omega) (by omega)] at h2
      have := hstep (by omega)
      omega
  refine ⟨p23, br_two (fun h => by simp at h) fun _ => ?_⟩
  dsimp only
  have hdm : ∀ r ∈ a0, r.1 ∈ a0.map (·.1) := fun r hr => List.mem_map.2 ⟨r, hr, rfl⟩
  refine LoopP.of (fun q : Int × List Int × Unit => ∃ (k : Nat) (p : V3), k ≤ us.length ∧ q = ((k : Int), [p.1, p.2.1, p.2.2], ()) ∧ V3.le p (1000000000000 + k * 324000000000000) ∧ ∀ r ∈ a0, dot r.1 p = dot r.1 (wpt a1)) (fun q => ((us.length : Int) - q.1).toNat) (fun again2 q hq hag => ?_) ⟨0, wpt a1, by omega, rfl, ⟨by dsimp only [wpt] at *; omega, by dsimp only [wpt] at *; omega, by dsimp only [wpt] at *; omega⟩, fun _ _ => rfl⟩
  obtain ⟨k, p, hk, rfl, hp, hdp⟩ := hq
  dsimp only
  refine br_weak (br_if (fun hlt => ?_) fun hge => ?_)
  rotate_left
  · -- behind the loop
    show br (windE (p.1, p.2.1, p.2.2, a1.2.2.2) != 0) _ _
    refine br_two (fun _ => hT) fun h => ⟨p23, ?_⟩
    have h := bne_f.1 h
    show br ((f31 (a0, (p.1, p.2.1, p.2.2, a1.2.2.2))).2 == 0) (K ((f31 (a0, (p.1, p.2.1, p.2.2, a1.2.2.2))).1 == _)) _
    rw [e31 _ hv h]
    refine br_two (fun _ => hKb _ ?_) fun h => by simp at h
    have : a0.all (agR · (p.1, p.2.1, p.2.2, a1.2.2.2)) = a0.all (agR · a1) := by
      rw [Bool.eq_iff_iff, List.all_eq_true, List.all_eq_true]
      have e : ∀ r ∈ a0, agR r (p.1, p.2.1, p.2.2, a1.2.2.2) = agR r a1 := fun r hr => by
        have := hdp r hr
        unfold agR
        rw [show dot r.1 (wpt (p.1, p.2.1, p.2.2, a1.2.2.2)) = dot r.1 (wpt a1) from this]
      exact ⟨fun hh r hr => by rw [← e r hr]; exact hh r hr, fun hh r hr => by rw [e r hr]; exact hh r hr⟩
    rw [this]
    simp
  have hlt' : k < us.length := by omega
  have hb := inb (show (0 : Int) ≤ k by omega) hlt
  have hku := hu _ (getD_mem3 hlt')
  rw [Int.toNat_natCast]
  generalize us.getD k (0, 0, 0) = u at *
  obtain ⟨⟨u1, u2, u3⟩, hdu⟩ := hku
  have hk2 : k ≤ 1 := by omega
  have win : ∀ n : Int, (-162 ≤ n ∧ n ≤ 162) → (!(f35 (n, -1000000, 1000000))) = false := fun n h => by
    rw [e35, decide_eq_true (by omega)]; rfl
  rw [win _ u1, win _ u2, win _ u3]
  -- how far
  have c1 : -2000 ≤ a2 * ((k : Int) + 1) ∧ a2 * ((k : Int) + 1) ≤ 2000 := by
    have : k = 0 ∨ k = 1 := by omega
    rcases this with rfl | rfl
    · constructor <;> simp <;> omega
    · constructor <;> simp <;> omega
  obtain ⟨c, hc⟩ : ∃ c, c = a2 * ((k : Int) + 1) * a1.2.2.2 := ⟨_, rfl⟩
  have c2 : -2000000000000 ≤ c ∧ c ≤ 2000000000000 := by
    have := mul_le c1 (show -1000000000 ≤ a1.2.2.2 ∧ a1.2.2.2 ≤ 1000000000 by omega)
    omega
  have cu : ∀ n : Int, (-162 ≤ n ∧ n ≤ 162) → -324000000000000 ≤ c * n ∧ c * n ≤ 324000000000000 := fun n h => by
    have := mul_le c2 h
    omega
  have v1 := cu _ u1
  have v2 := cu _ u2
  have v3 := cu _ u3
  obtain ⟨b1, b2, b3⟩ := hp
  have hkk : (k : Int) * 324000000000000 ≤ 324000000000000 := by omega
  rw [wr (n := (k : Int) + 1) (by omega) (by omega), wr (n := a2 * ((k : Int) + 1)) (by omega) (by omega), wr (n := a2 * ((k : Int) + 1) * a1.2.2.2) (by omega) (by omega), ← hc]
  rw [wr (n := c * u.1) (by omega) (by omega), wr (n := c * u.2.1) (by omega) (by omega), wr (n := c * u.2.2) (by omega) (by omega)]
  refine br_must hb (br_two (fun h => by cases h) fun _ => br_must hb (br_must hb (br_two (fun h => by cases h) fun _ => br_must hb (br_must hb (br_two (fun h => by cases h) fun _ => br_must hb ?_)))))
  refine LoopP.of (fun q : Int × Unit => ∃ i : Nat, i ≤ a0.length ∧ q = ((i : Int), ())) (fun q => ((a0.length : Int) - q.1).toNat) (fun again3 q hq hag3 => ?_) ⟨0, by omega, rfl⟩
  obtain ⟨i, hi0, rfl⟩ := hq
  dsimp only
  refine br_weak (br_if (fun hlt2 => ?_) fun hge2 => ?_)
  · have hlt2' : i < a0.length := by omega
    rw [Int.toNat_natCast, wr (n := (i : Int) + 1) (by omega) (by omega)]
    have hm := getD_mem (d := rd0) hlt2'
    have e37 : f37 ((a0.getD i rd0).1, u) = 0 := by
      show w64 (dot (a0.getD i rd0).1 u) = 0
      rw [hdu _ (hdm _ hm)]; rfl
    refine br_must (inb (by omega) hlt2) (br_must hb ?_)
    show br (f37 ((a0.getD i rd0).1, u) != 0) _ _
    rw [e37]
    exact br_two (fun h => by cases h) fun _ => hag3 _ ⟨i + 1, by omega, rfl⟩ (by dsimp only; omega)
  · refine hag _ ⟨k + 1, (p.1 + c * u.1, p.2.1 + c * u.2.1, p.2.2 + c * u.2.2), by omega, ?_, ⟨?_, ?_, ?_⟩, fun r hr => ?_⟩ (by dsimp only; omega)
    · simp only [List.getD_cons_zero, List.getD_cons_succ, List.set_cons_zero, List.set_cons_succ]
      rw [wr (n := p.1 + c * u.1) (by omega) (by omega), wr (n := p.2.1 + c * u.2.1) (by omega) (by omega), wr (n := p.2.2 + c * u.2.2) (by omega) (by omega)]
      rfl
    · dsimp only; omega
    · dsimp only; omega
    · dsimp only; omega
    · have h1 := hdp r hr
      have h2 := hdu _ (hdm r hr)
      rw [← h1]
      have : dot r.1 (p.1 + c * u.1, p.2.1 + c * u.2.1, p.2.2 + c * u.2.2) = dot r.1 p + c * dot r.1 u := by simp only [dot]; grind
      rw [this, h2, Int.mul_zero, Int.add_zero]
theorem f6_fn : f6_e.fn = f6 := rfl
theorem f6_ok : EntryOK Try.prog 6 f6_e := by
  refine entryF progOK (EnvOK.cons f10_ok (EnvOK.cons f21_ok (EnvOK.cons f23_ok (EnvOK.cons f24_ok (EnvOK.cons f25_ok (EnvOK.cons f31_ok (EnvOK.cons f32_ok (EnvOK.cons f33_ok (EnvOK.cons f35_ok (EnvOK.cons f36_ok (EnvOK.cons f37_ok (EnvOK.nil)))))))))))) (A := f6_A) (d := 6) Try.func6 rfl rfl rfl rfl (fun _ _ => trivial) fun x hpre => ?_
  obtain ⟨a0, a1, a2⟩ := x
  exact f6_t a0 a1 a2 _ fun _ h => h.trans (congrFun f6_fn.symm _)
end Go.Proofs.Ytglijnhkdnhofaa
end
