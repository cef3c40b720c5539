/- What functions of the program compute, each proved once, part 10. -/
import Derived.Test.YtglijnhkdnhofaaGreatPiD
import Derived.Test.YtglijnhkdnhofaaGreatFnA
import Derived.Test.YtglijnhkdnhofaaGreatFnF
import Derived.Test.YtglijnhkdnhofaaGreatFnC
import Derived.Test.YtglijnhkdnhofaaGreatFnB

section
namespace Go.Proofs.YtglijnhkdnhofaaGreat
open Go Go.Pi Go.RowKit
set_option maxRecDepth 100000
set_option linter.unusedVariables false
set_option linter.unusedSimpArgs false

def f14 (l : List ((Int × Int × Int) × Int × Int)) : ((Int × Int) × (Int × Int) × Int × Int) × Int :=
  if (headW l (1, 0, 0)).2 ≠ 0 then (((0, 0), (0, 0), 0, 0), (headW l (1, 0, 0)).2) else if (headW l (0, 1, 0)).2 ≠ 0 then (((0, 0), (0, 0), 0, 0), (headW l (0, 1, 0)).2) else
  if (headW l (0, 0, 1)).2 ≠ 0 then (((0, 0), (0, 0), 0, 0), (headW l (0, 0, 1)).2) else (((headW l (1, 0, 0)).1, (headW l (0, 1, 0)).1, (headW l (0, 0, 1)).1), 0)
def f14_e : Entry := { doms := [(false, (.sl (.pair (.pair (.int .i64) (.pair (.int .i64) (.int .i64))) (.pair (.int .i64) (.int .i64)))))], cods := [(true, (.pair (.pair (.int .i64) (.int .i64)) (.pair (.pair (.int .i64) (.int .i64)) (.pair (.int .i64) (.int .i64))))), (false, (.int .i64))], pre := fun _ => True, fn := f14, uq := false, total := true }
def f14_E : Env := [(13, f13_e)]
def f14_A : Anns := { loops := [], own := [], unroll := 4 }
theorem f14_run (a0 : List ((Int × Int × Int) × Int × Int)) (K : (((Int × Int) × (Int × Int) × Int × Int) × Int) → Prop) : runF Tryz.prog f14_E f14_A 6 Tryz.f14 f14_e.doms f14_e.cods a0 K =
    (br ((f13 (a0, (1, (0, 0)))).2 != 0)
    (K (((0, 0), ((0, 0), (0, 0))), (f13 (a0, (1, (0, 0)))).2))
    (br ((f13 (a0, (0, (1, 0)))).2 != 0)
    (K (((0, 0), ((0, 0), (0, 0))), (f13 (a0, (0, (1, 0)))).2))
    (br ((f13 (a0, (0, (0, 1)))).2 != 0)
    (K (((0, 0), ((0, 0), (0, 0))), (f13 (a0, (0, (0, 1)))).2))
    (K ((((f13 (a0, (1, (0, 0)))).1), (((f13 (a0, (0, (1, 0)))).1), ((f13 (a0, (0, (0, 1)))).1))), 0))))) := by kernel_rfl
theorem f14_t (a0 : List ((Int × Int × Int) × Int × Int)) (K : (((Int × Int) × (Int × Int) × Int × Int) × Int) → Prop) (hK : ∀ y : ((Int × Int) × (Int × Int) × Int × Int) × Int, y = f14 a0 → K y) : RunF Tryz.prog f14_E f14_A 6 Tryz.f14 f14_e.doms f14_e.cods a0 K := by
  refine ⟨?_⟩
  rw [f14_run a0 K]
  have e13 : ∀ d : V3, f13 (a0, d) = headW a0 d := fun _ => rfl
  simp only [e13]
  refine br_two (fun h1 => hK _ ?_) fun h1 => br_two (fun h2 => hK _ ?_) fun h2 => br_two (fun h3 => hK _ ?_) fun h3 => hK _ ?_
  · rw [f14, if_pos (bne_t.1 h1)]
  · rw [f14, if_neg (fun hh => hh (bne_f.1 h1)), if_pos (bne_t.1 h2)]
  · rw [f14, if_neg (fun hh => hh (bne_f.1 h1)), if_neg (fun hh => hh (bne_f.1 h2)), if_pos (bne_t.1 h3)]
  · rw [f14, if_neg (fun hh => hh (bne_f.1 h1)), if_neg (fun hh => hh (bne_f.1 h2)), if_neg (fun hh => hh (bne_f.1 h3))]
theorem f14_fn : f14_e.fn = f14 := rfl
theorem f14_ok : EntryOK Tryz.prog 14 f14_e := by
  refine entryF progOK (EnvOK.cons f13_ok (EnvOK.nil)) (A := f14_A) (d := 6) Tryz.func14 rfl rfl rfl rfl (fun _ _ => trivial) fun x hpre => ?_
  exact f14_t x _ fun _ h => h.trans (congrFun f14_fn.symm _)
end Go.Proofs.YtglijnhkdnhofaaGreat
end

section
namespace Go.Proofs.YtglijnhkdnhofaaGreat
open Go Go.Pi Go.RowKit
set_option maxRecDepth 100000
set_option linter.unusedVariables false
set_option linter.unusedSimpArgs false

def f36 (x : (Int × Int × Int) × Int × Int × Int) : Int := w64 (dot x.1 x.2)
def f36_e : Entry := { doms := [(true, (.pair (.int .i64) (.pair (.int .i64) (.int .i64)))), (true, (.pair (.int .i64) (.pair (.int .i64) (.int .i64))))], cods := [(false, (.int .i64))], pre := fun _ => True, fn := f36, uq := false, total := true }
def f36_E : Env := []
def f36_A : Anns := { loops := [], own := [] }
theorem f36_run (a0 : Int × Int × Int) (a1 : Int × Int × Int) (K : Int → Prop) : runF Tryz.prog f36_E f36_A 6 Tryz.f36 f36_e.doms f36_e.cods (a0, a1) K =
    (K (IntKind.i64.wrap ((IntKind.i64.wrap ((IntKind.i64.wrap (a0.1 * a1.1)) + (IntKind.i64.wrap (a0.2.1 * a1.2.1)))) + (IntKind.i64.wrap (a0.2.2 * a1.2.2))))) := by kernel_rfl
theorem f36_t (a0 : Int × Int × Int) (a1 : Int × Int × Int) (K : Int → Prop) (hK : ∀ y : Int, y = f36 (a0, a1) → K y) : RunF Tryz.prog f36_E f36_A 6 Tryz.f36 f36_e.doms f36_e.cods (a0, a1) K := by
  refine ⟨?_⟩
  rw [f36_run a0 a1 K]
  exact hK _ (by simp only [f36, w64, dot, wrap_add_l, wrap_add_r])
theorem f36_fn : f36_e.fn = f36 := rfl
theorem f36_ok : EntryOK Tryz.prog 36 f36_e := by
  refine entryF progOK (EnvOK.nil) (A := f36_A) (d := 6) Tryz.func36 rfl rfl rfl rfl (fun _ _ => trivial) fun x hpre => ?_
  obtain ⟨a0, a1⟩ := x
  exact f36_t a0 a1 _ fun _ h => h.trans (congrFun f36_fn.symm _)
end Go.Proofs.YtglijnhkdnhofaaGreat
end

section
namespace Go.Proofs.YtglijnhkdnhofaaGreat
open Go Go.Pi Go.RowKit
set_option maxRecDepth 100000
set_option linter.unusedVariables false
set_option linter.unusedSimpArgs false

def f93 (x : (Int × Int × Int) × Int × Int × Int) : Int × Int × Int := w3 (cross x.1 x.2)
def f93_e : Entry := { doms := [(true, (.pair (.int .i64) (.pair (.int .i64) (.int .i64)))), (true, (.pair (.int .i64) (.pair (.int .i64) (.int .i64))))], cods := [(true, (.pair (.int .i64) (.pair (.int .i64) (.int .i64))))], pre := fun _ => True, fn := f93, uq := false, total := true }
def f93_E : Env := []
def f93_A : Anns := { loops := [], own := [] }
theorem f93_run (a0 : Int × Int × Int) (a1 : Int × Int × Int) (K : (Int × Int × Int) → Prop) : runF Tryz.prog f93_E f93_A 6 Tryz.f93 f93_e.doms f93_e.cods (a0, a1) K =
    (K ((IntKind.i64.wrap ((IntKind.i64.wrap (a0.2.1 * a1.2.2)) - (IntKind.i64.wrap (a0.2.2 * a1.2.1)))), ((IntKind.i64.wrap ((IntKind.i64.wrap (a0.2.2 * a1.1)) - (IntKind.i64.wrap (a0.1 * a1.2.2)))), (IntKind.i64.wrap ((IntKind.i64.wrap (a0.1 * a1.2.1)) - (IntKind.i64.wrap (a0.2.1 * a1.1))))))) := by kernel_rfl
theorem f93_t (a0 : Int × Int × Int) (a1 : Int × Int × Int) (K : (Int × Int × Int) → Prop) (hK : ∀ y : Int × Int × Int, y = f93 (a0, a1) → K y) : RunF Tryz.prog f93_E f93_A 6 Tryz.f93 f93_e.doms f93_e.cods (a0, a1) K := by
  refine ⟨?_⟩
  rw [f93_run a0 a1 K]
  exact hK _ (by simp only [f93, w3, w64, cross, wrap_sub_l, wrap_sub_r])
theorem f93_fn : f93_e.fn = f93 := rfl
theorem f93_ok : EntryOK Tryz.prog 93 f93_e := by
  refine entryF progOK (EnvOK.nil) (A := f93_A) (d := 6) Tryz.func93 rfl rfl rfl rfl (fun _ _ => trivial) fun x hpre => ?_
  obtain ⟨a0, a1⟩ := x
  exact f93_t a0 a1 _ fun _ h => h.trans (congrFun f93_fn.symm _)
end Go.Proofs.YtglijnhkdnhofaaGreat
end

section
namespace Go.Proofs.YtglijnhkdnhofaaGreat
open Go Go.Pi Go.RowKit
set_option maxRecDepth 100000
set_option linter.unusedVariables false
set_option linter.unusedSimpArgs false

def f72 (x : (Int × Int × Int) × (Int × Int × Int) × Int × Int × Int) : Int := w64 (det x.1 x.2.1 x.2.2)
def f72_e : Entry := { doms := [(true, (.pair (.int .i64) (.pair (.int .i64) (.int .i64)))), (true, (.pair (.int .i64) (.pair (.int .i64) (.int .i64)))), (true, (.pair (.int .i64) (.pair (.int .i64) (.int .i64))))], cods := [(false, (.int .i64))], pre := fun _ => True, fn := f72, uq := false, total := true }
def f72_E : Env := [(36, f36_e), (93, f93_e)]
def f72_A : Anns := { loops := [], own := [] }
theorem f72_run (a0 : Int × Int × Int) (a1 : Int × Int × Int) (a2 : Int × Int × Int) (K : Int → Prop) : runF Tryz.prog f72_E f72_A 6 Tryz.f72 f72_e.doms f72_e.cods (a0, a1, a2) K =
    (K (f36 (a0, ((f93 (a1, a2)).1, ((f93 (a1, a2)).2))))) := by kernel_rfl
theorem f72_t (a0 : Int × Int × Int) (a1 : Int × Int × Int) (a2 : Int × Int × Int) (K : Int → Prop) (hK : ∀ y : Int, y = f72 (a0, a1, a2) → K y) : RunF Tryz.prog f72_E f72_A 6 Tryz.f72 f72_e.doms f72_e.cods (a0, a1, a2) K := by
  refine ⟨?_⟩
  rw [f72_run a0 a1 a2 K]
  refine hK _ ?_
  show f36 (a0, f93 (a1, a2)) = _
  simp only [f36, f93, f72, det, dot_w]
theorem f72_fn : f72_e.fn = f72 := rfl
theorem f72_ok : EntryOK Tryz.prog 72 f72_e := by
  refine entryF progOK (EnvOK.cons f36_ok (EnvOK.cons f93_ok (EnvOK.nil))) (A := f72_A) (d := 6) Tryz.func72 rfl rfl rfl rfl (fun _ _ => trivial) fun x hpre => ?_
  obtain ⟨a0, a1, a2⟩ := x
  exact f72_t a0 a1 a2 _ fun _ h => h.trans (congrFun f72_fn.symm _)
end Go.Proofs.YtglijnhkdnhofaaGreat
end

section
namespace Go.Proofs.YtglijnhkdnhofaaGreat
open Go Go.Pi Go.RowKit
set_option maxRecDepth 100000
set_option linter.unusedVariables false
set_option linter.unusedSimpArgs false

def f138 (n : Int) : Int := minmax true n (IntKind.i64.wrap (0 - n))
def f138_e : Entry := { doms := [(false, (.int .i64))], cods := [(false, (.int .i64))], pre := fun _ => True, fn := f138, uq := false, total := true }
def f138_E : Env := []
def f138_A : Anns := { loops := [], own := [] }
theorem f138_run (a0 : Int) (K : Int → Prop) : runF Tryz.prog f138_E f138_A 6 Tryz.f138 f138_e.doms f138_e.cods a0 K =
    (K (minmax true a0 (IntKind.i64.wrap (0 - a0)))) := by kernel_rfl
theorem f138_t (a0 : Int) (K : Int → Prop) (hK : ∀ y : Int, y = f138 a0 → K y) : RunF Tryz.prog f138_E f138_A 6 Tryz.f138 f138_e.doms f138_e.cods a0 K := by
  refine ⟨?_⟩
  rw [f138_run a0 K]
  exact hK _ rfl
theorem f138_fn : f138_e.fn = f138 := rfl
theorem f138_ok : EntryOK Tryz.prog 138 f138_e := by
  refine entryF progOK (EnvOK.nil) (A := f138_A) (d := 6) Tryz.func138 rfl rfl rfl rfl (fun _ _ => trivial) fun x hpre => ?_
  exact f138_t x _ fun _ h => h.trans (congrFun f138_fn.symm _)
end Go.Proofs.YtglijnhkdnhofaaGreat
end

section
namespace Go.Proofs.YtglijnhkdnhofaaGreat
open Go Go.Pi Go.RowKit
set_option maxRecDepth 100000
set_option linter.unusedVariables false
set_option linter.unusedSimpArgs false

def f94 (x : Int × Int) : Int := (Nat.gcd x.1.natAbs x.2.natAbs : Int)
def f94_pre (x : Int × Int) : Prop := Fit x.1 ∧ Fit x.2
def f94_e : Entry := { doms := [(false, (.int .i64)), (false, (.int .i64))], cods := [(false, (.int .i64))], pre := f94_pre, fn := f94, uq := false, total := false }
def f94_E : Env := [(138, f138_e)]
def f94_A : Anns := { loops := [(1048576, { tms := [(0, .data false (.int .i64)), (1, .data false (.int .i64))], obs := [], fz := [] })], own := [] }
theorem f94_run (a0 : Int) (a1 : Int) (K : Int → Prop) : runF Tryz.prog f94_E f94_A 6 Tryz.f94 f94_e.doms f94_e.cods (a0, a1) K =
    (LoopP (V := Int × Int × Unit) (fun again v => (fun (again1 : Int → Int → Prop) (v1_0 : Int) (v1_1 : Int) =>
    br (v1_1 != 0)
    (br (!(decide (v1_1 = 0)))
    (again1 v1_1 (v1_0.tmod v1_1))
    False)
    (K (f138 v1_0)))
    (fun v1_0 v1_1 => again (v1_0, v1_1, ())) v.1 v.2.1) (a0, a1, ())) := by kernel_rfl
theorem f94_t (a0 : Int) (a1 : Int) (hpre : f94_pre (a0, a1)) (K : Int → Prop) (hK : ∀ y : Int, y = f94 (a0, a1) → K y) : RunF Tryz.prog f94_E f94_A 6 Tryz.f94 f94_e.doms f94_e.cods (a0, a1) K := by
  refine ⟨?_⟩
  rw [f94_run a0 a1 K]
  obtain ⟨h1, h2⟩ := hpre
  refine LoopP.of (fun q : Int × Int × Unit => Fit q.1 ∧ Fit q.2.1 ∧ Nat.gcd q.1.natAbs q.2.1.natAbs = Nat.gcd a0.natAbs a1.natAbs) (fun q => q.2.1.natAbs) (fun again q hq hag => ?_) ⟨h1, h2, rfl⟩
  obtain ⟨a, b, u⟩ := q
  obtain ⟨qf1, qf2, hg⟩ := hq
  dsimp only at qf1 qf2 hg ⊢
  refine br_two (fun hb => ?_) fun hb => ?_
  · have hb := bne_t.1 hb
    exact br_must (ne_zero_b hb) (hag (b, a.tmod b, ()) ⟨qf2, tmod_fit qf1 hb, (gcd_step a b hb).trans hg⟩ (tmod_lt hb))
  · have hb := bne_f.1 hb
    subst hb
    refine hK _ ?_
    simp only [f138, f94, minmax_abs qf1, ← hg]
    simp
theorem f94_fn : f94_e.fn = f94 := rfl
theorem f94_ok : EntryOK Tryz.prog 94 f94_e := by
  refine entryF progOK (EnvOK.cons f138_ok (EnvOK.nil)) (A := f94_A) (d := 6) Tryz.func94 rfl rfl rfl rfl (fun h => by cases h) fun x hpre => ?_
  obtain ⟨a0, a1⟩ := x
  exact f94_t a0 a1 hpre _ fun _ h => h.trans (congrFun f94_fn.symm _)
end Go.Proofs.YtglijnhkdnhofaaGreat
end

section
namespace Go.Pi
set_option linter.unusedVariables false
def sgn (n : Int) : Int := if n < 0 then -1 else if n > 0 then 1 else 0
def cmpQ (x : Int × Int × Int × Int) : Int := sgn (x.1 * x.2.2.2 - x.2.2.1 * x.2.1)
abbrev R2 := Int × Int
def mns (a b : R2) : R2 := (a.1 - b.2, a.2 - b.1)
def nearF (d : R2) : Int := if d.1 ≤ 0 ∧ 0 ≤ d.2 then 0 else minmax false (d.1 * d.1) (d.2 * d.2)
def farF (d : R2) : Int := minmax true (d.1 * d.1) (d.2 * d.2)
def lagD (l : List R2) (lag i : Nat) : R2 := mns (l.getD (i + lag) (0, 0)) (l.getD i (0, 0))
def sumN (f : Nat → Int) (n : Nat) : Int := ((List.range n).map f).sum
theorem sumN_succ (f : Nat → Int) (n : Nat) : sumN f (n + 1) = sumN f n + f n := by simp [sumN, List.range_succ]
theorem sumN_le {f g : Nat → Int} : ∀ {n : Nat}, (∀ i, i < n → f i ≤ g i) → sumN f n ≤ sumN g n
  | 0, _ => by simp [sumN]
  | n + 1, h => by
    rw [sumN_succ, sumN_succ]
    have := sumN_le (n := n) fun i hi => h i (by omega)
    have := h n (by omega)
    omega
theorem sumN_congr {f g : Nat → Int} {n : Nat} (h : ∀ i, i < n → f i = g i) : sumN f n = sumN g n :=
  Int.le_antisymm (sumN_le fun i hi => by rw [h i hi]; exact Int.le_refl _) (sumN_le fun i hi => by rw [h i hi]; exact Int.le_refl _)
theorem sumN_bound {f : Nat → Int} {M : Int} : ∀ {n : Nat}, (∀ i, i < n → 0 ≤ f i ∧ f i ≤ M) → 0 ≤ sumN f n ∧ sumN f n ≤ n * M
  | 0, _ => by simp [sumN]
  | n + 1, h => by
    have h1 := sumN_bound (n := n) fun i hi => h i (by omega)
    have h2 := h n (by omega)
    rw [sumN_succ, show ((n + 1 : Nat) : Int) * M = n * M + M by rw [Int.natCast_add, Int.add_mul]; simp]
    omega
/-- The error of ranges and a lag. -/
def rgsE (l : List R2) : Int := if l.length = 0 then 10 else if l.length > 30 then 8 else (eachE l.length fun i => rngE (l.getD i (0, 0)) 10000).2
def lagE (n : Nat) (lag : Int) : Int := if 1 ≤ lag ∧ lag ≤ (n : Int) - 1 then 0 else 2
def strE (l : List R2) (lag : Int) : Int := if rgsE l ≠ 0 then rgsE l else lagE l.length lag
def strV (l : List R2) (lag : Nat) : R2 × R2 := (low (sumN (fun i => nearF (lagD l lag i)) (l.length - lag)) ((l.length : Int) - lag), low (sumN (fun i => farF (lagD l lag i)) (l.length - lag)) ((l.length : Int) - lag))
def strIn (l : List R2) (lag : Int) : (R2 × R2) × Int := if strE l lag ≠ 0 then (no4, strE l lag) else (strV l lag.toNat, 0)
theorem rngE_zero {r : R2} {m : Int} (h : rngE r m = 0) : -m ≤ r.1 ∧ r.1 ≤ r.2 ∧ r.2 ≤ m := by
  unfold rngE at h
  split at h
  · simp at h
  · rename_i h4
    split at h
    · rename_i h5
      have h4 := Classical.byContradiction h4
      exact ⟨by omega, h5, by omega⟩
    · simp at h
/-- Valid ranges and a lag. -/
structure RgOK (l : List R2) (lag : Int) : Prop where
  len : l.length ≤ 30
  lag : 1 ≤ lag ∧ lag ≤ (l.length : Int) - 1
  el : ∀ r ∈ l, -10000 ≤ r.1 ∧ r.1 ≤ r.2 ∧ r.2 ≤ 10000
theorem strE_zero {l : List R2} {lag : Int} (h : strE l lag = 0) : RgOK l lag ∧ rgsE l = 0 := by
  unfold strE at h
  split at h
  · rename_i h1; exact absurd h h1
  · rename_i h1
    have h1 := Classical.byContradiction h1
    have h0 := h1
    unfold rgsE at h1
    unfold lagE at h
    split at h1
    · simp at h1
    · split at h1
      · simp at h1
      · rename_i h2 h3
        split at h
        · rename_i h4
          have hz := eachE_zero h1
          refine ⟨⟨by omega, h4, fun r hr => ?_⟩, h0⟩
          obtain ⟨i, hi, e⟩ := List.getElem_of_mem hr
          have := rngE_zero (hz i hi)
          rwa [getD_lt hi, e] at this
        · simp at h
theorem sq_le {n m : Int} (h : -m ≤ n ∧ n ≤ m) : 0 ≤ n * n ∧ n * n ≤ m * m := by
  have h1 := mul_le h h
  refine ⟨?_, h1.2⟩
  rcases Int.le_total 0 n with h2 | h2
  · exact Int.mul_nonneg h2 h2
  · exact Int.mul_nonneg_of_nonpos_of_nonpos h2 h2
theorem lagD_le {l : List R2} {lag : Nat} (h : RgOK l lag) {i : Nat} (hi : i < l.length - lag) : (-20000 ≤ (lagD l lag i).1 ∧ (lagD l lag i).1 ≤ 20000) ∧ -20000 ≤ (lagD l lag i).2 ∧ (lagD l lag i).2 ≤ 20000 := by
  have h1 := h.el _ (getD_mem (d := (0, 0)) (show i + lag < l.length by omega))
  have h2 := h.el _ (getD_mem (d := (0, 0)) (show i < l.length by omega))
  simp only [lagD, mns]
  omega
theorem nearF_b {l : List R2} {lag : Nat} (h : RgOK l lag) {i : Nat} (hi : i < l.length - lag) : 0 ≤ nearF (lagD l lag i) ∧ nearF (lagD l lag i) ≤ 400000000 := by
  have hd := lagD_le h hi
  have h1 := sq_le hd.1
  have h2 := sq_le hd.2
  unfold nearF minmax
  split
  · omega
  · simp only; split <;> omega
theorem farF_b {l : List R2} {lag : Nat} (h : RgOK l lag) {i : Nat} (hi : i < l.length - lag) : 0 ≤ farF (lagD l lag i) ∧ farF (lagD l lag i) ≤ 400000000 := by
  have hd := lagD_le h hi
  have h1 := sq_le hd.1
  have h2 := sq_le hd.2
  unfold farF minmax
  simp only; split <;> omega
theorem strS {l : List R2} {lag : Nat} (h : RgOK l lag) {n : Nat} (hn : n ≤ l.length - lag) : (0 ≤ sumN (fun i => nearF (lagD l lag i)) n ∧ sumN (fun i => nearF (lagD l lag i)) n ≤ 12000000000) ∧ 0 ≤ sumN (fun i => farF (lagD l lag i)) n ∧ sumN (fun i => farF (lagD l lag i)) n ≤ 12000000000 := by
  have h1 := sumN_bound (n := n) fun i hi => nearF_b h (show i < l.length - lag by omega)
  have h2 := sumN_bound (n := n) fun i hi => farF_b h (show i < l.length - lag by omega)
  have := h.len
  omega
end Go.Pi
end

section
namespace Go.Pi
set_option linter.unusedVariables false
theorem sgn_neg {n : Int} : sgn n < 0 ↔ n < 0 := by
  unfold sgn
  split
  · omega
  · split <;> omega
theorem sgn_ne {n : Int} : sgn n ≠ 0 ↔ n ≠ 0 := by
  unfold sgn
  split
  · omega
  · split <;> omega
/-- A wind that can be compared. -/
def WFit (v : WV) : Prop := (Fit v.1 ∧ Fit v.2.1 ∧ Fit v.2.2.1 ∧ Fit v.2.2.2) ∧ 0 < v.2.2.2
theorem wfit_le {v : WV} {m : Int} (h : V3.le (wpt v) m) (hd : v.2.2.2 ≤ m) (h0 : 0 < v.2.2.2) (hm : m ≤ 9223372036854775807) : WFit v :=
  ⟨⟨fit_le h.1 hm, fit_le h.2.1 hm, fit_le h.2.2 hm, fit_le ⟨by omega, hd⟩ hm⟩, h0⟩
theorem gcd_le_add (a b : Nat) : Nat.gcd a b ≤ a + b := by
  rcases Nat.eq_zero_or_pos a with h | h
  · subst h; rw [Nat.gcd_zero_left]; omega
  · exact Nat.le_trans (Nat.gcd_le_left b h) (by omega)
theorem insW_split (v : WV) (q : List WV) : ∀ p : List WV, (∀ x ∈ p, wlt x v) → insW (p ++ q) v = p ++ insW q v
  | [], _ => rfl
  | x :: p, h => by
    rw [List.cons_append, insW, if_pos (show ordC x v < 0 from h x (.head _)), insW_split v q p fun y hy => h y (.tail _ hy)]; rfl
theorem lowV_neg (p : V3) {d : Int} (h : d ≠ 0) : lowV (-p.1, -p.2.1, -p.2.2) (-d) = lowV p d := by
  have h' : -d ≠ 0 := by omega
  obtain ⟨a1, a2, a3⟩ := lowV_mul p d h
  obtain ⟨b1, b2, b3⟩ := lowV_mul (-p.1, -p.2.1, -p.2.2) (-d) h'
  have key : ∀ {n x y a b : Int}, n * y = a * d → -n * x = b * -d → b * y = a * x := fun {n x y a b} e1 e2 => by
    refine Int.eq_of_mul_eq_mul_right h ?_
    have : b * y * d = (b * d) * y := by grind
    rw [this, show b * d = n * x by grind, show n * x * y = (n * y) * x by grind, e1]
    grind
  exact (lowV_ok h').eq (lowV_ok h) (key a1 b1) (key a2 b2) (key a3 b3)
def revE (e : Nat) : Nat := e / 4 % 2 + 2 * (e / 2 % 2) + 4 * (e % 2)
theorem revE_lt (e : Nat) : revE e < 8 := by unfold revE; omega
theorem revE_bits (e : Nat) : revE e % 2 = e / 4 % 2 ∧ revE e / 2 % 2 = e / 2 % 2 ∧ revE e / 4 % 2 = e % 2 := by
  unfold revE
  have h1 : e / 4 % 2 < 2 := Nat.mod_lt _ (by omega)
  have h2 : e / 2 % 2 < 2 := Nat.mod_lt _ (by omega)
  have h3 : e % 2 < 2 := Nat.mod_lt _ (by omega)
  generalize e / 4 % 2 = x at *
  generalize e / 2 % 2 = y at *
  generalize e % 2 = z at *
  omega
theorem sol1_rev {l : List Rd} (h : RdLe l) {a b c : Nat} (ha : a < l.length) (hb : b < l.length) (hc : c < l.length) (e : Nat) (hd : det3 (rows3 l a b c) ≠ 0) : sol1 l c b a (revE e) = sol1 l a b c e := by
  rw [sol1_eq h ha hb hc, sol1_eq h hc hb ha, ← lowV_neg _ hd]
  have e1 : endR (l.getD c rd0).2 (revE e) = endR (l.getD c rd0).2 (e / 4) := by unfold endR; rw [(revE_bits e).1]
  have e2 : endR (l.getD b rd0).2 (revE e / 2) = endR (l.getD b rd0).2 (e / 2) := by unfold endR; rw [(revE_bits e).2.1]
  have e3 : endR (l.getD a rd0).2 (revE e / 4) = endR (l.getD a rd0).2 e := by unfold endR; rw [(revE_bits e).2.2]
  have ee : ends3 l c b a (revE e) = ((ends3 l a b c e).2.2, (ends3 l a b c e).2.1, (ends3 l a b c e).1) := by unfold ends3; rw [e1, e2, e3]
  have er : rows3 l c b a = ((rows3 l a b c).2.2, (rows3 l a b c).2.1, (rows3 l a b c).1) := rfl
  rw [ee, er]
  generalize rows3 l a b c = m
  generalize ends3 l a b c e = v
  have d0 : det3 (m.2.2, m.2.1, m.1) = -det3 m := by simp only [det3, det, dot, cross]; grind
  have d1 : det3 (c0 (m.2.2, m.2.1, m.1) (v.2.2, v.2.1, v.1)) = -det3 (c0 m v) := by simp only [det3, det, dot, cross, c0]; grind
  have d2 : det3 (c1 (m.2.2, m.2.1, m.1) (v.2.2, v.2.1, v.1)) = -det3 (c1 m v) := by simp only [det3, det, dot, cross, c1]; grind
  have d3 : det3 (c2 (m.2.2, m.2.1, m.1) (v.2.2, v.2.1, v.1)) = -det3 (c2 m v) := by simp only [det3, det, dot, cross, c2]; grind
  rw [d0, d1, d2, d3]
/-- The candidates in another order. -/
def refA (l : List Rd) (i j k : Nat) : List WV := if det3 (rows3 l i j k) = 0 then [] else (List.range 8).flatMap (candE l i j k)
def refB (l : List Rd) (i j : Nat) : List WV := (List.range j).flatMap (refA l i j)
def refC (l : List Rd) (i : Nat) : List WV := (List.range i).flatMap (refB l i)
def refs (l : List Rd) : List WV := (List.range l.length).flatMap (refC l)
theorem refs_mem {l : List Rd} {v : WV} : v ∈ refs l ↔ ∃ a b c e, a < b ∧ b < c ∧ c < l.length ∧ e < 8 ∧ det3 (rows3 l c b a) ≠ 0 ∧ v = sol1 l c b a e ∧ l.all (agR · v) = true := by
  simp only [refs, refC, refB, List.mem_flatMap, List.mem_range]
  constructor
  · rintro ⟨c, hc, b, hb, a, ha, hm⟩
    unfold refA at hm
    split at hm
    · cases hm
    · rename_i hd
      simp only [List.mem_flatMap, List.mem_range] at hm
      obtain ⟨e, he, hm⟩ := hm
      unfold candE at hm
      split at hm
      · rename_i hg
        rw [List.mem_singleton] at hm
        exact ⟨a, b, c, e, ha, hb, hc, he, hd, hm, by rw [hm]; exact hg⟩
      · cases hm
  · rintro ⟨a, b, c, e, ha, hb, hc, he, hd, rfl, hg⟩
    refine ⟨c, hc, b, hb, a, ha, ?_⟩
    unfold refA
    rw [if_neg hd]
    simp only [List.mem_flatMap, List.mem_range]
    refine ⟨e, he, ?_⟩
    unfold candE
    rw [if_pos hg]
    exact .head _
theorem det3_rev (l : List Rd) (a b c : Nat) : det3 (rows3 l c b a) = -det3 (rows3 l a b c) := by simp only [rows3, det3, det, dot, cross]; grind
theorem refs_cands {l : List Rd} (h : RdLe l) (v : WV) : v ∈ refs l ↔ v ∈ cands l := by
  rw [refs_mem, cands_mem]
  constructor
  · rintro ⟨a, b, c, e, ha, hb, hc, he, hd, rfl, hg⟩
    have hw := (h.sml (a := a) (b := b) (c := c) (by omega) (by omega) hc e).w
    refine ⟨a, b, c, revE e, ha, hb, hc, revE_lt e, ?_, ?_, hg⟩
    · rw [hw]; rw [det3_rev] at hd; omega
    · exact (sol1_rev h hc (by omega) (by omega) e hd).symm
  · rintro ⟨a, b, c, e, ha, hb, hc, he, hd, rfl, hg⟩
    have hw := (h.sml (a := a) (b := b) (c := c) (by omega) (by omega) hc e).w
    rw [hw] at hd
    refine ⟨a, b, c, revE e, ha, hb, hc, revE_lt e, ?_, ?_, hg⟩
    · rw [det3_rev]; omega
    · exact (sol1_rev h (by omega) (by omega) hc e hd).symm
theorem refs_ok {l : List Rd} (h : RdLe l) : ∀ v ∈ refs l, WOK v ∧ v.2.2.2 ≤ 4374 ∧ V3.le (wpt v) 4860000 := fun v hv => cands_ok h v ((refs_cands h v).1 hv)
theorem sortW_refs {l : List Rd} (h : RdLe l) : sortW (refs l) = vtx l :=
  asc_eq (sortW_ok fun w hw => (refs_ok h w hw).1) (sortW_ok fun w hw => (cands_ok h w hw).1) (sortW_asc fun w hw => (refs_ok h w hw).1) (sortW_asc fun w hw => (cands_ok h w hw).1) fun x => by
    rw [sortW_mem, vtx, sortW_mem, refs_cands h]
theorem refs_len {l : List Rd} (h : RdLe l) : (refs l).length ≤ 4096 := by
  have hE : ∀ a b c e, (candE l a b c e).length ≤ 1 := fun a b c e => by unfold candE; split <;> simp
  have hA : ∀ c b a, (refA l c b a).length ≤ 8 := fun c b a => by
    unfold refA
    split
    · simp
    · exact flatMap_len _ 1 8 fun e _ => hE c b a e
  have hB : ∀ c b, b ≤ 8 → (refB l c b).length ≤ 64 := fun c b hb => Nat.le_trans (flatMap_len _ 8 b fun a _ => hA c b a) (by omega)
  have hC : ∀ c, c ≤ 8 → (refC l c).length ≤ 512 := fun c hc => Nat.le_trans (flatMap_len _ 64 c fun b hb => hB c b (by omega)) (by omega)
  have := flatMap_len (refC l) 512 l.length fun c hc => hC c (by have := h.len; omega)
  have := h.len
  unfold refs
  omega
theorem insW_len (v : WV) : ∀ l : List WV, (insW l v).length ≤ l.length + 1
  | [] => by simp [insW]
  | w :: r => by
    have := insW_len v r
    unfold insW
    split
    · simp only [List.length_cons]; omega
    · split <;> simp only [List.length_cons] <;> omega
theorem sortW_append (a b : List WV) : sortW (a ++ b) = b.foldl insW (sortW a) := List.foldl_append
theorem sortW_len : ∀ (l acc : List WV), (l.foldl insW acc).length ≤ acc.length + l.length
  | [], acc => by simp
  | v :: r, acc => by
    have h1 := sortW_len r (insW acc v)
    have h2 := insW_len v acc
    rw [List.foldl_cons, List.length_cons]
    omega
/-- What has been put in so far. -/
structure Got (out L : List WV) (n : Nat) : Prop where
  e : out = sortW L
  ok : ∀ v ∈ L, WFit v
  len : L.length ≤ n
theorem Got.put {out L : List WV} {n : Nat} (h : Got out L n) {v : WV} (hv : WFit v) : Got (insW out v) (L ++ [v]) (n + 1) := by
  refine ⟨by rw [sortW_append, ← h.e]; rfl, fun w hw => ?_, by rw [List.length_append, List.length_singleton]; have := h.len; omega⟩
  rcases List.mem_append.1 hw with hw | hw
  · exact h.ok w hw
  · rw [List.mem_singleton] at hw; rw [hw]; exact hv
theorem Got.size {out L : List WV} {n : Nat} (h : Got out L n) : out.length ≤ n := by
  have h0 : (L.foldl insW []).length ≤ 0 + L.length := sortW_len L []
  have e : out.length = (L.foldl insW []).length := by rw [h.e]; rfl
  have := h.len
  rw [e]
  omega
theorem Got.all {out L : List WV} {n : Nat} (h : Got out L n) : ∀ v ∈ out, WFit v := fun v hv => h.ok v (sortW_mem.1 (h.e ▸ hv))
theorem Got.to {out L M : List WV} {n m : Nat} (h : Got out L n) (hl : L = M) (hn : n ≤ m) : Got out M m := ⟨by rw [h.e, hl], hl ▸ h.ok, by rw [← hl]; exact Nat.le_trans h.len hn⟩
end Go.Pi
end

section
namespace Go.Proofs.YtglijnhkdnhofaaGreat
open Go Go.Pi Go.RowKit
set_option maxRecDepth 100000
set_option linter.unusedVariables false
set_option linter.unusedSimpArgs false

def f127 (x : (Int × Int × Int) × Int) : Int × Int × Int × Int := lowV x.1 x.2
def f127_pre (x : (Int × Int × Int) × Int) : Prop := V3.le x.1 100000000 ∧ (-100000000 ≤ x.2 ∧ x.2 ≤ 100000000) ∧ x.2 ≠ 0
def f127_e : Entry := { doms := [(true, (.pair (.int .i64) (.pair (.int .i64) (.int .i64)))), (false, (.int .i64))], cods := [(true, (.pair (.int .i64) (.pair (.int .i64) (.pair (.int .i64) (.int .i64)))))], pre := f127_pre, fn := f127, uq := false, total := false }
def f127_E : Env := [(94, f94_e)]
def f127_A : Anns := { loops := [], own := [] }
theorem f127_run (a0 : Int × Int × Int) (a1 : Int) (K : (Int × Int × Int × Int) → Prop) : runF Tryz.prog f127_E f127_A 6 Tryz.f127 f127_e.doms f127_e.cods (a0, a1) K =
    (f94_pre a0.2 ∧
    f94_pre (a0.1, (f94 a0.2)) ∧
    f94_pre (a1, (f94 (a0.1, (f94 a0.2)))) ∧
    br (decide (a1 < 0))
    (br (!(decide ((IntKind.i64.wrap (0 - (f94 (a1, (f94 (a0.1, (f94 a0.2))))))) = 0)))
    (br (!(decide ((IntKind.i64.wrap (0 - (f94 (a1, (f94 (a0.1, (f94 a0.2))))))) = 0)))
    (br (!(decide ((IntKind.i64.wrap (0 - (f94 (a1, (f94 (a0.1, (f94 a0.2))))))) = 0)))
    (br (!(decide ((IntKind.i64.wrap (0 - (f94 (a1, (f94 (a0.1, (f94 a0.2))))))) = 0)))
    (K ((IntKind.i64.wrap (a0.1.tdiv (IntKind.i64.wrap (0 - (f94 (a1, (f94 (a0.1, (f94 a0.2))))))))), ((IntKind.i64.wrap (a0.2.1.tdiv (IntKind.i64.wrap (0 - (f94 (a1, (f94 (a0.1, (f94 a0.2))))))))), ((IntKind.i64.wrap (a0.2.2.tdiv (IntKind.i64.wrap (0 - (f94 (a1, (f94 (a0.1, (f94 a0.2))))))))), (IntKind.i64.wrap (a1.tdiv (IntKind.i64.wrap (0 - (f94 (a1, (f94 (a0.1, (f94 a0.2)))))))))))))
    False)
    False)
    False)
    False)
    (br (!(decide ((f94 (a1, (f94 (a0.1, (f94 a0.2))))) = 0)))
    (br (!(decide ((f94 (a1, (f94 (a0.1, (f94 a0.2))))) = 0)))
    (br (!(decide ((f94 (a1, (f94 (a0.1, (f94 a0.2))))) = 0)))
    (br (!(decide ((f94 (a1, (f94 (a0.1, (f94 a0.2))))) = 0)))
    (K ((IntKind.i64.wrap (a0.1.tdiv (f94 (a1, (f94 (a0.1, (f94 a0.2))))))), ((IntKind.i64.wrap (a0.2.1.tdiv (f94 (a1, (f94 (a0.1, (f94 a0.2))))))), ((IntKind.i64.wrap (a0.2.2.tdiv (f94 (a1, (f94 (a0.1, (f94 a0.2))))))), (IntKind.i64.wrap (a1.tdiv (f94 (a1, (f94 (a0.1, (f94 a0.2)))))))))))
    False)
    False)
    False)
    False)) := by kernel_rfl
theorem f127_t (a0 : Int × Int × Int) (a1 : Int) (hpre : f127_pre (a0, a1)) (K : (Int × Int × Int × Int) → Prop) (hK : ∀ y : Int × Int × Int × Int, y = f127 (a0, a1) → K y) : RunF Tryz.prog f127_E f127_A 6 Tryz.f127 f127_e.doms f127_e.cods (a0, a1) K := by
  refine ⟨?_⟩
  rw [f127_run a0 a1 K]
  obtain ⟨⟨h1, h2, h3⟩, hd, h0⟩ := hpre
  dsimp only at h1 h2 h3 hd h0
  have eg : f94 (a1, f94 (a0.1, f94 a0.2)) = (g4 a0 a1 : Int) := by
    show ((Nat.gcd _ _ : Nat) : Int) = _
    unfold g4
    rw [gcdL_four]
    simp only [f94, Int.natAbs_natCast]
  have hp := g4_pos (p := a0) h0
  have hle : g4 a0 a1 ≤ a1.natAbs := Nat.le_of_dvd (by omega) (g4_dvd a0 a1).1
  have gb : ∀ n m : Int, (-200000000 ≤ n ∧ n ≤ 200000000) → (-200000000 ≤ m ∧ m ≤ 200000000) → -400000000 ≤ f94 (n, m) ∧ f94 (n, m) ≤ 400000000 := fun n m hn hm => by
    have := gcd_le_add n.natAbs m.natAbs
    show -400000000 ≤ ((Nat.gcd _ _ : Nat) : Int) ∧ ((Nat.gcd _ _ : Nat) : Int) ≤ 400000000
    dsimp only
    omega
  have ft : ∀ {n : Int}, (-900000000 ≤ n ∧ n ≤ 900000000) → Fit n := fun h => fit_le h (by omega)
  have g1 := gb a0.2.1 a0.2.2 (by omega) (by omega)
  have g2 : -900000000 ≤ f94 (a0.1, f94 a0.2) ∧ f94 (a0.1, f94 a0.2) ≤ 900000000 := by
    have := gcd_le_add a0.1.natAbs (f94 a0.2).natAbs
    show -900000000 ≤ ((Nat.gcd _ _ : Nat) : Int) ∧ ((Nat.gcd _ _ : Nat) : Int) ≤ 900000000
    dsimp only
    have g1 : -400000000 ≤ f94 a0.2 ∧ f94 a0.2 ≤ 400000000 := g1
    omega
  have g1 : -400000000 ≤ f94 a0.2 ∧ f94 a0.2 ≤ 400000000 := g1
  rw [eg]
  have w : ∀ (n s : Int), (-100000000 ≤ n ∧ n ≤ 100000000) → IntKind.i64.wrap (n.tdiv s) = n.tdiv s := fun n s h => by
    have := tdiv_size (d := s) h
    exact wr (by omega) (by omega)
  rw [wr (n := 0 - (g4 a0 a1 : Int)) (by omega) (by omega)]
  simp only [w _ _ h1, w _ _ h2, w _ _ h3, w _ _ hd]
  refine ⟨⟨ft (by omega), ft (by omega)⟩, ⟨ft (by omega), ft (by dsimp only; omega)⟩, ⟨ft (by omega), ft g2⟩, br_if (fun hn => ?_) fun hn => ?_⟩
  · have b : (!(decide ((0 - (g4 a0 a1 : Int)) = 0))) = true := by rw [decide_eq_false (by omega)]; rfl
    refine br_must b (br_must b (br_must b (br_must b (hK _ ?_))))
    have e : s4 a0 a1 = 0 - (g4 a0 a1 : Int) := by rw [s4, if_pos hn]; omega
    rw [← e]; rfl
  · have b : (!(decide ((g4 a0 a1 : Int) = 0))) = true := by rw [decide_eq_false (by omega)]; rfl
    refine br_must b (br_must b (br_must b (br_must b (hK _ ?_))))
    have e : s4 a0 a1 = (g4 a0 a1 : Int) := by rw [s4, if_neg hn]
    rw [← e]; rfl
theorem f127_fn : f127_e.fn = f127 := rfl
theorem f127_ok : EntryOK Tryz.prog 127 f127_e := by
  refine entryF progOK (EnvOK.cons f94_ok (EnvOK.nil)) (A := f127_A) (d := 6) Tryz.func127 rfl rfl rfl rfl (fun h => by cases h) fun x hpre => ?_
  obtain ⟨a0, a1⟩ := x
  exact f127_t a0 a1 hpre _ fun _ h => h.trans (congrFun f127_fn.symm _)
end Go.Proofs.YtglijnhkdnhofaaGreat
end

section
namespace Go.Proofs.YtglijnhkdnhofaaGreat
open Go Go.Pi Go.RowKit
set_option maxRecDepth 100000
set_option linter.unusedVariables false
set_option linter.unusedSimpArgs false

def f73 (x : ((Int × Int × Int) × (Int × Int × Int) × Int × Int × Int) × Int × Int × Int) : Int × Int × Int × Int := lowV (det3 (c0 x.1 x.2), det3 (c1 x.1 x.2), det3 (c2 x.1 x.2)) (det3 x.1)
def f73_pre (x : ((Int × Int × Int) × (Int × Int × Int) × Int × Int × Int) × Int × Int × Int) : Prop := Sml x.1 x.2 ∧ det3 x.1 ≠ 0
def f73_e : Entry := { doms := [(true, (.pair (.pair (.int .i64) (.pair (.int .i64) (.int .i64))) (.pair (.pair (.int .i64) (.pair (.int .i64) (.int .i64))) (.pair (.int .i64) (.pair (.int .i64) (.int .i64)))))), (true, (.pair (.int .i64) (.pair (.int .i64) (.int .i64))))], cods := [(true, (.pair (.int .i64) (.pair (.int .i64) (.pair (.int .i64) (.int .i64)))))], pre := f73_pre, fn := f73, uq := false, total := false }
def f73_E : Env := [(72, f72_e), (127, f127_e)]
def f73_A : Anns := { loops := [], own := [1152921504607901697, 1152921504608950273, 1152921504609998849], unroll := 4 }
theorem f73_run (a0 : (Int × Int × Int) × (Int × Int × Int) × Int × Int × Int) (a1 : Int × Int × Int) (K : (Int × Int × Int × Int) → Prop) : runF Tryz.prog f73_E f73_A 6 Tryz.f73 f73_e.doms f73_e.cods (a0, a1) K =
    (f127_pre (((f72 ((a1.1, a0.1.2), ((a1.2.1, a0.2.1.2), (a1.2.2, a0.2.2.2)))), ((f72 ((a0.1.1, (a1.1, a0.1.2.2)), ((a0.2.1.1, (a1.2.1, a0.2.1.2.2)), (a0.2.2.1, (a1.2.2, a0.2.2.2.2))))), (f72 ((a0.1.1, (a0.1.2.1, a1.1)), ((a0.2.1.1, (a0.2.1.2.1, a1.2.1)), (a0.2.2.1, (a0.2.2.2.1, a1.2.2))))))), (f72 a0)) ∧
    K ((f127 (((f72 ((a1.1, a0.1.2), ((a1.2.1, a0.2.1.2), (a1.2.2, a0.2.2.2)))), ((f72 ((a0.1.1, (a1.1, a0.1.2.2)), ((a0.2.1.1, (a1.2.1, a0.2.1.2.2)), (a0.2.2.1, (a1.2.2, a0.2.2.2.2))))), (f72 ((a0.1.1, (a0.1.2.1, a1.1)), ((a0.2.1.1, (a0.2.1.2.1, a1.2.1)), (a0.2.2.1, (a0.2.2.2.1, a1.2.2))))))), (f72 a0))).1, (((f127 (((f72 ((a1.1, a0.1.2), ((a1.2.1, a0.2.1.2), (a1.2.2, a0.2.2.2)))), ((f72 ((a0.1.1, (a1.1, a0.1.2.2)), ((a0.2.1.1, (a1.2.1, a0.2.1.2.2)), (a0.2.2.1, (a1.2.2, a0.2.2.2.2))))), (f72 ((a0.1.1, (a0.1.2.1, a1.1)), ((a0.2.1.1, (a0.2.1.2.1, a1.2.1)), (a0.2.2.1, (a0.2.2.2.1, a1.2.2))))))), (f72 a0))).2).1, (((f127 (((f72 ((a1.1, a0.1.2), ((a1.2.1, a0.2.1.2), (a1.2.2, a0.2.2.2)))), ((f72 ((a0.1.1, (a1.1, a0.1.2.2)), ((a0.2.1.1, (a1.2.1, a0.2.1.2.2)), (a0.2.2.1, (a1.2.2, a0.2.2.2.2))))), (f72 ((a0.1.1, (a0.1.2.1, a1.1)), ((a0.2.1.1, (a0.2.1.2.1, a1.2.1)), (a0.2.2.1, (a0.2.2.2.1, a1.2.2))))))), (f72 a0))).2).2)))) := by kernel_rfl
theorem f73_t (a0 : (Int × Int × Int) × (Int × Int × Int) × Int × Int × Int) (a1 : Int × Int × Int) (hpre : f73_pre (a0, a1)) (K : (Int × Int × Int × Int) → Prop) (hK : ∀ y : Int × Int × Int × Int, y = f73 (a0, a1) → K y) : RunF Tryz.prog f73_E f73_A 6 Tryz.f73 f73_e.doms f73_e.cods (a0, a1) K := by
  refine ⟨?_⟩
  rw [f73_run a0 a1 K]
  obtain ⟨hs, h0⟩ := hpre
  dsimp only at hs h0
  have hc := hs.cs
  have hd := hs.det
  have e0 : f72 a0 = det3 a0 := hs.w
  have e1 : f72 (c0 a0 a1) = det3 (c0 a0 a1) := w64_fit (fit_le hc.1 (by omega))
  have e2 : f72 (c1 a0 a1) = det3 (c1 a0 a1) := w64_fit (fit_le hc.2.1 (by omega))
  have e3 : f72 (c2 a0 a1) = det3 (c2 a0 a1) := w64_fit (fit_le hc.2.2 (by omega))
  refine ⟨?_, hK _ ?_⟩
  · show f127_pre ((f72 (c0 a0 a1), f72 (c1 a0 a1), f72 (c2 a0 a1)), f72 a0)
    rw [e0, e1, e2, e3]
    have le : ∀ n : Int, (-4860000 ≤ n ∧ n ≤ 4860000) → -100000000 ≤ n ∧ n ≤ 100000000 := fun n h => by omega
    exact ⟨⟨le _ hc.1, le _ hc.2.1, le _ hc.2.2⟩, le _ ⟨by omega, by omega⟩, h0⟩
  · show lowV (f72 (c0 a0 a1), f72 (c1 a0 a1), f72 (c2 a0 a1)) (f72 a0) = f73 (a0, a1)
    rw [e0, e1, e2, e3]; rfl
theorem f73_fn : f73_e.fn = f73 := rfl
theorem f73_ok : EntryOK Tryz.prog 73 f73_e := by
  refine entryF progOK (EnvOK.cons f72_ok (EnvOK.cons f127_ok (EnvOK.nil))) (A := f73_A) (d := 6) Tryz.func73 rfl rfl rfl rfl (fun h => by cases h) fun x hpre => ?_
  obtain ⟨a0, a1⟩ := x
  exact f73_t a0 a1 hpre _ fun _ h => h.trans (congrFun f73_fn.symm _)
end Go.Proofs.YtglijnhkdnhofaaGreat
end

section
namespace Go.Proofs.YtglijnhkdnhofaaGreat
open Go Go.Pi Go.RowKit
set_option maxRecDepth 100000
set_option linter.unusedVariables false
set_option linter.unusedSimpArgs false

def f74 (x : (Int × Int) × Int) : Int := if x.2 ≠ 0 then x.1.2 else x.1.1
def f74_e : Entry := { doms := [(true, (.pair (.int .i64) (.int .i64))), (false, (.int .i64))], cods := [(false, (.int .i64))], pre := fun _ => True, fn := f74, uq := false, total := true }
def f74_E : Env := []
def f74_A : Anns := { loops := [], own := [] }
theorem f74_run (a0 : Int × Int) (a1 : Int) (K : Int → Prop) : runF Tryz.prog f74_E f74_A 6 Tryz.f74 f74_e.doms f74_e.cods (a0, a1) K =
    (br (a1 != 0)
    (K a0.2)
    (K a0.1)) := by kernel_rfl
theorem f74_t (a0 : Int × Int) (a1 : Int) (K : Int → Prop) (hK : ∀ y : Int, y = f74 (a0, a1) → K y) : RunF Tryz.prog f74_E f74_A 6 Tryz.f74 f74_e.doms f74_e.cods (a0, a1) K := by
  refine ⟨?_⟩
  rw [f74_run a0 a1 K]
  refine br_two (fun h => hK _ ?_) fun h => hK _ ?_
  · rw [f74, if_pos (bne_t.1 h)]
  · rw [f74, if_neg (fun hh => hh (bne_f.1 h))]
theorem f74_fn : f74_e.fn = f74 := rfl
theorem f74_ok : EntryOK Tryz.prog 74 f74_e := by
  refine entryF progOK (EnvOK.nil) (A := f74_A) (d := 6) Tryz.func74 rfl rfl rfl rfl (fun _ _ => trivial) fun x hpre => ?_
  obtain ⟨a0, a1⟩ := x
  exact f74_t a0 a1 _ fun _ h => h.trans (congrFun f74_fn.symm _)
end Go.Proofs.YtglijnhkdnhofaaGreat
end

section
namespace Go.Proofs.YtglijnhkdnhofaaGreat
open Go Go.Pi Go.RowKit
set_option maxRecDepth 100000
set_option linter.unusedVariables false
set_option linter.unusedSimpArgs false

def f37 (x : Int × Int × Int × Int) : Int × Int × Int := (x.1, x.2.1, x.2.2.1)
def f37_e : Entry := { doms := [(true, (.pair (.int .i64) (.pair (.int .i64) (.pair (.int .i64) (.int .i64)))))], cods := [(true, (.pair (.int .i64) (.pair (.int .i64) (.int .i64))))], pre := fun _ => True, fn := f37, uq := false, total := true }
def f37_E : Env := []
def f37_A : Anns := { loops := [], own := [] }
theorem f37_run (a0 : Int × Int × Int × Int) (K : (Int × Int × Int) → Prop) : runF Tryz.prog f37_E f37_A 6 Tryz.f37 f37_e.doms f37_e.cods a0 K =
    (K (a0.1, (a0.2.1, a0.2.2.1))) := by kernel_rfl
theorem f37_t (a0 : Int × Int × Int × Int) (K : (Int × Int × Int) → Prop) (hK : ∀ y : Int × Int × Int, y = f37 a0 → K y) : RunF Tryz.prog f37_E f37_A 6 Tryz.f37 f37_e.doms f37_e.cods a0 K := by
  refine ⟨?_⟩
  rw [f37_run a0 K]
  exact hK _ rfl
theorem f37_fn : f37_e.fn = f37 := rfl
theorem f37_ok : EntryOK Tryz.prog 37 f37_e := by
  refine entryF progOK (EnvOK.nil) (A := f37_A) (d := 6) Tryz.func37 rfl rfl rfl rfl (fun _ _ => trivial) fun x hpre => ?_
  exact f37_t x _ fun _ h => h.trans (congrFun f37_fn.symm _)
end Go.Proofs.YtglijnhkdnhofaaGreat
end

section
namespace Go.Proofs.YtglijnhkdnhofaaGreat
open Go Go.Pi Go.RowKit
set_option maxRecDepth 100000
set_option linter.unusedVariables false
set_option linter.unusedSimpArgs false

def f128 (x : ((Int × Int × Int) × Int × Int) × Int × Int × Int × Int) : Bool := agR x.1 x.2
def f128_e : Entry := { doms := [(true, (.pair (.pair (.int .i64) (.pair (.int .i64) (.int .i64))) (.pair (.int .i64) (.int .i64)))), (true, (.pair (.int .i64) (.pair (.int .i64) (.pair (.int .i64) (.int .i64)))))], cods := [(false, .bool)], pre := fun _ => True, fn := f128, uq := false, total := true }
def f128_E : Env := [(36, f36_e), (37, f37_e)]
def f128_A : Anns := { loops := [], own := [] }
theorem f128_run (a0 : (Int × Int × Int) × Int × Int) (a1 : Int × Int × Int × Int) (K : Bool → Prop) : runF Tryz.prog f128_E f128_A 6 Tryz.f128 f128_e.doms f128_e.cods (a0, a1) K =
    (br (decide ((IntKind.i64.wrap (a0.2.1 * a1.2.2.2)) ≤ (f36 (a0.1, ((f37 a1).1, ((f37 a1).2))))))
    (K (decide ((f36 (a0.1, ((f37 a1).1, ((f37 a1).2)))) ≤ (IntKind.i64.wrap (a0.2.2 * a1.2.2.2)))))
    (K false)) := by kernel_rfl
theorem f128_t (a0 : (Int × Int × Int) × Int × Int) (a1 : Int × Int × Int × Int) (K : Bool → Prop) (hK : ∀ y : Bool, y = f128 (a0, a1) → K y) : RunF Tryz.prog f128_E f128_A 6 Tryz.f128 f128_e.doms f128_e.cods (a0, a1) K := by
  refine ⟨?_⟩
  rw [f128_run a0 a1 K]
  have e : f36 (a0.1, f37 a1) = w64 (dot a0.1 (wpt a1)) := rfl
  show br (decide (w64 _ ≤ f36 (a0.1, f37 a1))) (K (decide (f36 (a0.1, f37 a1) ≤ w64 _))) _
  rw [e]
  refine br_if (fun h => hK _ ?_) fun h => hK _ ?_
  · simp [f128, agR, h]
  · simp [f128, agR, h]
theorem f128_fn : f128_e.fn = f128 := rfl
theorem f128_ok : EntryOK Tryz.prog 128 f128_e := by
  refine entryF progOK (EnvOK.cons f36_ok (EnvOK.cons f37_ok (EnvOK.nil))) (A := f128_A) (d := 6) Tryz.func128 rfl rfl rfl rfl (fun _ _ => trivial) fun x hpre => ?_
  obtain ⟨a0, a1⟩ := x
  exact f128_t a0 a1 _ fun _ h => h.trans (congrFun f128_fn.symm _)
end Go.Proofs.YtglijnhkdnhofaaGreat
end

section
namespace Go.Proofs.YtglijnhkdnhofaaGreat
open Go Go.Pi Go.RowKit
set_option maxRecDepth 100000
set_option linter.unusedVariables false
set_option linter.unusedSimpArgs false

def f75 (x : List ((Int × Int × Int) × Int × Int) × Int × Int × Int × Int) : Bool := x.1.all (agR · x.2)
def f75_e : Entry := { doms := [(false, (.sl (.pair (.pair (.int .i64) (.pair (.int .i64) (.int .i64))) (.pair (.int .i64) (.int .i64))))), (true, (.pair (.int .i64) (.pair (.int .i64) (.pair (.int .i64) (.int .i64)))))], cods := [(false, .bool)], pre := fun _ => True, fn := f75, uq := false, total := true }
def f75_E : Env := [(128, f128_e)]
def f75_A : Anns := { loops := [(1048576, { tms := [(0, .keep), (3, .keep), (5, .data false (.int .i64))], obs := [(1048576, .keep)], fz := [] })], own := [] }
theorem f75_run (a0 : List ((Int × Int × Int) × Int × Int)) (a1 : Int × Int × Int × Int) (K : Bool → Prop) : runF Tryz.prog f75_E f75_A 6 Tryz.f75 f75_e.doms f75_e.cods (a0, a1) K =
    (LoopP (V := Int × Unit) (fun again v => (fun (again1 : Int → Prop) (v1_0 : Int) =>
    br (lenOk (a0.length))
    (br (decide (v1_0 < ((a0.length) : Int)))
    (br (decide (0 ≤ v1_0) && decide (v1_0 < ((a0.length) : Int)))
    (br (!(f128 (((((a0.getD v1_0.toNat ((0, (0, 0)), (0, 0))).1).1, (((a0.getD v1_0.toNat ((0, (0, 0)), (0, 0))).1).2)), ((a0.getD v1_0.toNat ((0, (0, 0)), (0, 0))).2)), a1)))
    (K false)
    (again1 (IntKind.i64.wrap (v1_0 + 1))))
    False)
    (K true))
    True)
    (fun v1_0 => again (v1_0, ())) v.1) (0, ())) := by kernel_rfl
theorem f75_t (a0 : List ((Int × Int × Int) × Int × Int)) (a1 : Int × Int × Int × Int) (K : Bool → Prop) (hK : ∀ y : Bool, y = f75 (a0, a1) → K y) : RunF Tryz.prog f75_E f75_A 6 Tryz.f75 f75_e.doms f75_e.cods (a0, a1) K := by
  refine ⟨?_⟩
  rw [f75_run a0 a1 K]
  refine LoopP.up a0.length (fun i _ => ∀ r ∈ a0.take i.toNat, agR r a1 = true) (fun again i v h0 hn hI hag => ?_) (by omega) all_zero
  dsimp only
  rw [br_true_, lenOk_iff]
  intro hl
  refine br_if (fun hlt => br_must (inb h0 hlt) ?_) fun hlt => hK _ ?_
  · rw [wr (n := i + 1) (by omega) (by omega)]
    generalize hx : a0.getD i.toNat ((0, 0, 0), 0, 0) = x at *
    show br (!(agR x a1)) _ _
    refine br_two (fun h => hK _ ?_) fun h => hag () hlt (all_step (d := ((0, 0, 0), 0, 0)) h0 hlt hI ?_)
    · rw [f75]
      refine (List.all_eq_false.2 ⟨x, ?_, by simpa using h⟩).symm
      rw [← hx, getD_lt (by omega)]; exact List.getElem_mem _
    · rw [hx]; simpa using h
  · exact (List.all_eq_true.2 (all_done hlt hI)).symm
theorem f75_fn : f75_e.fn = f75 := rfl
theorem f75_ok : EntryOK Tryz.prog 75 f75_e := by
  refine entryF progOK (EnvOK.cons f128_ok (EnvOK.nil)) (A := f75_A) (d := 6) Tryz.func75 rfl rfl rfl rfl (fun _ _ => trivial) fun x hpre => ?_
  obtain ⟨a0, a1⟩ := x
  exact f75_t a0 a1 _ fun _ h => h.trans (congrFun f75_fn.symm _)
end Go.Proofs.YtglijnhkdnhofaaGreat
end

section
namespace Go.Proofs.YtglijnhkdnhofaaGreat
open Go Go.Pi Go.RowKit
set_option maxRecDepth 100000
set_option linter.unusedVariables false
set_option linter.unusedSimpArgs false

def f97 (x : Int × Int) : Int := x.1 / x.2
def f97_pre (x : Int × Int) : Prop := Fit x.1 ∧ 0 < x.2
def f97_e : Entry := { doms := [(false, (.int .i64)), (false, (.int .i64))], cods := [(false, (.int .i64))], pre := f97_pre, fn := f97, uq := false, total := false }
def f97_E : Env := []
def f97_A : Anns := { loops := [], own := [] }
theorem f97_run (a0 : Int) (a1 : Int) (K : Int → Prop) : runF Tryz.prog f97_E f97_A 6 Tryz.f97 f97_e.doms f97_e.cods (a0, a1) K =
    (br (!(decide (a1 = 0)))
    (br (!(decide (a1 = 0)))
    (br (decide ((a0.tmod a1) < 0))
    (K (IntKind.i64.wrap ((IntKind.i64.wrap (a0.tdiv a1)) - 1)))
    (K (IntKind.i64.wrap (a0.tdiv a1))))
    False)
    False) := by kernel_rfl
theorem f97_t (a0 : Int) (a1 : Int) (hpre : f97_pre (a0, a1)) (K : Int → Prop) (hK : ∀ y : Int, y = f97 (a0, a1) → K y) : RunF Tryz.prog f97_E f97_A 6 Tryz.f97 f97_e.doms f97_e.cods (a0, a1) K := by
  refine ⟨?_⟩
  rw [f97_run a0 a1 K]
  obtain ⟨h1, h2⟩ := hpre
  dsimp only at h1 h2
  have hn : (!(decide (a1 = 0))) = true := ne_zero_b (by omega)
  have hf : Fit (a0.tdiv a1) := tdiv_fit h1
  have he := floor_eq (a := a0) h2
  have hg := ediv_fit h1 h2
  refine br_must hn (br_must hn (br_if (fun h => hK _ ?_) fun h => hK _ ?_))
  · rw [if_pos h] at he
    rw [wr (n := a0.tdiv a1) (by have := hf.1; omega) hf.2, he]
    exact w64_fit hg
  · rw [if_neg h] at he
    rw [wr (n := a0.tdiv a1) (by have := hf.1; omega) hf.2, he]
    rfl
theorem f97_fn : f97_e.fn = f97 := rfl
theorem f97_ok : EntryOK Tryz.prog 97 f97_e := by
  refine entryF progOK (EnvOK.nil) (A := f97_A) (d := 6) Tryz.func97 rfl rfl rfl rfl (fun h => by cases h) fun x hpre => ?_
  obtain ⟨a0, a1⟩ := x
  exact f97_t a0 a1 hpre _ fun _ h => h.trans (congrFun f97_fn.symm _)
end Go.Proofs.YtglijnhkdnhofaaGreat
end

section
namespace Go.Proofs.YtglijnhkdnhofaaGreat
open Go Go.Pi Go.RowKit
set_option maxRecDepth 100000
set_option linter.unusedVariables false
set_option linter.unusedSimpArgs false

def f38 (x : Int × Int × Int × Int) : Int := cmpQ x
def f38_pre (x : Int × Int × Int × Int) : Prop := Fit x.1 ∧ Fit x.2.1 ∧ Fit x.2.2.1 ∧ Fit x.2.2.2 ∧ 0 < x.2.1 ∧ 0 < x.2.2.2
def f38_e : Entry := { doms := [(false, (.int .i64)), (false, (.int .i64)), (false, (.int .i64)), (false, (.int .i64))], cods := [(false, (.int .i64))], pre := f38_pre, fn := f38, uq := false, total := false }
def f38_E : Env := [(97, f97_e)]
def f38_A : Anns := { loops := [(1048576, { tms := [(0, .data false (.int .i64)), (1, .data false (.int .i64)), (2, .data false (.int .i64)), (3, .data false (.int .i64))], obs := [], fz := [] })], own := [] }
theorem f38_run (a0 : Int) (a1 : Int) (a2 : Int) (a3 : Int) (K : Int → Prop) : runF Tryz.prog f38_E f38_A 6 Tryz.f38 f38_e.doms f38_e.cods (a0, a1, a2, a3) K =
    (LoopP (V := Int × Int × Int × Int × Unit) (fun again v => (fun (again1 : Int → Int → Int → Int → Prop) (v1_0 : Int) (v1_1 : Int) (v1_2 : Int) (v1_3 : Int) =>
    f97_pre (v1_0, v1_1) ∧
    f97_pre (v1_2, v1_3) ∧
    br (decide ((f97 (v1_0, v1_1)) < (f97 (v1_2, v1_3))))
    (K (-1))
    (br (decide ((f97 (v1_0, v1_1)) > (f97 (v1_2, v1_3))))
    (K 1)
    (br ((IntKind.i64.wrap (v1_0 - (IntKind.i64.wrap ((f97 (v1_0, v1_1)) * v1_1)))) == 0)
    (br ((IntKind.i64.wrap (v1_2 - (IntKind.i64.wrap ((f97 (v1_2, v1_3)) * v1_3)))) == 0)
    (K 0)
    (br ((IntKind.i64.wrap (v1_0 - (IntKind.i64.wrap ((f97 (v1_0, v1_1)) * v1_1)))) == 0)
    (K (-1))
    (br ((IntKind.i64.wrap (v1_2 - (IntKind.i64.wrap ((f97 (v1_2, v1_3)) * v1_3)))) == 0)
    (K 1)
    (again1 v1_3 (IntKind.i64.wrap (v1_2 - (IntKind.i64.wrap ((f97 (v1_2, v1_3)) * v1_3)))) v1_1 (IntKind.i64.wrap (v1_0 - (IntKind.i64.wrap ((f97 (v1_0, v1_1)) * v1_1))))))))
    (br ((IntKind.i64.wrap (v1_0 - (IntKind.i64.wrap ((f97 (v1_0, v1_1)) * v1_1)))) == 0)
    (K (-1))
    (br ((IntKind.i64.wrap (v1_2 - (IntKind.i64.wrap ((f97 (v1_2, v1_3)) * v1_3)))) == 0)
    (K 1)
    (again1 v1_3 (IntKind.i64.wrap (v1_2 - (IntKind.i64.wrap ((f97 (v1_2, v1_3)) * v1_3)))) v1_1 (IntKind.i64.wrap (v1_0 - (IntKind.i64.wrap ((f97 (v1_0, v1_1)) * v1_1))))))))))
    (fun v1_0 v1_1 v1_2 v1_3 => again (v1_0, v1_1, v1_2, v1_3, ())) v.1 v.2.1 v.2.2.1 v.2.2.2.1) (a0, a1, a2, a3, ())) := by kernel_rfl
theorem f38_t (a0 : Int) (a1 : Int) (a2 : Int) (a3 : Int) (hpre : f38_pre (a0, a1, a2, a3)) (K : Int → Prop) (hK : ∀ y : Int, y = f38 (a0, a1, a2, a3) → K y) : RunF Tryz.prog f38_E f38_A 6 Tryz.f38 f38_e.doms f38_e.cods (a0, a1, a2, a3) K := by
  refine ⟨?_⟩
  rw [f38_run a0 a1 a2 a3 K]
  have hK2 : ∀ y, y = cmpQ (a0, a1, a2, a3) → K y := hK
  clear hK
  refine LoopP.of (fun q : Int × Int × Int × Int × Unit => f38_pre (q.1, q.2.1, q.2.2.1, q.2.2.2.1) ∧ cmpQ (q.1, q.2.1, q.2.2.1, q.2.2.2.1) = cmpQ (a0, a1, a2, a3)) (fun q => (q.2.1 + q.2.2.2.1).toNat) (fun again q hq hag => ?_) ⟨hpre, rfl⟩
  obtain ⟨n, d, m, k, u⟩ := q
  obtain ⟨⟨qf1, qf2, qf3, qf4, hd, hk⟩, hc⟩ := hq
  dsimp only at qf1 qf2 qf3 qf4 hd hk hc ⊢
  have e1 : f97 (n, d) = n / d := rfl
  have e2 : f97 (m, k) = m / k := rfl
  rw [e1, e2]
  have g1 : IntKind.i64.wrap (n - IntKind.i64.wrap (n / d * d)) = n % d := by
    rw [wrap_sub_r, Int.mul_comm, ← Int.emod_def]
    have := Int.emod_nonneg n (show d ≠ 0 by omega)
    have := Int.emod_lt_of_pos n hd
    exact wr (by omega) (by have := qf2.2; omega)
  have g2 : IntKind.i64.wrap (m - IntKind.i64.wrap (m / k * k)) = m % k := by
    rw [wrap_sub_r, Int.mul_comm, ← Int.emod_def]
    have := Int.emod_nonneg m (show k ≠ 0 by omega)
    have := Int.emod_lt_of_pos m hk
    exact wr (by omega) (by have := qf4.2; omega)
  rw [g1, g2]
  have hn0 := Int.emod_nonneg n (show d ≠ 0 by omega)
  have hnd := Int.emod_lt_of_pos n hd
  have hm0 := Int.emod_nonneg m (show k ≠ 0 by omega)
  have hmk := Int.emod_lt_of_pos m hk
  have en := Int.mul_ediv_add_emod n d
  have em := Int.mul_ediv_add_emod m k
  generalize n / d = p at *
  generalize m / k = q at *
  generalize n % d = n' at *
  generalize m % k = m' at *
  have key : n * k - m * d = (p - q) * (d * k) + (n' * k - m' * d) := by rw [← en, ← em]; grind
  have hdk : 0 < d * k := Int.mul_pos hd hk
  have b1 : 0 ≤ n' * k := Int.mul_nonneg hn0 (by omega)
  have b2 : n' * k < d * k := Int.mul_lt_mul_of_pos_right hnd hk
  have b3 : 0 ≤ m' * d := Int.mul_nonneg hm0 (by omega)
  have b4 : m' * d < k * d := Int.mul_lt_mul_of_pos_right hmk hd
  have b5 : k * d = d * k := Int.mul_comm _ _
  have lo : p < q → cmpQ (n, d, m, k) = -1 := fun h => by
    have : (p - q) * (d * k) ≤ (-1) * (d * k) := Int.mul_le_mul_of_nonneg_right (by omega) (by omega)
    simp only [cmpQ, sgn]; rw [if_pos (by omega)]
  have hi : p > q → cmpQ (n, d, m, k) = 1 := fun h => by
    have : 1 * (d * k) ≤ (p - q) * (d * k) := Int.mul_le_mul_of_nonneg_right (by omega) (by omega)
    simp only [cmpQ, sgn]; rw [if_neg (by omega), if_pos (by omega)]
  have eqq : ¬ p < q → ¬ p > q → n * k - m * d = n' * k - m' * d := fun h h2 => by
    have : p - q = 0 := by omega
    rw [key, this, Int.zero_mul, Int.zero_add]
  refine ⟨⟨qf1, hd⟩, ⟨qf3, hk⟩, br_if (fun h => hK2 _ ((lo h).symm.trans hc)) fun h => br_if (fun h2 => hK2 _ ((hi h2).symm.trans hc)) fun h2 => ?_⟩
  have heq := eqq h h2
  have cz : n' = 0 → m' = 0 → cmpQ (n, d, m, k) = 0 := fun h3 h4 => by
    simp only [cmpQ, sgn]; rw [heq, h3, h4]; simp
  have cl : n' = 0 → m' ≠ 0 → cmpQ (n, d, m, k) = -1 := fun h3 h4 => by
    have : 0 < m' * d := Int.mul_pos (by omega) hd
    simp only [cmpQ, sgn]; rw [heq, h3, if_pos (by omega)]
  have cg : n' ≠ 0 → m' = 0 → cmpQ (n, d, m, k) = 1 := fun h3 h4 => by
    have : 0 < n' * k := Int.mul_pos (by omega) hk
    simp only [cmpQ, sgn]; rw [heq, h4, if_neg (by omega), if_pos (by omega)]
  have cn : n' ≠ 0 → m' ≠ 0 → again (k, m', d, n', ()) := fun h3 h4 => by
    refine hag _ ⟨⟨qf4, ⟨by dsimp only; omega, by dsimp only; have := qf4.2; omega⟩, qf2, ⟨by dsimp only; omega, by dsimp only; have := qf2.2; omega⟩, by dsimp only; omega, by dsimp only; omega⟩, ?_⟩ (by dsimp only; omega)
    dsimp only
    rw [← hc]
    simp only [cmpQ]
    rw [heq, Int.mul_comm k, Int.mul_comm d]
  refine br_two (fun h3 => br_two (fun h4 => hK2 _ ((cz (beq_iff_eq.1 h3) (beq_iff_eq.1 h4)).symm.trans hc)) fun h4 => br_two (fun _ => hK2 _ ((cl (beq_iff_eq.1 h3) (beq_eq_false_iff_ne.1 h4)).symm.trans hc)) fun h5 => by rw [h3] at h5; cases h5) fun h3 => br_two (fun h4 => by rw [h3] at h4; cases h4) fun _ => br_two (fun h4 => hK2 _ ((cg (beq_eq_false_iff_ne.1 h3) (beq_iff_eq.1 h4)).symm.trans hc)) fun h4 => cn (beq_eq_false_iff_ne.1 h3) (beq_eq_false_iff_ne.1 h4)
theorem f38_fn : f38_e.fn = f38 := rfl
theorem f38_ok : EntryOK Tryz.prog 38 f38_e := by
  refine entryF progOK (EnvOK.cons f97_ok (EnvOK.nil)) (A := f38_A) (d := 6) Tryz.func38 rfl rfl rfl rfl (fun h => by cases h) fun x hpre => ?_
  obtain ⟨a0, a1, a2, a3⟩ := x
  exact f38_t a0 a1 a2 a3 hpre _ fun _ h => h.trans (congrFun f38_fn.symm _)
end Go.Proofs.YtglijnhkdnhofaaGreat
end

section
namespace Go.Proofs.YtglijnhkdnhofaaGreat
open Go Go.Pi Go.RowKit
set_option maxRecDepth 100000
set_option linter.unusedVariables false
set_option linter.unusedSimpArgs false

def f129 (x : (Int × Int × Int × Int) × Int × Int × Int × Int) : Bool := decide (ordC x.1 x.2 < 0)
def f129_pre (x : (Int × Int × Int × Int) × Int × Int × Int × Int) : Prop := WFit x.1 ∧ WFit x.2
def f129_e : Entry := { doms := [(true, (.pair (.int .i64) (.pair (.int .i64) (.pair (.int .i64) (.int .i64))))), (true, (.pair (.int .i64) (.pair (.int .i64) (.pair (.int .i64) (.int .i64)))))], cods := [(false, .bool)], pre := f129_pre, fn := f129, uq := false, total := false }
def f129_E : Env := [(37, f37_e), (38, f38_e)]
def f129_A : Anns := { loops := [], own := [], unroll := 4 }
theorem f129_run (a0 : Int × Int × Int × Int) (a1 : Int × Int × Int × Int) (K : Bool → Prop) : runF Tryz.prog f129_E f129_A 6 Tryz.f129 f129_e.doms f129_e.cods (a0, a1) K =
    (f38_pre ((f37 a0).1, (a0.2.2.2, ((f37 a1).1, a1.2.2.2))) ∧
    br ((f38 ((f37 a0).1, (a0.2.2.2, ((f37 a1).1, a1.2.2.2)))) != 0)
    (K (decide ((f38 ((f37 a0).1, (a0.2.2.2, ((f37 a1).1, a1.2.2.2)))) < 0)))
    (f38_pre (((f37 a0).2).1, (a0.2.2.2, (((f37 a1).2).1, a1.2.2.2))) ∧
    br ((f38 (((f37 a0).2).1, (a0.2.2.2, (((f37 a1).2).1, a1.2.2.2)))) != 0)
    (K (decide ((f38 (((f37 a0).2).1, (a0.2.2.2, (((f37 a1).2).1, a1.2.2.2)))) < 0)))
    (f38_pre (((f37 a0).2).2, (a0.2.2.2, (((f37 a1).2).2, a1.2.2.2))) ∧
    br ((f38 (((f37 a0).2).2, (a0.2.2.2, (((f37 a1).2).2, a1.2.2.2)))) != 0)
    (K (decide ((f38 (((f37 a0).2).2, (a0.2.2.2, (((f37 a1).2).2, a1.2.2.2)))) < 0)))
    (K false)))) := by kernel_rfl
theorem f129_t (a0 : Int × Int × Int × Int) (a1 : Int × Int × Int × Int) (hpre : f129_pre (a0, a1)) (K : Bool → Prop) (hK : ∀ y : Bool, y = f129 (a0, a1) → K y) : RunF Tryz.prog f129_E f129_A 6 Tryz.f129 f129_e.doms f129_e.cods (a0, a1) K := by
  refine ⟨?_⟩
  rw [f129_run a0 a1 K]
  obtain ⟨⟨⟨p1, p2, p3, p4⟩, p5⟩, ⟨q1, q2, q3, q4⟩, q5⟩ := hpre
  have e : ∀ p q, f38 (p, a0.2.2.2, q, a1.2.2.2) = sgn (p * a1.2.2.2 - q * a0.2.2.2) := fun _ _ => rfl
  have lt : ∀ n : Int, n = ordC a0 a1 → decide (sgn n < 0) = f129 (a0, a1) := fun n h => by
    rw [f129, ← h]
    exact decide_eq_decide.2 sgn_neg
  have e37 : ∀ v : WV, f37 v = (v.1, v.2.1, v.2.2.1) := fun _ => rfl
  simp only [e37, e]
  refine ⟨⟨p1, p4, q1, q4, p5, q5⟩, br_two (fun h => hK _ (lt _ ?_)) fun h => ⟨⟨p2, p4, q2, q4, p5, q5⟩, br_two (fun h2 => hK _ (lt _ ?_)) fun h2 => ⟨⟨p3, p4, q3, q4, p5, q5⟩, br_two (fun h3 => hK _ (lt _ ?_)) fun h3 => hK _ ?_⟩⟩⟩
  · rw [ordC, firstN, if_pos (sgn_ne.1 (bne_t.1 h))]
  · rw [ordC, firstN, if_neg (fun hh => sgn_ne.2 hh (bne_f.1 h)), if_pos (sgn_ne.1 (bne_t.1 h2))]
  · rw [ordC, firstN, if_neg (fun hh => sgn_ne.2 hh (bne_f.1 h)), if_neg (fun hh => sgn_ne.2 hh (bne_f.1 h2))]
  · have z : ∀ {n : Int}, (sgn n != 0) = false → n = 0 := fun h => Classical.byContradiction fun hh => sgn_ne.2 hh (bne_f.1 h)
    rw [f129]
    symm
    rw [decide_eq_false_iff_not, ordC, firstN, if_neg (fun hh => hh (z h)), if_neg (fun hh => hh (z h2))]
    have := z h3
    dsimp only at this ⊢
    omega
theorem f129_fn : f129_e.fn = f129 := rfl
theorem f129_ok : EntryOK Tryz.prog 129 f129_e := by
  refine entryF progOK (EnvOK.cons f37_ok (EnvOK.cons f38_ok (EnvOK.nil))) (A := f129_A) (d := 6) Tryz.func129 rfl rfl rfl rfl (fun h => by cases h) fun x hpre => ?_
  obtain ⟨a0, a1⟩ := x
  exact f129_t a0 a1 hpre _ fun _ h => h.trans (congrFun f129_fn.symm _)
end Go.Proofs.YtglijnhkdnhofaaGreat
end
