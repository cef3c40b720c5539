/- What functions of the program compute, each proved once, part 7. -/
import Derived.Test.YtglijnhkdnhofaaPiD
import Derived.Test.YtglijnhkdnhofaaFnA
import Derived.Test.YtglijnhkdnhofaaFnF
import Derived.Test.YtglijnhkdnhofaaFnC
import Derived.Test.YtglijnhkdnhofaaFnB

section
namespace Go.Proofs.Ytglijnhkdnhofaa
open Go Go.Pi Go.RowKit
set_option maxRecDepth 100000
set_option linter.unusedVariables false
set_option linter.unusedSimpArgs false

def f79 (x : (Int × Int × Int) × (Int × Int × Int) × Int × Int × Int) : Int := w64 (det x.1 x.2.1 x.2.2)
def f79_e : Entry := { doms := [(true, (.pair (.int .i64) (.pair (.int .i64) (.int .i64)))), (true, (.pair (.int .i64) (.pair (.int .i64) (.int .i64)))), (true, (.pair (.int .i64) (.pair (.int .i64) (.int .i64))))], cods := [(false, (.int .i64))], pre := fun _ => True, fn := f79, uq := false, total := true }
def f79_E : Env := [(37, f37_e), (78, f78_e)]
def f79_A : Anns := { loops := [], own := [] }
theorem f79_run (a0 : Int × Int × Int) (a1 : Int × Int × Int) (a2 : Int × Int × Int) (K : Int → Prop) : runF Try.prog f79_E f79_A 6 Try.f79 f79_e.doms f79_e.cods (a0, a1, a2) K =
    (K (f37 (a0, ((f78 (a1, a2)).1, ((f78 (a1, a2)).2))))) := by kernel_rfl
theorem f79_t (a0 : Int × Int × Int) (a1 : Int × Int × Int) (a2 : Int × Int × Int) (K : Int → Prop) (hK : ∀ y : Int, y = f79 (a0, a1, a2) → K y) : RunF Try.prog f79_E f79_A 6 Try.f79 f79_e.doms f79_e.cods (a0, a1, a2) K := by
  refine ⟨?_⟩
  rw [f79_run a0 a1 a2 K]
  refine hK _ ?_
  show f37 (a0, f78 (a1, a2)) = _
  simp only [f37, f78, f79, det, dot_w]
theorem f79_fn : f79_e.fn = f79 := rfl
theorem f79_ok : EntryOK Try.prog 79 f79_e := by
  refine entryF progOK (EnvOK.cons f37_ok (EnvOK.cons f78_ok (EnvOK.nil))) (A := f79_A) (d := 6) Try.func79 rfl rfl rfl rfl (fun _ _ => trivial) fun x hpre => ?_
  obtain ⟨a0, a1, a2⟩ := x
  exact f79_t a0 a1 a2 _ fun _ h => h.trans (congrFun f79_fn.symm _)
end Go.Proofs.Ytglijnhkdnhofaa
end

section
namespace Go.Proofs.Ytglijnhkdnhofaa
open Go Go.Pi Go.RowKit
set_option maxRecDepth 100000
set_option linter.unusedVariables false
set_option linter.unusedSimpArgs false

def f27 (l : List (Int × Int × Int)) : Int := rkR l
theorem mm_max (a b : Int) : minmax true a b = max a b := by simp only [minmax]; rw [Int.max_def]; split <;> split <;> omega
theorem zt (x : V3) : (!((x.1 == 0) && ((x.2.1 == 0) && ((x.2.2 == 0) && true)))) = decide (x ≠ z3) := by
  rw [v3_z]
  by_cases h : x = z3
  · subst h; rfl
  · rw [decide_eq_false h, decide_eq_true h]; rfl
def f27_e : Entry := { doms := [(false, (.sl (.pair (.int .i64) (.pair (.int .i64) (.int .i64)))))], cods := [(false, (.int .i64))], pre := fun _ => True, fn := f27, uq := false, total := true }
def f27_E : Env := [(78, f78_e), (79, f79_e)]
def f27_A : Anns := { loops := [(1048576, { tms := [(0, .keep), (3, .data false (.int .i64)), (4, .data false (.int .i64))], obs := [], fz := [] }),
  (1048578, { tms := [(0, .keep), (3, .data false (.int .i64)), (4, .keep), (5, .data false (.int .i64))], obs := [], fz := [] }),
  (1048580, { tms := [(0, .keep), (3, .data false (.int .i64)), (4, .keep), (5, .keep), (6, .data false (.int .i64))], obs := [], fz := [] }),
  (1572893, { tms := [(0, .keep), (3, .data false (.int .i64)), (4, .keep)], obs := [], fz := [] })], own := [] }
theorem f27_run (a0 : List (Int × Int × Int)) (K : Int → Prop) : runF Try.prog f27_E f27_A 6 Try.f27 f27_e.doms f27_e.cods a0 K =
    (LoopP (V := Int × Int × Unit) (fun again v => (fun (again1 : Int → Int → Prop) (v1_0 : Int) (v1_1 : Int) =>
    br (lenOk (a0.length))
    (br (decide (v1_1 < ((a0.length) : Int)))
    (JoinQ (V := Int × Unit) (fun J => (fun (join2 : Int → Prop) =>
    br (decide (0 ≤ v1_1) && decide (v1_1 < ((a0.length) : Int)))
    (br (!(((a0.getD v1_1.toNat (0, (0, 0))).1 == 0) && ((((a0.getD v1_1.toNat (0, (0, 0))).2).1 == 0) && ((((a0.getD v1_1.toNat (0, (0, 0))).2).2 == 0) && true))))
    (join2 (minmax true v1_0 1))
    (join2 v1_0))
    False) (fun j2_0 => J (j2_0, ()))) (fun v => (fun (j2_0 : Int) =>
    LoopP (V := Int × Int × Unit) (fun again v => (fun (again3 : Int → Int → Prop) (v3_0 : Int) (v3_1 : Int) =>
    br (decide (v3_1 < v1_1))
    (br (decide (0 ≤ v1_1) && decide (v1_1 < ((a0.length) : Int)))
    (br (decide (0 ≤ v3_1) && decide (v3_1 < ((a0.length) : Int)))
    (br (!(((f78 (((a0.getD v1_1.toNat (0, (0, 0))).1, ((a0.getD v1_1.toNat (0, (0, 0))).2)), ((a0.getD v3_1.toNat (0, (0, 0))).1, ((a0.getD v3_1.toNat (0, (0, 0))).2)))).1 == 0) && ((((f78 (((a0.getD v1_1.toNat (0, (0, 0))).1, ((a0.getD v1_1.toNat (0, (0, 0))).2)), ((a0.getD v3_1.toNat (0, (0, 0))).1, ((a0.getD v3_1.toNat (0, (0, 0))).2)))).2).1 == 0) && ((((f78 (((a0.getD v1_1.toNat (0, (0, 0))).1, ((a0.getD v1_1.toNat (0, (0, 0))).2)), ((a0.getD v3_1.toNat (0, (0, 0))).1, ((a0.getD v3_1.toNat (0, (0, 0))).2)))).2).2 == 0) && true))))
    (LoopP (V := Int × Int × Unit) (fun again v => (fun (again4 : Int → Int → Prop) (v4_0 : Int) (v4_1 : Int) =>
    br (decide (v4_1 < v3_1))
    (br (decide (0 ≤ v1_1) && decide (v1_1 < ((a0.length) : Int)))
    (br (decide (0 ≤ v3_1) && decide (v3_1 < ((a0.length) : Int)))
    (br (decide (0 ≤ v4_1) && decide (v4_1 < ((a0.length) : Int)))
    (br ((f79 (((a0.getD v1_1.toNat (0, (0, 0))).1, ((a0.getD v1_1.toNat (0, (0, 0))).2)), (((a0.getD v3_1.toNat (0, (0, 0))).1, ((a0.getD v3_1.toNat (0, (0, 0))).2)), ((a0.getD v4_1.toNat (0, (0, 0))).1, ((a0.getD v4_1.toNat (0, (0, 0))).2))))) != 0)
    (again4 3 (IntKind.i64.wrap (v4_1 + 1)))
    (again4 v4_0 (IntKind.i64.wrap (v4_1 + 1))))
    False)
    False)
    False)
    (again3 v4_0 (IntKind.i64.wrap (v3_1 + 1))))
    (fun v4_0 v4_1 => again (v4_0, v4_1, ())) v.1 v.2.1) ((minmax true v3_0 2), 0, ()))
    (LoopP (V := Int × Int × Unit) (fun again v => (fun (again5 : Int → Int → Prop) (v5_0 : Int) (v5_1 : Int) =>
    br (decide (v5_1 < v3_1))
    (br (decide (0 ≤ v1_1) && decide (v1_1 < ((a0.length) : Int)))
    (br (decide (0 ≤ v3_1) && decide (v3_1 < ((a0.length) : Int)))
    (br (decide (0 ≤ v5_1) && decide (v5_1 < ((a0.length) : Int)))
    (br ((f79 (((a0.getD v1_1.toNat (0, (0, 0))).1, ((a0.getD v1_1.toNat (0, (0, 0))).2)), (((a0.getD v3_1.toNat (0, (0, 0))).1, ((a0.getD v3_1.toNat (0, (0, 0))).2)), ((a0.getD v5_1.toNat (0, (0, 0))).1, ((a0.getD v5_1.toNat (0, (0, 0))).2))))) != 0)
    (again5 3 (IntKind.i64.wrap (v5_1 + 1)))
    (again5 v5_0 (IntKind.i64.wrap (v5_1 + 1))))
    False)
    False)
    False)
    (again3 v5_0 (IntKind.i64.wrap (v3_1 + 1))))
    (fun v5_0 v5_1 => again (v5_0, v5_1, ())) v.1 v.2.1) (v3_0, 0, ())))
    False)
    False)
    (again1 v3_0 (IntKind.i64.wrap (v1_1 + 1))))
    (fun v3_0 v3_1 => again (v3_0, v3_1, ())) v.1 v.2.1) (j2_0, 0, ())) v.1))
    (K v1_0))
    True)
    (fun v1_0 v1_1 => again (v1_0, v1_1, ())) v.1 v.2.1) (0, 0, ())) := by kernel_rfl
theorem f27_t (a0 : List (Int × Int × Int)) (K : Int → Prop) (hK : ∀ y : Int, y = f27 a0 → K y) : RunF Try.prog f27_E f27_A 6 Try.f27 f27_e.doms f27_e.cods a0 K := by
  refine ⟨?_⟩
  rw [f27_run a0 K]
  have e93 : ∀ a b : V3, f78 (a, b) = w3 (cross a b) := fun _ _ => rfl
  have e72 : ∀ a b c : V3, f79 (a, b, c) = w64 (det a b c) := fun _ _ _ => rfl
  have b1 : ∀ i : Nat, (!(((a0.getD i z3).1 == 0) && (((a0.getD i z3).2.1 == 0) && (((a0.getD i z3).2.2 == 0) && true)))) = P1 a0 i := fun i => zt _
  have b2 : ∀ i k : Nat, (!(((f78 (a0.getD i z3, a0.getD k z3)).1 == 0) && (((f78 (a0.getD i z3, a0.getD k z3)).2.1 == 0) && (((f78 (a0.getD i z3, a0.getD k z3)).2.2 == 0) && true)))) = P2 a0 i k := fun i k => zt _
  have b3 : ∀ i k j : Nat, (f79 (a0.getD i z3, a0.getD k z3, a0.getD j z3) != 0) = P3 a0 i k j := fun i k j => by
    rw [e72, P3]
    by_cases h : w64 (det (a0.getD i z3) (a0.getD k z3) (a0.getD j z3)) = 0
    · rw [h, decide_eq_false (fun hh => hh rfl)]; rfl
    · rw [decide_eq_true h]; exact bne_iff_ne.2 h
  refine LoopP.up2 a0.length (fun i r (_ : Unit) => r = rk3 (any1 a0 i.toNat) (any2 a0 i.toNat) (any3 a0 i.toNat)) (fun again1 r1 i1 _ h10 h1n G1 H1 => ?_) (by omega) rfl
  obtain ⟨i, rfl⟩ := Int.eq_ofNat_of_zero_le h10
  dsimp only at G1 ⊢
  rw [br_true_, lenOk_iff]
  intro hl
  refine br_if (fun hi => ?_) fun hi => hK _ ?_
  rotate_left
  · have : i = a0.length := by omega
    subst this
    rw [G1]; rfl
  have hi : i < a0.length := by omega
  have bi := inb (show (0 : Int) ≤ i by omega) (show (i : Int) < (a0.length : Int) by omega)
  rw [wr (n := (i : Int) + 1) (by omega) (by omega)]
  rw [Int.toNat_natCast] at G1 ⊢
  have s1 : any1 a0 (i + 1) = (any1 a0 i || P1 a0 i) := any_succ _ _
  have s2 : any2 a0 (i + 1) = (any2 a0 i || an2 a0 i i) := any_succ _ _
  have s3 : any3 a0 (i + 1) = (any3 a0 i || an3' a0 i i) := any_succ _ _
  refine JoinQ.use (fun q => q = (rk3 (any1 a0 (i + 1)) (any2 a0 i) (any3 a0 i), ())) (fun G hG => ?_) fun q hq => ?_
  · refine br_must bi ?_
    rw [b1, mm_max, G1, rk3_max1]
    refine br_two (fun h => hG _ (by rw [s1, h, Bool.or_true])) fun h => hG _ (by rw [s1, h, Bool.or_false])
  subst hq
  dsimp only
  refine LoopP.up2 i (fun k r (_ : Unit) => r = rk3 (any1 a0 (i + 1)) (any2 a0 i || an2 a0 i k.toNat) (any3 a0 i || an3' a0 i k.toNat)) (fun again2 r2 k2 _ h20 h2n G2 H2 => ?_) (by omega) (by simp [an2, an3'])
  obtain ⟨k, rfl⟩ := Int.eq_ofNat_of_zero_le h20
  dsimp only at G2 ⊢
  refine br_if (fun hk => ?_) fun hk => H1 _ () (by omega) ?_
  rotate_left
  · have : k = i := by omega
    subst this
    rw [G2, show ((k : Int) + 1).toNat = k + 1 by omega, Int.toNat_natCast, s2, s3]
  have hk : k < i := by omega
  have bk := inb (show (0 : Int) ≤ k by omega) (show (k : Int) < (a0.length : Int) by omega)
  rw [wr (n := (k : Int) + 1) (by omega) (by omega)]
  rw [Int.toNat_natCast] at G2 ⊢
  have t2 : an2 a0 i (k + 1) = (an2 a0 i k || P2 a0 i k) := any_succ _ _
  have t3 : an3' a0 i (k + 1) = (an3' a0 i k || an3 a0 i k k) := any_succ _ _
  refine br_must bi (br_must bk ?_)
  show br (!(((f78 (a0.getD i z3, a0.getD k z3)).1 == 0) && (((f78 (a0.getD i z3, a0.getD k z3)).2.1 == 0) && (((f78 (a0.getD i z3, a0.getD k z3)).2.2 == 0) && true)))) _ _
  rw [b2, mm_max, G2, rk3_max2]
  have hs : ∀ b, P2 a0 i k = b → rk3 (any1 a0 (i + 1)) (if b then true else (any2 a0 i || an2 a0 i k)) (any3 a0 i || an3' a0 i k) = rk3 (any1 a0 (i + 1)) (any2 a0 i || an2 a0 i (k + 1)) (any3 a0 i || an3' a0 i k) := fun b h => by
    rw [t2, h]
    cases b <;> simp
  refine br_two (fun h => ?_) fun h => ?_
  · rw [show rk3 (any1 a0 (i + 1)) true (any3 a0 i || an3' a0 i k) = _ from hs true h]
    refine LoopP.up2 k (fun j r (_ : Unit) => r = rk3 (any1 a0 (i + 1)) (any2 a0 i || an2 a0 i (k + 1)) (any3 a0 i || an3' a0 i k || an3 a0 i k j.toNat)) (fun again3 r3 j3 _ h30 h3n G3 H3 => ?_) (by omega) (by simp [an3])
    obtain ⟨j, rfl⟩ := Int.eq_ofNat_of_zero_le h30
    dsimp only at G3 ⊢
    refine br_if (fun hj => ?_) fun hj => H2 _ () (by omega) ?_
    rotate_left
    · have : j = k := by omega
      subst this
      rw [G3, show ((j : Int) + 1).toNat = j + 1 by omega, Int.toNat_natCast, t3, Bool.or_assoc]
    have hj : j < k := by omega
    have u3 : an3 a0 i k (j + 1) = (an3 a0 i k j || P3 a0 i k j) := any_succ _ _
    rw [wr (n := (j : Int) + 1) (by omega) (by omega)]
    rw [Int.toNat_natCast] at G3 ⊢
    refine br_must bi (br_must bk (br_must (inb (by omega) (by omega)) ?_))
    show br (f79 (a0.getD i z3, a0.getD k z3, a0.getD j z3) != 0) _ _
    rw [b3, G3]
    refine br_two (fun h => H3 _ () (by omega) ?_) fun h => H3 _ () (by omega) ?_
    · rw [show ((j : Int) + 1).toNat = j + 1 by omega, u3, h, Bool.or_true, Bool.or_true]; rfl
    · rw [show ((j : Int) + 1).toNat = j + 1 by omega, u3, h, Bool.or_false]
  · rw [show rk3 (any1 a0 (i + 1)) (any2 a0 i || an2 a0 i k) (any3 a0 i || an3' a0 i k) = _ from hs false h]
    refine LoopP.up2 k (fun j r (_ : Unit) => r = rk3 (any1 a0 (i + 1)) (any2 a0 i || an2 a0 i (k + 1)) (any3 a0 i || an3' a0 i k || an3 a0 i k j.toNat)) (fun again3 r3 j3 _ h30 h3n G3 H3 => ?_) (by omega) (by simp [an3])
    obtain ⟨j, rfl⟩ := Int.eq_ofNat_of_zero_le h30
    dsimp only at G3 ⊢
    refine br_if (fun hj => ?_) fun hj => H2 _ () (by omega) ?_
    rotate_left
    · have : j = k := by omega
      subst this
      rw [G3, show ((j : Int) + 1).toNat = j + 1 by omega, Int.toNat_natCast, t3, Bool.or_assoc]
    have hj : j < k := by omega
    have u3 : an3 a0 i k (j + 1) = (an3 a0 i k j || P3 a0 i k j) := any_succ _ _
    rw [wr (n := (j : Int) + 1) (by omega) (by omega)]
    rw [Int.toNat_natCast] at G3 ⊢
    refine br_must bi (br_must bk (br_must (inb (by omega) (by omega)) ?_))
    show br (f79 (a0.getD i z3, a0.getD k z3, a0.getD j z3) != 0) _ _
    rw [b3, G3]
    refine br_two (fun h => H3 _ () (by omega) ?_) fun h => H3 _ () (by omega) ?_
    · rw [show ((j : Int) + 1).toNat = j + 1 by omega, u3, h, Bool.or_true, Bool.or_true]; rfl
    · rw [show ((j : Int) + 1).toNat = j + 1 by omega, u3, h, Bool.or_false]
theorem f27_fn : f27_e.fn = f27 := rfl
theorem f27_ok : EntryOK Try.prog 27 f27_e := by
  refine entryF progOK (EnvOK.cons f78_ok (EnvOK.cons f79_ok (EnvOK.nil))) (A := f27_A) (d := 6) Try.func27 rfl rfl rfl rfl (fun _ _ => trivial) fun x hpre => ?_
  exact f27_t x _ fun _ h => h.trans (congrFun f27_fn.symm _)
end Go.Proofs.Ytglijnhkdnhofaa
end

section
namespace Go.Pi
set_option linter.unusedVariables false
def sgn (n : Int) : Int := if n < 0 then -1 else if n > 0 then 1 else 0
def cmpQ (x : Int × Int × Int × Int) : Int := sgn (x.1 * x.2.2.2 - x.2.2.1 * x.2.1)
abbrev R2 := Int × Int
def mns (a b : R2) : R2 := (a.1 - b.2, a.2 - b.1)
def nearF (d : R2) : Int := if d.1 ≤ 0 ∧ 0 ≤ d.2 then 0 else minmax false (d.1 * d.1) (d.2 * d.2)
def farF (d : R2) : Int := minmax true (d.1 * d.1) (d.2 * d.2)
def lagD (l : List R2) (lag i : Nat) : R2 := mns (l.getD (i + lag) (0, 0)) (l.getD i (0, 0))
def sumN (f : Nat → Int) (n : Nat) : Int := ((List.range n).map f).sum
theorem sumN_succ (f : Nat → Int) (n : Nat) : sumN f (n + 1) = sumN f n + f n := by simp [sumN, List.range_succ]
theorem sumN_le {f g : Nat → Int} : ∀ {n : Nat}, (∀ i, i < n → f i ≤ g i) → sumN f n ≤ sumN g n
  | 0, _ => by simp [sumN]
  | n + 1, h => by
    rw [sumN_succ, sumN_succ]
    have := sumN_le (n := n) fun i hi => h i (by omega)
    have := h n (by omega)
    omega
theorem sumN_congr {f g : Nat → Int} {n : Nat} (h : ∀ i, i < n → f i = g i) : sumN f n = sumN g n :=
  Int.le_antisymm (sumN_le fun i hi => by rw [h i hi]; exact Int.le_refl _) (sumN_le fun i hi => by rw [h i hi]; exact Int.le_refl _)
theorem sumN_bound {f : Nat → Int} {M : Int} : ∀ {n : Nat}, (∀ i, i < n → 0 ≤ f i ∧ f i ≤ M) → 0 ≤ sumN f n ∧ sumN f n ≤ n * M
  | 0, _ => by simp [sumN]
  | n + 1, h => by
    have h1 := sumN_bound (n := n) fun i hi => h i (by omega)
    have h2 := h n (by omega)
    rw [sumN_succ, show ((n + 1 : Nat) : Int) * M = n * M + M by rw [Int.natCast_add, Int.add_mul]; simp]
    omega
/-- The error of ranges and a lag. -/
def rgsE (l : List R2) : Int := if l.length = 0 then 10 else if l.length > 30 then 8 else (eachE l.length fun i => rngE (l.getD i (0, 0)) 10000).2
def lagE (n : Nat) (lag : Int) : Int := if 1 ≤ lag ∧ lag ≤ (n : Int) - 1 then 0 else 2
def strE (l : List R2) (lag : Int) : Int := if rgsE l ≠ 0 then rgsE l else lagE l.length lag
def strV (l : List R2) (lag : Nat) : R2 × R2 := (low (sumN (fun i => nearF (lagD l lag i)) (l.length - lag)) ((l.length : Int) - lag), low (sumN (fun i => farF (lagD l lag i)) (l.length - lag)) ((l.length : Int) - lag))
def strIn (l : List R2) (lag : Int) : (R2 × R2) × Int := if strE l lag ≠ 0 then (no4, strE l lag) else (strV l lag.toNat, 0)
theorem rngE_zero {r : R2} {m : Int} (h : rngE r m = 0) : -m ≤ r.1 ∧ r.1 ≤ r.2 ∧ r.2 ≤ m := by
  unfold rngE at h
  split at h
  · simp at h
  · rename_i h4
    split at h
    · rename_i h5
      have h4 := Classical.byContradiction h4
      exact ⟨by omega, h5, by omega⟩
    · simp at h
/-- Valid ranges and a lag. -/
structure RgOK (l : List R2) (lag : Int) : Prop where
  len : l.length ≤ 30
  lag : 1 ≤ lag ∧ lag ≤ (l.length : Int) - 1
  el : ∀ r ∈ l, -10000 ≤ r.1 ∧ r.1 ≤ r.2 ∧ r.2 ≤ 10000
theorem strE_zero {l : List R2} {lag : Int} (h : strE l lag = 0) : RgOK l lag ∧ rgsE l = 0 := by
  unfold strE at h
  split at h
  · rename_i h1; exact absurd h h1
  · rename_i h1
    have h1 := Classical.byContradiction h1
    have h0 := h1
    unfold rgsE at h1
    unfold lagE at h
    split at h1
    · simp at h1
    · split at h1
      · simp at h1
      · rename_i h2 h3
        split at h
        · rename_i h4
          have hz := eachE_zero h1
          refine ⟨⟨by omega, h4, fun r hr => ?_⟩, h0⟩
          obtain ⟨i, hi, e⟩ := List.getElem_of_mem hr
          have := rngE_zero (hz i hi)
          rwa [getD_lt hi, e] at this
        · simp at h
theorem sq_le {n m : Int} (h : -m ≤ n ∧ n ≤ m) : 0 ≤ n * n ∧ n * n ≤ m * m := by
  have h1 := mul_le h h
  refine ⟨?_, h1.2⟩
  rcases Int.le_total 0 n with h2 | h2
  · exact Int.mul_nonneg h2 h2
  · exact Int.mul_nonneg_of_nonpos_of_nonpos h2 h2
theorem lagD_le {l : List R2} {lag : Nat} (h : RgOK l lag) {i : Nat} (hi : i < l.length - lag) : (-20000 ≤ (lagD l lag i).1 ∧ (lagD l lag i).1 ≤ 20000) ∧ -20000 ≤ (lagD l lag i).2 ∧ (lagD l lag i).2 ≤ 20000 := by
  have h1 := h.el _ (getD_mem (d := (0, 0)) (show i + lag < l.length by omega))
  have h2 := h.el _ (getD_mem (d := (0, 0)) (show i < l.length by omega))
  simp only [lagD, mns]
  omega
theorem nearF_b {l : List R2} {lag : Nat} (h : RgOK l lag) {i : Nat} (hi : i < l.length - lag) : 0 ≤ nearF (lagD l lag i) ∧ nearF (lagD l lag i) ≤ 400000000 := by
  have hd := lagD_le h hi
  have h1 := sq_le hd.1
  have h2 := sq_le hd.2
  unfold nearF minmax
  split
  · omega
  · simp only; split <;> omega
theorem farF_b {l : List R2} {lag : Nat} (h : RgOK l lag) {i : Nat} (hi : i < l.length - lag) : 0 ≤ farF (lagD l lag i) ∧ farF (lagD l lag i) ≤ 400000000 := by
  have hd := lagD_le h hi
  have h1 := sq_le hd.1
  have h2 := sq_le hd.2
  unfold farF minmax
  simp only; split <;> omega
theorem strS {l : List R2} {lag : Nat} (h : RgOK l lag) {n : Nat} (hn : n ≤ l.length - lag) : (0 ≤ sumN (fun i => nearF (lagD l lag i)) n ∧ sumN (fun i => nearF (lagD l lag i)) n ≤ 12000000000) ∧ 0 ≤ sumN (fun i => farF (lagD l lag i)) n ∧ sumN (fun i => farF (lagD l lag i)) n ≤ 12000000000 := by
  have h1 := sumN_bound (n := n) fun i hi => nearF_b h (show i < l.length - lag by omega)
  have h2 := sumN_bound (n := n) fun i hi => farF_b h (show i < l.length - lag by omega)
  have := h.len
  omega
end Go.Pi
end

section
namespace Go.Pi
set_option linter.unusedVariables false
theorem sgn_neg {n : Int} : sgn n < 0 ↔ n < 0 := by
  unfold sgn
  split
  · omega
  · split <;> omega
theorem sgn_ne {n : Int} : sgn n ≠ 0 ↔ n ≠ 0 := by
  unfold sgn
  split
  · omega
  · split <;> omega
/-- A wind that can be compared. -/
def WFit (v : WV) : Prop := (Fit v.1 ∧ Fit v.2.1 ∧ Fit v.2.2.1 ∧ Fit v.2.2.2) ∧ 0 < v.2.2.2
theorem wfit_le {v : WV} {m : Int} (h : V3.le (wpt v) m) (hd : v.2.2.2 ≤ m) (h0 : 0 < v.2.2.2) (hm : m ≤ 9223372036854775807) : WFit v :=
  ⟨⟨fit_le h.1 hm, fit_le h.2.1 hm, fit_le h.2.2 hm, fit_le ⟨by omega, hd⟩ hm⟩, h0⟩
theorem gcd_le_add (a b : Nat) : Nat.gcd a b ≤ a + b := by
  rcases Nat.eq_zero_or_pos a with h | h
  · subst h; rw [Nat.gcd_zero_left]; omega
  · exact Nat.le_trans (Nat.gcd_le_left b h) (by omega)
theorem insW_split (v : WV) (q : List WV) : ∀ p : List WV, (∀ x ∈ p, wlt x v) → insW (p ++ q) v = p ++ insW q v
  | [], _ => rfl
  | x :: p, h => by
    rw [List.cons_append, insW, if_pos (show ordC x v < 0 from h x (.head _)), insW_split v q p fun y hy => h y (.tail _ hy)]; rfl
theorem lowV_neg (p : V3) {d : Int} (h : d ≠ 0) : lowV (-p.1, -p.2.1, -p.2.2) (-d) = lowV p d := by
  have h' : -d ≠ 0 := by omega
  obtain ⟨a1, a2, a3⟩ := lowV_mul p d h
  obtain ⟨b1, b2, b3⟩ := lowV_mul (-p.1, -p.2.1, -p.2.2) (-d) h'
  have key : ∀ {n x y a b : Int}, n * y = a * d → -n * x = b * -d → b * y = a * x := fun {n x y a b} e1 e2 => by
    refine Int.eq_of_mul_eq_mul_right h ?_
    have : b * y * d = (b * d) * y := by grind
    rw [this, show b * d = n * x by grind, show n * x * y = (n * y) * x by grind, e1]
    grind
  exact (lowV_ok h').eq (lowV_ok h) (key a1 b1) (key a2 b2) (key a3 b3)
def revE (e : Nat) : Nat := e / 4 % 2 + 2 * (e / 2 % 2) + 4 * (e % 2)
theorem revE_lt (e : Nat) : revE e < 8 := by unfold revE; omega
theorem revE_bits (e : Nat) : revE e % 2 = e / 4 % 2 ∧ revE e / 2 % 2 = e / 2 % 2 ∧ revE e / 4 % 2 = e % 2 := by
  unfold revE
  have h1 : e / 4 % 2 < 2 := Nat.mod_lt _ (by omega)
  have h2 : e / 2 % 2 < 2 := Nat.mod_lt _ (by omega)
  have h3 : e % 2 < 2 := Nat.mod_lt _ (by omega)
  generalize e / 4 % 2 = x at *
  generalize e / 2 % 2 = y at *
  generalize e % 2 = z at *
  omega
theorem sol1_rev {l : List Rd} (h : RdLe l) {a b c : Nat} (ha : a < l.length) (hb : b < l.length) (hc : c < l.length) (e : Nat) (hd : det3 (rows3 l a b c) ≠ 0) : sol1 l c b a (revE e) = sol1 l a b c e := by
  rw [sol1_eq h ha hb hc, sol1_eq h hc hb ha, ← lowV_neg _ hd]
  have e1 : endR (l.getD c rd0).2 (revE e) = endR (l.getD c rd0).2 (e / 4) := by unfold endR; rw [(revE_bits e).1]
  have e2 : endR (l.getD b rd0).2 (revE e / 2) = endR (l.getD b rd0).2 (e / 2) := by unfold endR; rw [(revE_bits e).2.1]
  have e3 : endR (l.getD a rd0).2 (revE e / 4) = endR (l.getD a rd0).2 e := by unfold endR; rw [(revE_bits e).2.2]
  have ee : ends3 l c b a (revE e) = ((ends3 l a b c e).2.2, (ends3 l a b c e).2.1, (ends3 l a b c e).1) := by unfold ends3; rw [e1, e2, e3]
  have er : rows3 l c b a = ((rows3 l a b c).2.2, (rows3 l a b c).2.1, (rows3 l a b c).1) := rfl
  rw [ee, er]
  generalize rows3 l a b c = m
  generalize ends3 l a b c e = v
  have d0 : det3 (m.2.2, m.2.1, m.1) = -det3 m := by simp only [det3, det, dot, cross]; grind
  have d1 : det3 (c0 (m.2.2, m.2.1, m.1) (v.2.2, v.2.1, v.1)) = -det3 (c0 m v) := by simp only [det3, det, dot, cross, c0]; grind
  have d2 : det3 (c1 (m.2.2, m.2.1, m.1) (v.2.2, v.2.1, v.1)) = -det3 (c1 m v) := by simp only [det3, det, dot, cross, c1]; grind
  have d3 : det3 (c2 (m.2.2, m.2.1, m.1) (v.2.2, v.2.1, v.1)) = -det3 (c2 m v) := by simp only [det3, det, dot, cross, c2]; grind
  rw [d0, d1, d2, d3]
/-- The candidates in another order. -/
def refA (l : List Rd) (i j k : Nat) : List WV := if det3 (rows3 l i j k) = 0 then [] else (List.range 8).flatMap (candE l i j k)
def refB (l : List Rd) (i j : Nat) : List WV := (List.range j).flatMap (refA l i j)
def refC (l : List Rd) (i : Nat) : List WV := (List.range i).flatMap (refB l i)
def refs (l : List Rd) : List WV := (List.range l.length).flatMap (refC l)
theorem refs_mem {l : List Rd} {v : WV} : v ∈ refs l ↔ ∃ a b c e, a < b ∧ b < c ∧ c < l.length ∧ e < 8 ∧ det3 (rows3 l c b a) ≠ 0 ∧ v = sol1 l c b a e ∧ l.all (agR · v) = true := by
  simp only [refs, refC, refB, List.mem_flatMap, List.mem_range]
  constructor
  · rintro ⟨c, hc, b, hb, a, ha, hm⟩
    unfold refA at hm
    split at hm
    · cases hm
    · rename_i hd
      simp only [List.mem_flatMap, List.mem_range] at hm
      obtain ⟨e, he, hm⟩ := hm
      unfold candE at hm
      split at hm
      · rename_i hg
        rw [List.mem_singleton] at hm
        exact ⟨a, b, c, e, ha, hb, hc, he, hd, hm, by rw [hm]; exact hg⟩
      · cases hm
  · rintro ⟨a, b, c, e, ha, hb, hc, he, hd, rfl, hg⟩
    refine ⟨c, hc, b, hb, a, ha, ?_⟩
    unfold refA
    rw [if_neg hd]
    simp only [List.mem_flatMap, List.mem_range]
    refine ⟨e, he, ?_⟩
    unfold candE
    rw [if_pos hg]
    exact .head _
theorem det3_rev (l : List Rd) (a b c : Nat) : det3 (rows3 l c b a) = -det3 (rows3 l a b c) := by simp only [rows3, det3, det, dot, cross]; grind
theorem refs_cands {l : List Rd} (h : RdLe l) (v : WV) : v ∈ refs l ↔ v ∈ cands l := by
  rw [refs_mem, cands_mem]
  constructor
  · rintro ⟨a, b, c, e, ha, hb, hc, he, hd, rfl, hg⟩
    have hw := (h.sml (a := a) (b := b) (c := c) (by omega) (by omega) hc e).w
    refine ⟨a, b, c, revE e, ha, hb, hc, revE_lt e, ?_, ?_, hg⟩
    · rw [hw]; rw [det3_rev] at hd; omega
    · exact (sol1_rev h hc (by omega) (by omega) e hd).symm
  · rintro ⟨a, b, c, e, ha, hb, hc, he, hd, rfl, hg⟩
    have hw := (h.sml (a := a) (b := b) (c := c) (by omega) (by omega) hc e).w
    rw [hw] at hd
    refine ⟨a, b, c, revE e, ha, hb, hc, revE_lt e, ?_, ?_, hg⟩
    · rw [det3_rev]; omega
    · exact (sol1_rev h (by omega) (by omega) hc e hd).symm
theorem refs_ok {l : List Rd} (h : RdLe l) : ∀ v ∈ refs l, WOK v ∧ v.2.2.2 ≤ 4374 ∧ V3.le (wpt v) 4860000 := fun v hv => cands_ok h v ((refs_cands h v).1 hv)
theorem sortW_refs {l : List Rd} (h : RdLe l) : sortW (refs l) = vtx l :=
  asc_eq (sortW_ok fun w hw => (refs_ok h w hw).1) (sortW_ok fun w hw => (cands_ok h w hw).1) (sortW_asc fun w hw => (refs_ok h w hw).1) (sortW_asc fun w hw => (cands_ok h w hw).1) fun x => by
    rw [sortW_mem, vtx, sortW_mem, refs_cands h]
theorem refs_len {l : List Rd} (h : RdLe l) : (refs l).length ≤ 4096 := by
  have hE : ∀ a b c e, (candE l a b c e).length ≤ 1 := fun a b c e => by unfold candE; split <;> simp
  have hA : ∀ c b a, (refA l c b a).length ≤ 8 := fun c b a => by
    unfold refA
    split
    · simp
    · exact flatMap_len _ 1 8 fun e _ => hE c b a e
  have hB : ∀ c b, b ≤ 8 → (refB l c b).length ≤ 64 := fun c b hb => Nat.le_trans (flatMap_len _ 8 b fun a _ => hA c b a) (by omega)
  have hC : ∀ c, c ≤ 8 → (refC l c).length ≤ 512 := fun c hc => Nat.le_trans (flatMap_len _ 64 c fun b hb => hB c b (by omega)) (by omega)
  have := flatMap_len (refC l) 512 l.length fun c hc => hC c (by have := h.len; omega)
  have := h.len
  unfold refs
  omega
theorem insW_len (v : WV) : ∀ l : List WV, (insW l v).length ≤ l.length + 1
  | [] => by simp [insW]
  | w :: r => by
    have := insW_len v r
    unfold insW
    split
    · simp only [List.length_cons]; omega
    · split <;> simp only [List.length_cons] <;> omega
theorem sortW_append (a b : List WV) : sortW (a ++ b) = b.foldl insW (sortW a) := List.foldl_append
theorem sortW_len : ∀ (l acc : List WV), (l.foldl insW acc).length ≤ acc.length + l.length
  | [], acc => by simp
  | v :: r, acc => by
    have h1 := sortW_len r (insW acc v)
    have h2 := insW_len v acc
    rw [List.foldl_cons, List.length_cons]
    omega
/-- What has been put in so far. -/
structure Got (out L : List WV) (n : Nat) : Prop where
  e : out = sortW L
  ok : ∀ v ∈ L, WFit v
  len : L.length ≤ n
theorem Got.put {out L : List WV} {n : Nat} (h : Got out L n) {v : WV} (hv : WFit v) : Got (insW out v) (L ++ [v]) (n + 1) := by
  refine ⟨by rw [sortW_append, ← h.e]; rfl, fun w hw => ?_, by rw [List.length_append, List.length_singleton]; have := h.len; omega⟩
  rcases List.mem_append.1 hw with hw | hw
  · exact h.ok w hw
  · rw [List.mem_singleton] at hw; rw [hw]; exact hv
theorem Got.size {out L : List WV} {n : Nat} (h : Got out L n) : out.length ≤ n := by
  have h0 : (L.foldl insW []).length ≤ 0 + L.length := sortW_len L []
  have e : out.length = (L.foldl insW []).length := by rw [h.e]; rfl
  have := h.len
  rw [e]
  omega
theorem Got.all {out L : List WV} {n : Nat} (h : Got out L n) : ∀ v ∈ out, WFit v := fun v hv => h.ok v (sortW_mem.1 (h.e ▸ hv))
theorem Got.to {out L M : List WV} {n m : Nat} (h : Got out L n) (hl : L = M) (hn : n ≤ m) : Got out M m := ⟨by rw [h.e, hl], hl ▸ h.ok, by rw [← hl]; exact Nat.le_trans h.len hn⟩
end Go.Pi
end

section
namespace Go.Proofs.Ytglijnhkdnhofaa
open Go Go.Pi Go.RowKit
set_option maxRecDepth 100000
set_option linter.unusedVariables false
set_option linter.unusedSimpArgs false

def f28 (l : List ((Int × Int × Int) × Int × Int)) : List (Int × Int × Int) := l.map (·.1)
def f28_pre (l : List ((Int × Int × Int) × Int × Int)) : Prop := l.length ≤ 1048576
def f28_e : Entry := { doms := [(false, (.sl (.pair (.pair (.int .i64) (.pair (.int .i64) (.int .i64))) (.pair (.int .i64) (.int .i64)))))], cods := [(false, (.sl (.pair (.int .i64) (.pair (.int .i64) (.int .i64)))))], pre := f28_pre, fn := f28, uq := false, total := false }
def f28_E : Env := []
def f28_A : Anns := { loops := [(1048576, { tms := [(0, .keep), (3, .ref 1053703), (4, .data false (.int .i64))], obs := [(1053703, .arr (.uniq) (.pair (.int .i64) (.pair (.int .i64) (.int .i64))))], fz := [] })], own := [] }
theorem f28_run (a0 : List ((Int × Int × Int) × Int × Int)) (K : (List (Int × Int × Int)) → Prop) : runF Try.prog f28_E f28_A 6 Try.f28 f28_e.doms f28_e.cods a0 K =
    (LoopP (V := Int × List (Int × Int × Int) × Unit) (fun again v => (fun (again1 : Int → List (Int × Int × Int) → Prop) (v1_0 : Int) (v1_1 : List (Int × Int × Int)) =>
    br (lenOk (a0.length))
    (br (decide (v1_0 < ((a0.length) : Int)))
    (br (decide (0 ≤ v1_0) && decide (v1_0 < ((a0.length) : Int)))
    (br (roomOk ((v1_1.length) + 1) 24)
    (again1 (IntKind.i64.wrap (v1_0 + 1)) (v1_1 ++ ([(((a0.getD v1_0.toNat ((0, (0, 0)), (0, 0))).1).1, (((a0.getD v1_0.toNat ((0, (0, 0)), (0, 0))).1).2))] : List (Int × Int × Int))))
    False)
    False)
    (K v1_1))
    True)
    (fun v1_0 v1_1 => again (v1_0, v1_1, ())) v.1 v.2.1) (0, ([] : List (Int × Int × Int)), ())) := by kernel_rfl
theorem f28_t (a0 : List ((Int × Int × Int) × Int × Int)) (hpre : f28_pre a0) (K : (List (Int × Int × Int)) → Prop) (hK : ∀ y : List (Int × Int × Int), y = f28 a0 → K y) : RunF Try.prog f28_E f28_A 6 Try.f28 f28_e.doms f28_e.cods a0 K := by
  refine ⟨?_⟩
  rw [f28_run a0 K]
  have hl : a0.length ≤ 1048576 := hpre
  refine LoopP.of (fun q : Int × List (Int × Int × Int) × Unit => ∃ i : Nat, i ≤ a0.length ∧ q = ((i : Int), (a0.take i).map (·.1), ())) (fun q => ((a0.length : Int) - q.1).toNat) (fun again q hq hag => ?_) ⟨0, by omega, rfl⟩
  obtain ⟨i, hi, rfl⟩ := hq
  dsimp only
  refine br_weak (br_if (fun hlt => ?_) fun hge => hK _ ?_)
  · have hlt' : i < a0.length := by omega
    refine br_must (inb (by omega) hlt) (br_must ?_ (hag _ ⟨i + 1, by omega, ?_⟩ ?_))
    · rw [roomOk_iff, List.length_map, List.length_take]; omega
    · rw [wr (by omega) (by omega), Int.toNat_natCast, List.take_succ_eq_append_getElem hlt', List.map_append, getD_lt hlt']; rfl
    · dsimp only
      rw [wr (by omega) (by omega)]; omega
  · have : i = a0.length := by omega
    rw [this, List.take_length, f28]
theorem f28_fn : f28_e.fn = f28 := rfl
theorem f28_ok : EntryOK Try.prog 28 f28_e := by
  refine entryF progOK (EnvOK.nil) (A := f28_A) (d := 6) Try.func28 rfl rfl rfl rfl (fun h => by cases h) fun x hpre => ?_
  exact f28_t x hpre _ fun _ h => h.trans (congrFun f28_fn.symm _)
end Go.Proofs.Ytglijnhkdnhofaa
end

section
namespace Go.Pi
set_option linter.unusedVariables false
def kpt (v : V3) (n : Int) : V3 := (if 0 < n then v.1 else 0, if 1 < n then v.2.1 else 0, if 2 < n then v.2.2 else 0)
def unit3 (k : Int) : V3 := ((([0, 0, 0] : List Int).set k.toNat 1).getD 0 0, (([0, 0, 0] : List Int).set k.toNat 1).getD 1 0, (([0, 0, 0] : List Int).set k.toNat 1).getD 2 0)
def freeB (l : List V3) (k : Int) : Bool := rkR (l.map (kpt · (k + 1))) == rkR (l.map (kpt · k))
def addU (l : List V3) (c : Int) (k : Nat) : List V3 := if (k : Int) ≠ c ∧ freeB l k = true then [unit3 k] else []
def rowsA (l : List V3) (c : Int) : List V3 := l ++ (List.range 3).flatMap (addU l c)
def fndJ (rows : List V3) (c : Int) (i j : Nat) : Option V3 := if at3 (w3 (cross (rows.getD i z3) (rows.getD j z3))) c ≠ 0 then some (w3 (cross (rows.getD i z3) (rows.getD j z3))) else none
def fndI (rows : List V3) (c : Int) (i : Nat) : Option V3 := (List.range i).findSome? (fndJ rows c i)
def fnd (rows : List V3) (c : Int) (n : Nat) : Option V3 := (List.range n).findSome? (fndI rows c)
def solM (o : Option V3) (c : Int) : V3 := match o with
  | some v => prim v c
  | none => z3
def solA (l : List V3) (c : Int) : V3 := if rkR (rowsA l c) = 0 then unit3 c else solM (fnd (rowsA l c) c (rowsA l c).length) c
theorem some_succ {α : Type} (f : Nat → Option α) (n : Nat) : (List.range (n + 1)).findSome? f = match (List.range n).findSome? f with
  | some v => some v
  | none => f n := by
  rw [List.range_succ, List.findSome?_append]
  cases (List.range n).findSome? f with
  | some v => rfl
  | none => simp
theorem some_mono {α : Type} (f : Nat → Option α) {i : Nat} {v : α} (h : (List.range i).findSome? f = none) (hv : f i = some v) : ∀ n : Nat, i < n → (List.range n).findSome? f = some v
  | 0, hn => by omega
  | n + 1, hn => by
    rw [some_succ]
    rcases Nat.lt_or_ge i n with h1 | h1
    · rw [some_mono f h hv n h1]
    · have : i = n := by omega
      subst this
      rw [h]
      exact hv
theorem unit_le (k : Int) (h0 : 0 ≤ k) (h : k < 3) : V3.le (unit3 k) 9 := by
  have : k = 0 ∨ k = 1 ∨ k = 2 := by omega
  rcases this with rfl | rfl | rfl <;> decide
theorem rowsA_le {l : List V3} (c : Int) (h : ∀ d ∈ l, V3.le d 9) : ∀ d ∈ rowsA l c, V3.le d 9 := fun d hd => by
  rcases List.mem_append.1 hd with hd | hd
  · exact h d hd
  · obtain ⟨k, hk, hd⟩ := List.mem_flatMap.1 hd
    unfold addU at hd
    split at hd
    · rw [List.mem_singleton] at hd
      rw [hd]
      have := List.mem_range.1 hk
      exact unit_le _ (by omega) (by omega)
    · cases hd
def undE (l : List V3) (k : Nat) : List V3 := if freeB l k = true then [solA l k] else []
def undR (l : List V3) : List V3 := (List.range 3).flatMap (undE l)
end Go.Pi
end

section
namespace Go.Proofs.Ytglijnhkdnhofaa
open Go Go.Pi Go.RowKit
set_option maxRecDepth 100000
set_option linter.unusedVariables false
set_option linter.unusedSimpArgs false

def f29 (x : List (Int × Int × Int) × List (Int × Int × Int)) : Bool := decide (x.1 = x.2)
def f29_e : Entry := { doms := [(false, (.sl (.pair (.int .i64) (.pair (.int .i64) (.int .i64))))), (false, (.sl (.pair (.int .i64) (.pair (.int .i64) (.int .i64)))))], cods := [(false, .bool)], pre := fun _ => True, fn := f29, uq := false, total := true }
def f29_E : Env := []
def f29_A : Anns := { loops := [(1048576, { tms := [(0, .keep), (1, .keep), (5, .data false (.int .i64))], obs := [], fz := [] })], own := [] }
theorem f29_run (a0 : List (Int × Int × Int)) (a1 : List (Int × Int × Int)) (K : Bool → Prop) : runF Try.prog f29_E f29_A 6 Try.f29 f29_e.doms f29_e.cods (a0, a1) K =
    (br (lenOk (a0.length))
    (br (lenOk (a1.length))
    (br (((a0.length) : Int) != ((a1.length) : Int))
    (K false)
    (LoopP (V := Int × Unit) (fun again v => (fun (again1 : Int → Prop) (v1_0 : Int) =>
    br (lenOk (a0.length))
    (br (decide (v1_0 < ((a0.length) : Int)))
    (br (decide (0 ≤ v1_0) && decide (v1_0 < ((a0.length) : Int)))
    (br (decide (0 ≤ v1_0) && decide (v1_0 < ((a1.length) : Int)))
    (br (!(((a0.getD v1_0.toNat (0, (0, 0))).1 == (a1.getD v1_0.toNat (0, (0, 0))).1) && ((((a0.getD v1_0.toNat (0, (0, 0))).2).1 == ((a1.getD v1_0.toNat (0, (0, 0))).2).1) && ((((a0.getD v1_0.toNat (0, (0, 0))).2).2 == ((a1.getD v1_0.toNat (0, (0, 0))).2).2) && true))))
    (K false)
    (again1 (IntKind.i64.wrap (v1_0 + 1))))
    False)
    False)
    (K true))
    True)
    (fun v1_0 => again (v1_0, ())) v.1) (0, ())))
    True)
    True) := by kernel_rfl
theorem f29_t (a0 : List (Int × Int × Int)) (a1 : List (Int × Int × Int)) (K : Bool → Prop) (hK : ∀ y : Bool, y = f29 (a0, a1) → K y) : RunF Try.prog f29_E f29_A 6 Try.f29 f29_e.doms f29_e.cods (a0, a1) K := by
  refine ⟨?_⟩
  rw [f29_run a0 a1 K]
  have eqv : ∀ a b : V3, (a.1 == b.1 && (a.2.1 == b.2.1 && (a.2.2 == b.2.2 && true))) = true ↔ a = b := fun a b => by
    simp only [Bool.and_eq_true, beq_iff_eq, and_true, Prod.ext_iff]
  rw [br_true_, lenOk_iff]
  intro hl
  refine br_weak (br_two (fun h => hK _ ?_) fun h => ?_)
  · have h := bne_t.1 h
    symm
    rw [f29, decide_eq_false_iff_not]
    intro he
    have he : a0 = a1 := he
    exact h (by rw [he])
  have hn : a0.length = a1.length := by have := bne_f.1 h; omega
  refine LoopP.of (fun q : Int × Unit => ∃ i : Nat, i ≤ a0.length ∧ q = ((i : Int), ()) ∧ ∀ k, k < i → a0.getD k (0, 0, 0) = a1.getD k (0, 0, 0)) (fun q => ((a0.length : Int) - q.1).toNat) (fun again q hq hag => ?_) ⟨0, by omega, rfl, fun k hk => by omega⟩
  obtain ⟨i, hi, rfl, hI⟩ := hq
  dsimp only
  rw [Int.toNat_natCast]
  refine br_weak (br_if (fun hlt => ?_) fun hge => hK _ ?_)
  · have hlt' : i < a0.length := by omega
    refine br_must (inb (by omega) hlt) (br_must (inb (by omega) (by omega)) (br_two (fun h => hK _ ?_) fun h => hag _ ⟨i + 1, by omega, ?_, fun k hk => ?_⟩ ?_))
    · symm
      rw [f29, decide_eq_false_iff_not]
      intro he
      have he : a0 = a1 := he
      rw [he, (eqv _ _).2 rfl] at h
      cases h
    · rw [wr (by omega) (by omega)]; rfl
    · rcases Nat.lt_or_ge k i with h2 | h2
      · exact hI k h2
      · have : k = i := by omega
        subst this
        refine (eqv _ _).1 ?_
        revert h
        cases (_ && _) <;> simp
    · dsimp only
      rw [wr (by omega) (by omega)]; omega
  · have : i = a0.length := by omega
    subst this
    symm
    rw [f29, decide_eq_true_eq]
    refine List.ext_getElem hn fun k h1 h2 => ?_
    have := hI k h1
    rwa [getD_lt h1, getD_lt h2] at this
theorem f29_fn : f29_e.fn = f29 := rfl
theorem f29_ok : EntryOK Try.prog 29 f29_e := by
  refine entryF progOK (EnvOK.nil) (A := f29_A) (d := 6) Try.func29 rfl rfl rfl rfl (fun _ _ => trivial) fun x hpre => ?_
  obtain ⟨a0, a1⟩ := x
  exact f29_t a0 a1 _ fun _ h => h.trans (congrFun f29_fn.symm _)
end Go.Proofs.Ytglijnhkdnhofaa
end

section
namespace Go.Proofs.Ytglijnhkdnhofaa
open Go Go.Pi Go.RowKit
set_option maxRecDepth 100000
set_option linter.unusedVariables false
set_option linter.unusedSimpArgs false

def f80 (x : List (Int × Int × Int) × Int) : List (Int × Int × Int) := x.1.map (kpt · x.2)
def f80_pre (x : List (Int × Int × Int) × Int) : Prop := x.1.length ≤ 1048576 ∧ x.2 ≤ 3
def f80_e : Entry := { doms := [(false, (.sl (.pair (.int .i64) (.pair (.int .i64) (.int .i64))))), (false, (.int .i64))], cods := [(false, (.sl (.pair (.int .i64) (.pair (.int .i64) (.int .i64)))))], pre := f80_pre, fn := f80, uq := false, total := false }
def f80_E : Env := []
def f80_A : Anns := { loops := [(1048576, { tms := [(0, .keep), (1, .keep), (5, .ref 1058819), (6, .data false (.int .i64))], obs := [(1058819, .arr (.uniq) (.pair (.int .i64) (.pair (.int .i64) (.int .i64))))], fz := [] })], own := [], unroll := 5 }
theorem f80_run (a0 : List (Int × Int × Int)) (a1 : Int) (K : (List (Int × Int × Int)) → Prop) : runF Try.prog f80_E f80_A 6 Try.f80 f80_e.doms f80_e.cods (a0, a1) K =
    (LoopP (V := Int × List (Int × Int × Int) × Unit) (fun again v => (fun (again1 : Int → List (Int × Int × Int) → Prop) (v1_0 : Int) (v1_1 : List (Int × Int × Int)) =>
    br (lenOk (a0.length))
    (br (decide (v1_0 < ((a0.length) : Int)))
    (br (decide (0 < a1))
    (br (decide (0 ≤ v1_0) && decide (v1_0 < ((a0.length) : Int)))
    (br (decide (1 < a1))
    (br (decide (0 ≤ v1_0) && decide (v1_0 < ((a0.length) : Int)))
    (br (decide (2 < a1))
    (br (decide (0 ≤ v1_0) && decide (v1_0 < ((a0.length) : Int)))
    (br (decide (3 < a1))
    (br (decide (0 ≤ v1_0) && decide (v1_0 < ((a0.length) : Int)))
    (False)
    False)
    (br (roomOk ((v1_1.length) + 1) 24)
    (again1 (IntKind.i64.wrap (v1_0 + 1)) (v1_1 ++ ([((a0.getD v1_0.toNat (0, (0, 0))).1, ((a0.getD v1_0.toNat (0, (0, 0))).2))] : List (Int × Int × Int))))
    False))
    False)
    (br (roomOk ((v1_1.length) + 1) 24)
    (again1 (IntKind.i64.wrap (v1_0 + 1)) (v1_1 ++ ([((a0.getD v1_0.toNat (0, (0, 0))).1, (((a0.getD v1_0.toNat (0, (0, 0))).2).1, 0))] : List (Int × Int × Int))))
    False))
    False)
    (br (roomOk ((v1_1.length) + 1) 24)
    (again1 (IntKind.i64.wrap (v1_0 + 1)) (v1_1 ++ ([((a0.getD v1_0.toNat (0, (0, 0))).1, (0, 0))] : List (Int × Int × Int))))
    False))
    False)
    (br (roomOk ((v1_1.length) + 1) 24)
    (again1 (IntKind.i64.wrap (v1_0 + 1)) (v1_1 ++ ([(0, (0, 0))] : List (Int × Int × Int))))
    False))
    (K v1_1))
    True)
    (fun v1_0 v1_1 => again (v1_0, v1_1, ())) v.1 v.2.1) (0, ([] : List (Int × Int × Int)), ())) := by kernel_rfl
theorem f80_t (a0 : List (Int × Int × Int)) (a1 : Int) (hpre : f80_pre (a0, a1)) (K : (List (Int × Int × Int)) → Prop) (hK : ∀ y : List (Int × Int × Int), y = f80 (a0, a1) → K y) : RunF Try.prog f80_E f80_A 6 Try.f80 f80_e.doms f80_e.cods (a0, a1) K := by
  refine ⟨?_⟩
  rw [f80_run a0 a1 K]
  obtain ⟨hl, hn⟩ := hpre
  dsimp only at hl hn
  refine LoopP.of (fun q : Int × List (Int × Int × Int) × Unit => ∃ i : Nat, i ≤ a0.length ∧ q = ((i : Int), (a0.take i).map (kpt · a1), ())) (fun q => ((a0.length : Int) - q.1).toNat) (fun again q hq hag => ?_) ⟨0, by omega, rfl⟩
  obtain ⟨i, hi, rfl⟩ := hq
  dsimp only
  refine br_weak (br_if (fun hlt => ?_) fun hge => hK _ ?_)
  rotate_left
  · have : i = a0.length := by omega
    rw [this, List.take_length, f80]
  have hlt' : i < a0.length := by omega
  have hb := inb (show (0 : Int) ≤ i by omega) hlt
  have hr : roomOk (((a0.take i).map (kpt · a1)).length + 1) 24 = true := by rw [roomOk_iff, List.length_map, List.length_take]; omega
  have nx : ∀ v : V3, v = kpt (a0.getD i z3) a1 → again (IntKind.i64.wrap ((i : Int) + 1), (a0.take i).map (kpt · a1) ++ [v], ()) := fun v hv => by
    refine hag _ ⟨i + 1, by omega, ?_⟩ (by dsimp only; rw [wr (by omega) (by omega)]; omega)
    rw [wr (by omega) (by omega), List.take_succ_eq_append_getElem hlt', List.map_append, hv, getD_lt hlt']; rfl
  rw [Int.toNat_natCast]
  refine br_if (fun h0 => br_must hb (br_if (fun h1 => br_must hb (br_if (fun h2 => br_must hb (br_if (fun h3 => by omega) fun h3 => br_must hr (nx _ ?_))) fun h2 => br_must hr (nx _ ?_))) fun h1 => br_must hr (nx _ ?_))) fun h0 => br_must hr (nx _ ?_)
  · unfold kpt; rw [if_pos h0, if_pos h1, if_pos h2]
  · unfold kpt; rw [if_pos h0, if_pos h1, if_neg h2]
  · unfold kpt; rw [if_pos h0, if_neg h1, if_neg (by omega)]
  · unfold kpt; rw [if_neg h0, if_neg (by omega), if_neg (by omega)]
theorem f80_fn : f80_e.fn = f80 := rfl
theorem f80_ok : EntryOK Try.prog 80 f80_e := by
  refine entryF progOK (EnvOK.nil) (A := f80_A) (d := 6) Try.func80 rfl rfl rfl rfl (fun h => by cases h) fun x hpre => ?_
  obtain ⟨a0, a1⟩ := x
  exact f80_t a0 a1 hpre _ fun _ h => h.trans (congrFun f80_fn.symm _)
end Go.Proofs.Ytglijnhkdnhofaa
end

section
namespace Go.Proofs.Ytglijnhkdnhofaa
open Go Go.Pi Go.RowKit
set_option maxRecDepth 100000
set_option linter.unusedVariables false
set_option linter.unusedSimpArgs false

def f113 (n : Int) : Int := minmax true n (IntKind.i64.wrap (0 - n))
def f113_e : Entry := { doms := [(false, (.int .i64))], cods := [(false, (.int .i64))], pre := fun _ => True, fn := f113, uq := false, total := true }
def f113_E : Env := []
def f113_A : Anns := { loops := [], own := [] }
theorem f113_run (a0 : Int) (K : Int → Prop) : runF Try.prog f113_E f113_A 6 Try.f113 f113_e.doms f113_e.cods a0 K =
    (K (minmax true a0 (IntKind.i64.wrap (0 - a0)))) := by kernel_rfl
theorem f113_t (a0 : Int) (K : Int → Prop) (hK : ∀ y : Int, y = f113 a0 → K y) : RunF Try.prog f113_E f113_A 6 Try.f113 f113_e.doms f113_e.cods a0 K := by
  refine ⟨?_⟩
  rw [f113_run a0 K]
  exact hK _ rfl
theorem f113_fn : f113_e.fn = f113 := rfl
theorem f113_ok : EntryOK Try.prog 113 f113_e := by
  refine entryF progOK (EnvOK.nil) (A := f113_A) (d := 6) Try.func113 rfl rfl rfl rfl (fun _ _ => trivial) fun x hpre => ?_
  exact f113_t x _ fun _ h => h.trans (congrFun f113_fn.symm _)
end Go.Proofs.Ytglijnhkdnhofaa
end

section
namespace Go.Proofs.Ytglijnhkdnhofaa
open Go Go.Pi Go.RowKit
set_option maxRecDepth 100000
set_option linter.unusedVariables false
set_option linter.unusedSimpArgs false

def f84 (x : Int × Int) : Int := (Nat.gcd x.1.natAbs x.2.natAbs : Int)
def f84_pre (x : Int × Int) : Prop := Fit x.1 ∧ Fit x.2
def f84_e : Entry := { doms := [(false, (.int .i64)), (false, (.int .i64))], cods := [(false, (.int .i64))], pre := f84_pre, fn := f84, uq := false, total := false }
def f84_E : Env := [(113, f113_e)]
def f84_A : Anns := { loops := [(1048576, { tms := [(0, .data false (.int .i64)), (1, .data false (.int .i64))], obs := [], fz := [] })], own := [] }
theorem f84_run (a0 : Int) (a1 : Int) (K : Int → Prop) : runF Try.prog f84_E f84_A 6 Try.f84 f84_e.doms f84_e.cods (a0, a1) K =
    (LoopP (V := Int × Int × Unit) (fun again v => (fun (again1 : Int → Int → Prop) (v1_0 : Int) (v1_1 : Int) =>
    br (v1_1 != 0)
    (br (!(decide (v1_1 = 0)))
    (again1 v1_1 (v1_0.tmod v1_1))
    False)
    (K (f113 v1_0)))
    (fun v1_0 v1_1 => again (v1_0, v1_1, ())) v.1 v.2.1) (a0, a1, ())) := by kernel_rfl
theorem f84_t (a0 : Int) (a1 : Int) (hpre : f84_pre (a0, a1)) (K : Int → Prop) (hK : ∀ y : Int, y = f84 (a0, a1) → K y) : RunF Try.prog f84_E f84_A 6 Try.f84 f84_e.doms f84_e.cods (a0, a1) K := by
  refine ⟨?_⟩
  rw [f84_run a0 a1 K]
  obtain ⟨h1, h2⟩ := hpre
  refine LoopP.of (fun q : Int × Int × Unit => Fit q.1 ∧ Fit q.2.1 ∧ Nat.gcd q.1.natAbs q.2.1.natAbs = Nat.gcd a0.natAbs a1.natAbs) (fun q => q.2.1.natAbs) (fun again q hq hag => ?_) ⟨h1, h2, rfl⟩
  obtain ⟨a, b, u⟩ := q
  obtain ⟨f1, f2, hg⟩ := hq
  dsimp only at f1 f2 hg ⊢
  refine br_two (fun hb => ?_) fun hb => ?_
  · have hb := bne_t.1 hb
    exact br_must (ne_zero_b hb) (hag (b, a.tmod b, ()) ⟨f2, tmod_fit f1 hb, (gcd_step a b hb).trans hg⟩ (tmod_lt hb))
  · have hb := bne_f.1 hb
    subst hb
    refine hK _ ?_
    simp only [f113, f84, minmax_abs f1, ← hg]
    simp
theorem f84_fn : f84_e.fn = f84 := rfl
theorem f84_ok : EntryOK Try.prog 84 f84_e := by
  refine entryF progOK (EnvOK.cons f113_ok (EnvOK.nil)) (A := f84_A) (d := 6) Try.func84 rfl rfl rfl rfl (fun h => by cases h) fun x hpre => ?_
  obtain ⟨a0, a1⟩ := x
  exact f84_t a0 a1 hpre _ fun _ h => h.trans (congrFun f84_fn.symm _)
end Go.Proofs.Ytglijnhkdnhofaa
end

section
namespace Go.Proofs.Ytglijnhkdnhofaa
open Go Go.Pi Go.RowKit
set_option maxRecDepth 100000
set_option linter.unusedVariables false
set_option linter.unusedSimpArgs false

def f112 (x : (Int × Int × Int) × Int) : Int × Int × Int := prim x.1 x.2
def f112_pre (x : (Int × Int × Int) × Int) : Prop := V3.le x.1 1000000000 ∧ x.1 ≠ z3 ∧ 0 ≤ x.2 ∧ x.2 < 3
theorem gcd_le_add' (a b : Nat) : Nat.gcd a b ≤ a + b := by
  rcases Nat.eq_zero_or_pos a with h | h
  · subst h; rw [Nat.gcd_zero_left]; omega
  · exact Nat.le_trans (Nat.gcd_le_left b h) (by omega)
def f112_e : Entry := { doms := [(true, (.pair (.int .i64) (.pair (.int .i64) (.int .i64)))), (false, (.int .i64))], cods := [(true, (.pair (.int .i64) (.pair (.int .i64) (.int .i64))))], pre := f112_pre, fn := f112, uq := false, total := false }
def f112_E : Env := [(84, f84_e)]
def f112_A : Anns := { loops := [], own := [] }
theorem f112_run (a0 : Int × Int × Int) (a1 : Int) (K : (Int × Int × Int) → Prop) : runF Try.prog f112_E f112_A 6 Try.f112 f112_e.doms f112_e.cods (a0, a1) K =
    (f84_pre a0.2 ∧
    f84_pre (a0.1, (f84 a0.2)) ∧
    br (decide (0 ≤ a1) && decide (a1 < 3))
    (br (decide ((([a0.1, a0.2.1, a0.2.2] : List Int).getD a1.toNat 0) < 0))
    (br (!(decide ((IntKind.i64.wrap (0 - (f84 (a0.1, (f84 a0.2))))) = 0)))
    (br (!(decide ((IntKind.i64.wrap (0 - (f84 (a0.1, (f84 a0.2))))) = 0)))
    (br (!(decide ((IntKind.i64.wrap (0 - (f84 (a0.1, (f84 a0.2))))) = 0)))
    (K ((IntKind.i64.wrap (a0.1.tdiv (IntKind.i64.wrap (0 - (f84 (a0.1, (f84 a0.2))))))), ((IntKind.i64.wrap (a0.2.1.tdiv (IntKind.i64.wrap (0 - (f84 (a0.1, (f84 a0.2))))))), (IntKind.i64.wrap (a0.2.2.tdiv (IntKind.i64.wrap (0 - (f84 (a0.1, (f84 a0.2))))))))))
    False)
    False)
    False)
    (br (!(decide ((f84 (a0.1, (f84 a0.2))) = 0)))
    (br (!(decide ((f84 (a0.1, (f84 a0.2))) = 0)))
    (br (!(decide ((f84 (a0.1, (f84 a0.2))) = 0)))
    (K ((IntKind.i64.wrap (a0.1.tdiv (f84 (a0.1, (f84 a0.2))))), ((IntKind.i64.wrap (a0.2.1.tdiv (f84 (a0.1, (f84 a0.2))))), (IntKind.i64.wrap (a0.2.2.tdiv (f84 (a0.1, (f84 a0.2))))))))
    False)
    False)
    False))
    False) := by kernel_rfl
theorem f112_t (a0 : Int × Int × Int) (a1 : Int) (hpre : f112_pre (a0, a1)) (K : (Int × Int × Int) → Prop) (hK : ∀ y : Int × Int × Int, y = f112 (a0, a1) → K y) : RunF Try.prog f112_E f112_A 6 Try.f112 f112_e.doms f112_e.cods (a0, a1) K := by
  refine ⟨?_⟩
  rw [f112_run a0 a1 K]
  obtain ⟨⟨h1, h2, h3⟩, hn, k0, k1⟩ := hpre
  dsimp only at h1 h2 h3 hn k0 k1
  have eg : f84 (a0.1, f84 a0.2) = (g3 a0 : Int) := by
    show ((Nat.gcd _ _ : Nat) : Int) = _
    unfold g3
    rw [gcdL_three]
    simp only [f84, Int.natAbs_natCast]
  have hp := g3_pos hn
  have hl := g3_le hn ⟨h1, h2, h3⟩
  have g1 : 0 ≤ f84 a0.2 ∧ f84 a0.2 ≤ 2000000000 := by
    have := gcd_le_add' a0.2.1.natAbs a0.2.2.natAbs
    show 0 ≤ ((Nat.gcd _ _ : Nat) : Int) ∧ ((Nat.gcd _ _ : Nat) : Int) ≤ 2000000000
    omega
  have w : ∀ (n s : Int), (-1000000000 ≤ n ∧ n ≤ 1000000000) → IntKind.i64.wrap (n.tdiv s) = n.tdiv s := fun n s h => by
    have := tdiv_size (d := s) h
    exact wr (by omega) (by omega)
  rw [eg, wr (n := 0 - (g3 a0 : Int)) (by omega) (by omega)]
  simp only [w _ _ h1, w _ _ h2, w _ _ h3]
  refine ⟨⟨fit_le h2 (by omega), fit_le h3 (by omega)⟩, ⟨fit_le h1 (by omega), fit_le (b := 2000000000) ⟨by dsimp only; omega, g1.2⟩ (by omega)⟩, br_must (by simp; omega) (br_if (fun hn => ?_) fun hn => ?_)⟩
  · have b : (!(decide ((0 - (g3 a0 : Int)) = 0))) = true := by rw [decide_eq_false (by omega)]; rfl
    refine br_must b (br_must b (br_must b (hK _ ?_)))
    have e : gS a0 a1 = 0 - (g3 a0 : Int) := by rw [gS]; exact if_pos hn
    rw [← e]; rfl
  · have b : (!(decide ((g3 a0 : Int) = 0))) = true := by rw [decide_eq_false (by omega)]; rfl
    refine br_must b (br_must b (br_must b (hK _ ?_)))
    have e : gS a0 a1 = (g3 a0 : Int) := by rw [gS]; exact if_neg hn
    rw [← e]; rfl
theorem f112_fn : f112_e.fn = f112 := rfl
theorem f112_ok : EntryOK Try.prog 112 f112_e := by
  refine entryF progOK (EnvOK.cons f84_ok (EnvOK.nil)) (A := f112_A) (d := 6) Try.func112 rfl rfl rfl rfl (fun h => by cases h) fun x hpre => ?_
  obtain ⟨a0, a1⟩ := x
  exact f112_t a0 a1 hpre _ fun _ h => h.trans (congrFun f112_fn.symm _)
end Go.Proofs.Ytglijnhkdnhofaa
end
