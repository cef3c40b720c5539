/- What functions of the program compute, each proved once, part 7. -/
import Derived.Test.YtdhekhichomoiaaPiC
import Derived.Test.YtdhekhichomoiaaFnA
import Derived.Test.YtdhekhichomoiaaFnF
import Derived.Test.YtdhekhichomoiaaFnB
import Derived.Test.YtdhekhichomoiaaFnD
import Derived.Test.YtdhekhichomoiaaFnE

section
namespace Go.Proofs.Ytdhekhichomoiaa
open Go Go.Pi Go.RowKit
set_option maxRecDepth 100000
set_option linter.unusedVariables false
set_option linter.unusedSimpArgs false

def f101 (x : Int × Int) : Int × Int := (x.1, IntKind.i64.wrap (0 - x.2))
def f101_e : Entry := { doms := [(true, (.pair (.int .i64) (.int .i64)))], cods := [(true, (.pair (.int .i64) (.int .i64)))], pre := fun _ => True, fn := f101, uq := false, total := true }
def f101_E : Env := [(100, f100_e), (127, f127_e)]
def f101_A : Anns := { loops := [], own := [] }
theorem f101_run (a0 : Int × Int) (K : (Int × Int) → Prop) : runF Try.prog f101_E f101_A 6 Try.f101 f101_e.doms f101_e.cods a0 K =
    (K (a0.1, (IntKind.i64.wrap (0 - a0.2)))) := by kernel_rfl
theorem f101_t (a0 : Int × Int) (K : (Int × Int) → Prop) (hK : ∀ y : Int × Int, y = f101 a0 → K y) : RunF Try.prog f101_E f101_A 6 Try.f101 f101_e.doms f101_e.cods a0 K := by
  refine ⟨?_⟩
  rw [f101_run a0 K]
  exact hK _ (by simp only [f101])
theorem f101_fn : f101_e.fn = f101 := rfl
theorem f101_ok : EntryOK Try.prog 101 f101_e := by
  refine entryF progOK (EnvOK.cons f100_ok (EnvOK.cons f127_ok (EnvOK.nil))) (A := f101_A) (d := 6) Try.func101 rfl rfl (fun _ _ => trivial) fun x hpre => ?_
  exact f101_t x _ fun _ h => h.trans (congrFun f101_fn.symm _)
theorem mul_conj (a b : Int × Int) : f100 (f101 a, b) = f127 (a, b) := by
  simp only [f100, f101, f127, wrap_sub_l, wrap_sub_r, wrap_mul_l, wrap_mul_r, wrap_add_l, wrap_add_r]
  congr 2 <;> grind
end Go.Proofs.Ytdhekhichomoiaa
end

section
namespace Go.Proofs.Ytdhekhichomoiaa
open Go Go.Pi Go.RowKit
set_option maxRecDepth 100000
set_option linter.unusedVariables false
set_option linter.unusedSimpArgs false

def f31 (x : List (Int × Int) × Int) : Int × Int := f99 x
def f31_pre (x : List (Int × Int) × Int) : Prop := 0 ≤ x.2 ∧ x.2 ≤ 1048576 ∧ x.1.length ≤ 1048576
def f31_e : Entry := { doms := [(false, (.sl (.pair (.int .i64) (.int .i64)))), (false, (.int .i64))], cods := [(true, (.pair (.int .i64) (.int .i64)))], pre := f31_pre, fn := f31, uq := false, total := false }
def f31_E : Env := [(80, f80_e), (100, f100_e), (101, f101_e), (99, f99_e)]
def f31_A : Anns := { loops := [(1048576, { tms := [(0, .keep), (1, .keep), (4, .keep), (5, .keep), (6, .data false (.int .i64))], obs := [(1048576, .keep), (1049601, .cells [.data (.int .i64), .data (.int .i64)])], fz := [] })], own := [] }
theorem f31_run (a0 : List (Int × Int)) (a1 : Int) (K : (Int × Int) → Prop) : runF Try.prog f31_E f31_A 6 Try.f31 f31_e.doms f31_e.cods (a0, a1) K =
    (LoopP (V := Int × Int × Int × Unit) (fun again v => (fun (again1 : Int → Int → Int → Prop) (v1_0 : Int) (v1_1 : Int) (v1_2 : Int) =>
    br (lenOk (a0.length))
    (br (decide ((IntKind.i64.wrap (v1_0 + a1)) < ((a0.length) : Int)))
    (br (decide (0 ≤ v1_0) && decide (v1_0 < ((a0.length) : Int)))
    (br (decide (0 ≤ (IntKind.i64.wrap (v1_0 + a1))) && decide ((IntKind.i64.wrap (v1_0 + a1)) < ((a0.length) : Int)))
    (again1 (IntKind.i64.wrap (v1_0 + 1)) ((f80 ((v1_1, v1_2), (f100 ((f101 (a0.getD v1_0.toNat (0, 0))), (a0.getD ((IntKind.i64.wrap (v1_0 + a1)).toNat) (0, 0)))))).1) ((f80 ((v1_1, v1_2), (f100 ((f101 (a0.getD v1_0.toNat (0, 0))), (a0.getD ((IntKind.i64.wrap (v1_0 + a1)).toNat) (0, 0)))))).2))
    False)
    False)
    (K (v1_1, v1_2)))
    True)
    (fun v1_0 v1_1 v1_2 => again (v1_0, v1_1, v1_2, ())) v.1 v.2.1 v.2.2.1) (0, 0, 0, ())) := by kernel_rfl
theorem f31_t (a0 : List (Int × Int)) (a1 : Int) (hpre : f31_pre (a0, a1)) (K : (Int × Int) → Prop) (hK : ∀ y : Int × Int, y = f31 (a0, a1) → K y) : RunF Try.prog f31_E f31_A 6 Try.f31 f31_e.doms f31_e.cods (a0, a1) K := by
  refine ⟨?_⟩
  rw [f31_run a0 a1 K]
  obtain ⟨h0, h1, h2⟩ := hpre
  simp only at h0 h1 h2
  refine LoopP.up (a0.length - a1.toNat : Nat) (fun i v => (v.1, v.2.1) = sumN (corAt a0 a1) i.toNat) (fun again i v hi0 hn hI hag => ?_) (by omega) (by simp [sumN])
  obtain ⟨v1, v2, u⟩ := v
  simp only at hI hag ⊢
  rw [br_true_, lenOk_iff]
  intro hl
  rw [wr (n := i + a1) (by omega) (by omega), br_both]
  refine ⟨fun hi => ?_, fun hi => hK _ ?_⟩
  · simp only [decide_eq_true_eq] at hi
    rw [wr (n := i + 1) (by omega) (by omega)]
    simp only [br_false_, Bool.and_eq_true, decide_eq_true_eq]
    refine ⟨⟨by omega, by omega⟩, ⟨by omega, hi⟩, hag _ (by omega) ?_⟩
    show (_, _) = _
    rw [hI, mul_conj, show (i + 1).toNat = i.toNat + 1 by omega]
    have e : corAt a0 a1 i.toNat = f127 (a0.getD i.toNat (0, 0), a0.getD (i + a1).toNat (0, 0)) := by
      unfold corAt
      rw [show i.toNat + a1.toNat = (i + a1).toNat by omega]
    show f80 _ = f126 (sumN (corAt a0 a1) i.toNat, corAt a0 a1 i.toNat)
    rw [e]
    rfl
  · simp only [decide_eq_false_iff_not] at hi
    rw [hI]
    unfold f31 f99
    simp only
    congr 1
    omega
theorem f31_fn : f31_e.fn = f31 := rfl
theorem f31_ok : EntryOK Try.prog 31 f31_e := by
  refine entryF progOK (EnvOK.cons f80_ok (EnvOK.cons f100_ok (EnvOK.cons f101_ok (EnvOK.cons f99_ok (EnvOK.nil))))) (A := f31_A) (d := 6) Try.func31 rfl rfl (fun h => by cases h) fun x hpre => ?_
  obtain ⟨a0, a1⟩ := x
  exact f31_t a0 a1 hpre _ fun _ h => h.trans (congrFun f31_fn.symm _)
end Go.Proofs.Ytdhekhichomoiaa
end

section
namespace Go.Proofs.Ytdhekhichomoiaa
open Go Go.Pi Go.RowKit
set_option maxRecDepth 100000
set_option linter.unusedVariables false
set_option linter.unusedSimpArgs false

def f130 (x : (Int × Int) × (Int × Int)) : Int × Int := (IntKind.i64.wrap (x.1.1 - x.2.1), IntKind.i64.wrap (x.1.2 - x.2.2))
def f130_e : Entry := { doms := [(true, (.pair (.int .i64) (.int .i64))), (true, (.pair (.int .i64) (.int .i64)))], cods := [(true, (.pair (.int .i64) (.int .i64)))], pre := fun _ => True, fn := f130, uq := false, total := true }
def f130_E : Env := []
def f130_A : Anns := { loops := [], own := [] }
theorem f130_run (a0 : Int × Int) (a1 : Int × Int) (K : (Int × Int) → Prop) : runF Try.prog f130_E f130_A 6 Try.f130 f130_e.doms f130_e.cods (a0, a1) K =
    (K ((IntKind.i64.wrap (a0.1 - a1.1)), (IntKind.i64.wrap (a0.2 - a1.2)))) := by kernel_rfl
theorem f130_t (a0 : Int × Int) (a1 : Int × Int) (K : (Int × Int) → Prop) (hK : ∀ y : Int × Int, y = f130 (a0, a1) → K y) : RunF Try.prog f130_E f130_A 6 Try.f130 f130_e.doms f130_e.cods (a0, a1) K := by
  refine ⟨?_⟩
  rw [f130_run a0 a1 K]
  exact hK _ rfl
theorem f130_fn : f130_e.fn = f130 := rfl
theorem f130_ok : EntryOK Try.prog 130 f130_e := by
  refine entryF progOK (EnvOK.nil) (A := f130_A) (d := 6) Try.func130 rfl rfl (fun _ _ => trivial) fun x hpre => ?_
  obtain ⟨a0, a1⟩ := x
  exact f130_t a0 a1 _ fun _ h => h.trans (congrFun f130_fn.symm _)
end Go.Proofs.Ytdhekhichomoiaa
end

section
namespace Go.Proofs.Ytdhekhichomoiaa
open Go Go.Pi Go.RowKit
set_option maxRecDepth 100000
set_option linter.unusedVariables false
set_option linter.unusedSimpArgs false

theorem app_getD {α : Type} {l r : List α} {i : Nat} {d : α} (h : i < l.length) : (l ++ r).getD i d = l.getD i d := by
  simp [List.getD_eq_getElem?_getD, List.getElem?_append_left h]
theorem lagN_sum {all : List (Int × Int)} {z : Int × Int} {n T m : Nat} (hm : m = max n T) (hz : inR z) : ∀ k, lagN all z n m k = f126 (f130 (sumN (corAt all (n : Int)) ((T - n) + k), sumN (corAt all (n : Int)) (T - n)), z)
  | 0 => by
    obtain ⟨⟨a1, a2⟩, a3, a4⟩ := hz
    simp only [lagN, Nat.add_zero, f130, f126, Int.sub_self, wrap_zero, Int.zero_add]
    rw [wr a1 a2, wr a3 a4]
  | k + 1 => by
    rw [lagN, lagN_sum hm hz k, ← Nat.add_assoc, sumN]
    have e : corAt all (n : Int) (T - n + k) = f127 (all.getD (m + k - n) (0, 0), all.getD (m + k) (0, 0)) := by
      unfold corAt
      rw [show T - n + k = m + k - n by omega, show m + k - n + (n : Int).toNat = m + k by omega]
    rw [e]
    generalize f127 (all.getD (m + k - n) (0, 0), all.getD (m + k) (0, 0)) = G
    generalize sumN (corAt all (n : Int)) (T - n + k) = S
    generalize sumN (corAt all (n : Int)) (T - n) = A
    simp only [f126, f130, wrap_sub_l, wrap_add_l]
    refine Prod.ext ?_ ?_
    · show IntKind.i64.wrap _ = IntKind.i64.wrap _
      congr 1
      omega
    · show IntKind.i64.wrap _ = IntKind.i64.wrap _
      congr 1
      omega
theorem lag_same {s : List (Int × Int) × List (Int × Int) × Int} {p : List (Int × Int)} {n : Nat} (hz : inR (s.1.getD n (0, 0))) :
    f126 (f130 (f99 (s.2.1 ++ p, (n : Int)), f99 (s.2.1, (n : Int))), s.1.getD n (0, 0)) = newLag s p n := by
  have hn : (n : Int).toNat = n := by omega
  rw [newLag, lagN_sum rfl hz]
  unfold f99
  simp only [hn]
  rw [show s.2.1.length - n + ((s.2.1 ++ p).length - max n s.2.1.length) = (s.2.1 ++ p).length - n by rw [List.length_append]; omega]
  have e : sumN (corAt s.2.1 (n : Int)) (s.2.1.length - n) = sumN (corAt (s.2.1 ++ p) (n : Int)) (s.2.1.length - n) := sumN_congr fun k hk => by
    unfold corAt
    rw [app_getD (by omega), app_getD (by omega)]
  rw [e]
def f77 (x : (List (Int × Int) × List (Int × Int) × Int) × List (Int × Int)) : (List (Int × Int) × List (Int × Int) × Int) × Bool :=
  if addBad x.1 x.2 = true then (([], [], 0), false) else (addTo x.1 x.2, true)
def f77_pre (x : (List (Int × Int) × List (Int × Int) × Int) × List (Int × Int)) : Prop := SumOK x.1 ∧ x.2.length ≤ 1000
def f77_e : Entry := { doms := [(true, (.pair (.sl (.pair (.int .i64) (.int .i64))) (.pair (.sl (.pair (.int .i64) (.int .i64))) (.int .i64)))), (false, (.sl (.pair (.int .i64) (.int .i64))))], cods := [(true, (.pair (.sl (.pair (.int .i64) (.int .i64))) (.pair (.sl (.pair (.int .i64) (.int .i64))) (.int .i64)))), (false, .bool)], pre := f77_pre, fn := f77, uq := false, total := false }
def f77_E : Env := [(26, f26_e), (31, f31_e), (80, f80_e), (111, f111_e), (130, f130_e), (72, f72_e), (74, f74_e), (99, f99_e), (126, f126_e), (127, f127_e), (117, f117_e)]
def f77_A : Anns := { loops := [(1048576, { tms := [(2, .keep), (4, .keep), (6, .keep), (7, .keep), (8, .data false (.int .i64))], obs := [(1048576, .keep), (1048577, .keep), (1049602, .keep), (1050630, .cells [.ref 1058820, .data (.sl (.int .i64)), .data (.int .i64)]), (1058820, .arr (.uniq) (.pair (.int .i64) (.int .i64)))], fz := [1049602] })], own := [1049602] }
theorem f77_run (a0 : List (Int × Int) × List (Int × Int) × Int) (a1 : List (Int × Int)) (K : ((List (Int × Int) × List (Int × Int) × Int) × Bool) → Prop) : runF Try.prog f77_E f77_A 6 Try.f77 f77_e.doms f77_e.cods (a0, a1) K =
    (f26_pre a0.2.1 ∧
    br (roomOk (((f26 a0.2.1).length) + (a1.length)) 16)
    (br (lenOk (a1.length))
    (LoopP (V := Int × List Int × Int × List (Int × Int) × Unit) (fun again v => (fun (again1 : Int → List Int → Int → List (Int × Int) → Prop) (v1_0 : Int) (v1_1 : List Int) (v1_2 : Int) (v1_3 : List (Int × Int)) =>
    br (lenOk (a0.1.length))
    (br (decide (v1_0 < ((a0.1.length) : Int)))
    (f31_pre (((f26 a0.2.1) ++ a1), v1_0) ∧
    f31_pre (a0.2.1, v1_0) ∧
    br (decide (0 ≤ v1_0) && decide (v1_0 < ((a0.1.length) : Int)))
    (br (!(f111 ((f80 ((f130 ((f31 (((f26 a0.2.1) ++ a1), v1_0)), (f31 (a0.2.1, v1_0)))), (a0.1.getD v1_0.toNat (0, 0)))), 1000000000000)))
    (K ((([] : List (Int × Int)), (([] : List (Int × Int)), 0)), false))
    (br (roomOk ((v1_3.length) + 1) 16)
    (again1 (IntKind.i64.wrap (v1_0 + 1)) v1_1 v1_2 (v1_3 ++ ([(f80 ((f130 ((f31 (((f26 a0.2.1) ++ a1), v1_0)), (f31 (a0.2.1, v1_0)))), (a0.1.getD v1_0.toNat (0, 0))))] : List (Int × Int))))
    False))
    False)
    (br (decide (v1_2 > 1000000000000))
    (K ((([] : List (Int × Int)), (([] : List (Int × Int)), 0)), false))
    (br (lenOk (((f26 a0.2.1) ++ a1).length))
    (br (lenOk (a0.1.length))
    (br (lenOk (((f26 a0.2.1) ++ a1).length))
    (br (decide ((0 : Int) ≤ (IntKind.i64.wrap (((((f26 a0.2.1) ++ a1).length) : Int) - (minmax false ((((f26 a0.2.1) ++ a1).length) : Int) (IntKind.i64.wrap (((a0.1.length) : Int) - 1))))) ∧ (IntKind.i64.wrap (((((f26 a0.2.1) ++ a1).length) : Int) - (minmax false ((((f26 a0.2.1) ++ a1).length) : Int) (IntKind.i64.wrap (((a0.1.length) : Int) - 1))))) ≤ ((((f26 a0.2.1) ++ a1).length) : Int) ∧ ((((f26 a0.2.1) ++ a1).length) : Int) ≤ ((((f26 a0.2.1) ++ a1).length) : Int)))
    (f26_pre ((((f26 a0.2.1) ++ a1).take (((((f26 a0.2.1) ++ a1).length) : Int).toNat)).drop ((IntKind.i64.wrap (((((f26 a0.2.1) ++ a1).length) : Int) - (minmax false ((((f26 a0.2.1) ++ a1).length) : Int) (IntKind.i64.wrap (((a0.1.length) : Int) - 1))))).toNat)) ∧
    K ((v1_3, ((f26 ((((f26 a0.2.1) ++ a1).take (((((f26 a0.2.1) ++ a1).length) : Int).toNat)).drop ((IntKind.i64.wrap (((((f26 a0.2.1) ++ a1).length) : Int) - (minmax false ((((f26 a0.2.1) ++ a1).length) : Int) (IntKind.i64.wrap (((a0.1.length) : Int) - 1))))).toNat))), v1_2)), true))
    False)
    True)
    True)
    True)))
    True)
    (fun v1_0 v1_1 v1_2 v1_3 => again (v1_0, v1_1, v1_2, v1_3, ())) v.1 v.2.1 v.2.2.1 v.2.2.2.1) (0, ([] : List Int), (IntKind.i64.wrap (a0.2.2 + ((a1.length) : Int))), ([] : List (Int × Int)), ()))
    True)
    False) := by kernel_rfl
theorem f77_t (a0 : List (Int × Int) × List (Int × Int) × Int) (a1 : List (Int × Int)) (hpre : f77_pre (a0, a1)) (K : ((List (Int × Int) × List (Int × Int) × Int) × Bool) → Prop) (hK : ∀ y : (List (Int × Int) × List (Int × Int) × Int) × Bool, y = f77 (a0, a1) → K y) : RunF Try.prog f77_E f77_A 6 Try.f77 f77_e.doms f77_e.cods (a0, a1) K := by
  refine ⟨?_⟩
  rw [f77_run a0 a1 K]
  obtain ⟨hs, hp⟩ := hpre
  simp only at hs hp
  have hlags := hs.lags
  have hcount := hs.count
  have htl := tail_len hs
  have i26 : ∀ l, f26 l = l := fun l => rfl
  have hall : (a0.2.1 ++ a1).length = a0.2.1.length + a1.length := List.length_append
  have hR : ∀ n, inR (a0.1.getD n (0, 0)) := fun n => by
    by_cases hj : n < a0.1.length
    · rw [getD_lt hj]
      have := hs.each _ (List.getElem_mem hj)
      simp only [inR]
      omega
    · rw [show a0.1.getD n (0, 0) = (0, 0) by simp [List.getD_eq_getElem?_getD, List.getElem?_eq_none (Nat.le_of_not_lt hj)]]
      simp [inR]
  refine ⟨by show a0.2.1.length ≤ _; omega, ?_⟩
  simp only [i26]
  obtain ⟨all, hA⟩ : ∃ all, all = a0.2.1 ++ a1 := ⟨_, rfl⟩
  have hsum : ∀ i : Int, 0 ≤ i → f80 (f130 (f31 (all, i), f31 (a0.2.1, i)), a0.1.getD i.toNat (0, 0)) = newLag a0 a1 i.toNat := fun i hi => by
    have := lag_same (s := a0) (p := a1) (n := i.toNat) (hR _)
    rw [show ((i.toNat : Nat) : Int) = i by omega, ← hA] at this
    exact this
  rw [← hA] at hall ⊢
  rw [br_false_, roomOk_iff]
  refine ⟨by omega, ?_⟩
  rw [br_true_]
  intro _
  rw [wr (n := a0.2.2 + (a1.length : Int)) (by omega) (by omega)]
  have hnl : newLags a0 a1 = (List.range a0.1.length).map (newLag a0 a1) := rfl
  refine LoopP.up a0.1.length (fun i v => v.1 = [] ∧ v.2.1 = a0.2.2 + (a1.length : Int) ∧ v.2.2.1 = (List.range i.toNat).map (newLag a0 a1) ∧ ∀ j, j < i.toNat → okS (newLag a0 a1 j) = true) (fun again i v hi0 hn hI hag => ?_) (by omega) ⟨rfl, rfl, rfl, fun j hj => by omega⟩
  obtain ⟨w, c, v, u⟩ := v
  simp only at hI hag ⊢
  obtain ⟨hI1, hI2, hI3, hI4⟩ := hI
  subst hI1 hI2 hI3
  rw [br_true_]
  intro _
  rw [br_dec]
  refine ⟨fun hi => ?_, fun hi => ?_⟩
  · refine ⟨⟨hi0, by omega, by show all.length ≤ _; omega⟩, ⟨hi0, by omega, by show a0.2.1.length ≤ _; omega⟩, ?_⟩
    rw [hsum i hi0, br_false_, wr (n := i + 1) (by omega) (by omega)]
    refine ⟨by simp only [Bool.and_eq_true, decide_eq_true_eq]; omega, ?_⟩
    rw [show f111 (newLag a0 a1 i.toNat, 1000000000000) = okS (newLag a0 a1 i.toNat) from rfl, br_both]
    refine ⟨fun hne => hK _ ?_, fun he => ?_⟩
    · simp only [f77]
      rw [if_pos]
      rw [addBad, Bool.or_eq_true, Bool.not_eq_true']
      refine .inr ?_
      rw [Bool.eq_false_iff]
      intro hall2
      have := List.all_eq_true.1 hall2 (newLag a0 a1 i.toNat) (by rw [hnl]; exact List.mem_map.2 ⟨i.toNat, List.mem_range.2 (by omega), rfl⟩)
      rw [this] at hne
      simp at hne
    · rw [br_false_, roomOk_iff]
      refine ⟨by simp; omega, hag _ hi ⟨rfl, rfl, ?_, fun j hj => ?_⟩⟩
      · exact app_step (g := newLag a0 a1) hi0
      · by_cases e : j = i.toNat
        · subst e
          simpa using he
        · exact hI4 j (by omega)
  · have hie : i.toNat = a0.1.length := by omega
    rw [hie, ← hnl]
    rw [hie] at hI4
    have h1 : (newLags a0 a1).all okS = true := by
      rw [List.all_eq_true]
      intro z hz
      rw [hnl] at hz
      obtain ⟨j, hj, rfl⟩ := List.mem_map.1 hz
      exact hI4 j (List.mem_range.1 hj)
    rw [br_dec]
    refine ⟨fun hc => hK _ ?_, fun hc => ?_⟩
    · simp only [f77]
      rw [if_pos (by simp [addBad, hc])]
    rw [br_true_]
    intro _
    rw [br_true_]
    intro _
    rw [br_true_]
    intro _
    have hmn : IntKind.i64.wrap ((all.length : Int) - minmax false (all.length : Int) (IntKind.i64.wrap ((a0.1.length : Int) - 1))) = ((all.length + 1 - a0.1.length : Nat) : Int) := by
      rw [wr (n := (a0.1.length : Int) - 1) (by omega) (by omega)]
      simp only [minmax]
      split
      · rw [wr (by omega) (by omega)]; omega
      · rw [wr (by omega) (by omega)]; omega
    rw [hmn, br_false_]
    have e1 : (all.length : Int).toNat = all.length := by omega
    have e2 : ((all.length + 1 - a0.1.length : Nat) : Int).toNat = all.length + 1 - a0.1.length := by omega
    rw [e1, e2, List.take_length]
    refine ⟨decide_eq_true ⟨by omega, by omega, by omega⟩, ?_, hK _ ?_⟩
    · show (all.drop _).length ≤ _
      rw [List.length_drop]
      omega
    · have h2 : decide (a0.2.2 + (a1.length : Int) > 1000000000000) = false := by simpa using hc
      have h3 : addBad a0 a1 = false := by rw [addBad, h1, h2]; rfl
      simp only [f77]
      rw [h3, if_neg (by decide), hA]
      rfl
theorem f77_fn : f77_e.fn = f77 := rfl
theorem f77_ok : EntryOK Try.prog 77 f77_e := by
  refine entryF progOK (EnvOK.cons f26_ok (EnvOK.cons f31_ok (EnvOK.cons f80_ok (EnvOK.cons f111_ok (EnvOK.cons f130_ok (EnvOK.cons f72_ok (EnvOK.cons f74_ok (EnvOK.cons f99_ok (EnvOK.cons f126_ok (EnvOK.cons f127_ok (EnvOK.cons f117_ok (EnvOK.nil)))))))))))) (A := f77_A) (d := 6) Try.func77 rfl rfl (fun h => by cases h) fun x hpre => ?_
  obtain ⟨a0, a1⟩ := x
  exact f77_t a0 a1 hpre _ fun _ h => h.trans (congrFun f77_fn.symm _)
end Go.Proofs.Ytdhekhichomoiaa
end
