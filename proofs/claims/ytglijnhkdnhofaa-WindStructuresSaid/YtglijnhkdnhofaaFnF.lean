/- What functions of the program compute, each proved once, part 6. -/
import Derived.Test.YtglijnhkdnhofaaFnC

namespace Go.Pi
set_option linter.unusedVariables false
def sgn (n : Int) : Int := if n < 0 then -1 else if n > 0 then 1 else 0
def cmpQ (x : Int × Int × Int × Int) : Int := sgn (x.1 * x.2.2.2 - x.2.2.1 * x.2.1)
abbrev R2 := Int × Int
def mns (a b : R2) : R2 := (a.1 - b.2, a.2 - b.1)
def nearF (d : R2) : Int := if d.1 ≤ 0 ∧ 0 ≤ d.2 then 0 else minmax false (d.1 * d.1) (d.2 * d.2)
def farF (d : R2) : Int := minmax true (d.1 * d.1) (d.2 * d.2)
def lagD (l : List R2) (lag i : Nat) : R2 := mns (l.getD (i + lag) (0, 0)) (l.getD i (0, 0))
def sumN (f : Nat → Int) (n : Nat) : Int := ((List.range n).map f).sum
theorem sumN_succ (f : Nat → Int) (n : Nat) : sumN f (n + 1) = sumN f n + f n := by simp [sumN, List.range_succ]
theorem sumN_le {f g : Nat → Int} : ∀ {n : Nat}, (∀ i, i < n → f i ≤ g i) → sumN f n ≤ sumN g n
  | 0, _ => by simp [sumN]
  | n + 1, h => by
    rw [sumN_succ, sumN_succ]
    have := sumN_le (n := n) fun i hi => h i (by omega)
    have := h n (by omega)
    omega
theorem sumN_congr {f g : Nat → Int} {n : Nat} (h : ∀ i, i < n → f i = g i) : sumN f n = sumN g n :=
  Int.le_antisymm (sumN_le fun i hi => by rw [h i hi]; exact Int.le_refl _) (sumN_le fun i hi => by rw [h i hi]; exact Int.le_refl _)
theorem sumN_bound {f : Nat → Int} {M : Int} : ∀ {n : Nat}, (∀ i, i < n → 0 ≤ f i ∧ f i ≤ M) → 0 ≤ sumN f n ∧ sumN f n ≤ n * M
  | 0, _ => by simp [sumN]
  | n + 1, h => by
    have h1 := sumN_bound (n := n) fun i hi => h i (by omega)
    have h2 := h n (by omega)
    rw [sumN_succ, show ((n + 1 : Nat) : Int) * M = n * M + M by rw [Int.natCast_add, Int.add_mul]; simp]
    omega
/-- The error of ranges and a lag. -/
def rgsE (l : List R2) : Int := if l.length = 0 then 10 else if l.length > 30 then 8 else (eachE l.length fun i => rngE (l.getD i (0, 0)) 10000).2
def lagE (n : Nat) (lag : Int) : Int := if 1 ≤ lag ∧ lag ≤ (n : Int) - 1 then 0 else 2
def strE (l : List R2) (lag : Int) : Int := if rgsE l ≠ 0 then rgsE l else lagE l.length lag
def strV (l : List R2) (lag : Nat) : R2 × R2 := (low (sumN (fun i => nearF (lagD l lag i)) (l.length - lag)) ((l.length : Int) - lag), low (sumN (fun i => farF (lagD l lag i)) (l.length - lag)) ((l.length : Int) - lag))
def strIn (l : List R2) (lag : Int) : (R2 × R2) × Int := if strE l lag ≠ 0 then (no4, strE l lag) else (strV l lag.toNat, 0)
theorem rngE_zero {r : R2} {m : Int} (h : rngE r m = 0) : -m ≤ r.1 ∧ r.1 ≤ r.2 ∧ r.2 ≤ m := by
  unfold rngE at h
  split at h
  · simp at h
  · rename_i h4
    split at h
    · rename_i h5
      have h4 := Classical.byContradiction h4
      exact ⟨by omega, h5, by omega⟩
    · simp at h
/-- Valid ranges and a lag. -/
structure RgOK (l : List R2) (lag : Int) : Prop where
  len : l.length ≤ 30
  lag : 1 ≤ lag ∧ lag ≤ (l.length : Int) - 1
  el : ∀ r ∈ l, -10000 ≤ r.1 ∧ r.1 ≤ r.2 ∧ r.2 ≤ 10000
theorem strE_zero {l : List R2} {lag : Int} (h : strE l lag = 0) : RgOK l lag ∧ rgsE l = 0 := by
  unfold strE at h
  split at h
  · rename_i h1; exact absurd h h1
  · rename_i h1
    have h1 := Classical.byContradiction h1
    have h0 := h1
    unfold rgsE at h1
    unfold lagE at h
    split at h1
    · simp at h1
    · split at h1
      · simp at h1
      · rename_i h2 h3
        split at h
        · rename_i h4
          have hz := eachE_zero h1
          refine ⟨⟨by omega, h4, fun r hr => ?_⟩, h0⟩
          obtain ⟨i, hi, e⟩ := List.getElem_of_mem hr
          have := rngE_zero (hz i hi)
          rwa [getD_lt hi, e] at this
        · simp at h
theorem sq_le {n m : Int} (h : -m ≤ n ∧ n ≤ m) : 0 ≤ n * n ∧ n * n ≤ m * m := by
  have h1 := mul_le h h
  refine ⟨?_, h1.2⟩
  rcases Int.le_total 0 n with h2 | h2
  · exact Int.mul_nonneg h2 h2
  · exact Int.mul_nonneg_of_nonpos_of_nonpos h2 h2
theorem lagD_le {l : List R2} {lag : Nat} (h : RgOK l lag) {i : Nat} (hi : i < l.length - lag) : (-20000 ≤ (lagD l lag i).1 ∧ (lagD l lag i).1 ≤ 20000) ∧ -20000 ≤ (lagD l lag i).2 ∧ (lagD l lag i).2 ≤ 20000 := by
  have h1 := h.el _ (getD_mem (d := (0, 0)) (show i + lag < l.length by omega))
  have h2 := h.el _ (getD_mem (d := (0, 0)) (show i < l.length by omega))
  simp only [lagD, mns]
  omega
theorem nearF_b {l : List R2} {lag : Nat} (h : RgOK l lag) {i : Nat} (hi : i < l.length - lag) : 0 ≤ nearF (lagD l lag i) ∧ nearF (lagD l lag i) ≤ 400000000 := by
  have hd := lagD_le h hi
  have h1 := sq_le hd.1
  have h2 := sq_le hd.2
  unfold nearF minmax
  split
  · omega
  · simp only; split <;> omega
theorem farF_b {l : List R2} {lag : Nat} (h : RgOK l lag) {i : Nat} (hi : i < l.length - lag) : 0 ≤ farF (lagD l lag i) ∧ farF (lagD l lag i) ≤ 400000000 := by
  have hd := lagD_le h hi
  have h1 := sq_le hd.1
  have h2 := sq_le hd.2
  unfold farF minmax
  simp only; split <;> omega
theorem strS {l : List R2} {lag : Nat} (h : RgOK l lag) {n : Nat} (hn : n ≤ l.length - lag) : (0 ≤ sumN (fun i => nearF (lagD l lag i)) n ∧ sumN (fun i => nearF (lagD l lag i)) n ≤ 12000000000) ∧ 0 ≤ sumN (fun i => farF (lagD l lag i)) n ∧ sumN (fun i => farF (lagD l lag i)) n ≤ 12000000000 := by
  have h1 := sumN_bound (n := n) fun i hi => nearF_b h (show i < l.length - lag by omega)
  have h2 := sumN_bound (n := n) fun i hi => farF_b h (show i < l.length - lag by omega)
  have := h.len
  omega
end Go.Pi
