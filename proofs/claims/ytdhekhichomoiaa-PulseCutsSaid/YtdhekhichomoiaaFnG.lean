/- What functions of the program compute, each proved once, part 7. -/
import Derived.Test.YtdhekhichomoiaaFnE
import Derived.Test.YtdhekhichomoiaaFnD
import Derived.Test.YtdhekhichomoiaaFnF
import Derived.Test.YtdhekhichomoiaaPiC
import Derived.Test.YtdhekhichomoiaaFnA
import Derived.Test.YtdhekhichomoiaaFnB

section
namespace Go.Proofs.Ytdhekhichomoiaa
open Go Go.Pi
set_option linter.unusedVariables false
set_option linter.unusedSimpArgs false

def padd (x y : Int × Int) : Int × Int := (x.1 + y.1, x.2 + y.2)
def rotE : Nat → Int × Int → Int × Int
  | 0, z => z
  | k + 1, z => ((rotE k z).2, -(rotE k z).1)
def cj (x y : Int × Int) : Int × Int := (x.1 * y.1 + x.2 * y.2, x.1 * y.2 - x.2 * y.1)
def nm (z : Int × Int) : Int := z.1 * z.1 + z.2 * z.2
def sumE (g : Nat → Int × Int) : Nat → Int × Int
  | 0 => (0, 0)
  | n + 1 => padd (sumE g n) (g n)
def sumI (f : Nat → Int) : Nat → Int
  | 0 => 0
  | n + 1 => sumI f n + f n

theorem sumI_congr {f g : Nat → Int} : ∀ {n}, (∀ j, j < n → f j = g j) → sumI f n = sumI g n
  | 0, _ => rfl
  | n + 1, h => by simp only [sumI]; rw [sumI_congr fun j hj => h j (by omega), h n (by omega)]
theorem sumI_shift (f : Nat → Int) : ∀ n, sumI f (n + 1) = f 0 + sumI (fun j => f (j + 1)) n
  | 0 => by simp [sumI]
  | n + 1 => by
    have h := sumI_shift f n
    simp only [sumI] at h ⊢
    omega
theorem sumI_rev (f : Nat → Int) : ∀ n, sumI (fun i => f (n - 1 - i)) n = sumI f n
  | 0 => rfl
  | n + 1 => by
    rw [sumI_shift]
    show f n + sumI (fun j => f (n - (j + 1))) n = sumI f n + f n
    rw [sumI_congr (g := fun i => f (n - 1 - i)) fun j hj => by congr 1; omega, sumI_rev f n]
    omega
theorem sumE_congr {f g : Nat → Int × Int} : ∀ {n}, (∀ j, j < n → f j = g j) → sumE f n = sumE g n
  | 0, _ => rfl
  | n + 1, h => by simp only [sumE]; rw [sumE_congr fun j hj => h j (by omega), h n (by omega)]

theorem rotE_add (m n : Nat) (z : Int × Int) : rotE (m + n) z = rotE m (rotE n z) := by
  induction m with
  | zero => rw [Nat.zero_add]; rfl
  | succ m ih => rw [Nat.add_right_comm]; simp only [rotE, ih]
theorem rotE_four (z : Int × Int) : rotE 4 z = z := by
  obtain ⟨a, b⟩ := z
  simp [rotE]
theorem rotE_4k (z : Int × Int) : ∀ k, rotE (4 * k) z = z
  | 0 => rfl
  | k + 1 => by rw [Nat.mul_add, Nat.mul_one, rotE_add, rotE_four, rotE_4k z k]
theorem rotE_padd (k : Nat) (x y : Int × Int) : rotE k (padd x y) = padd (rotE k x) (rotE k y) := by
  induction k with
  | zero => rfl
  | succ k ih =>
    show ((rotE k (padd x y)).2, -(rotE k (padd x y)).1) = _
    rw [ih]
    simp only [padd, rotE]
    refine Prod.ext rfl ?_
    simp only
    omega
theorem cj_rot (k : Nat) (x y : Int × Int) : cj (rotE k x) (rotE k y) = cj x y := by
  induction k with
  | zero => rfl
  | succ k ih =>
    rw [← ih]
    simp only [rotE, cj]
    refine Prod.ext ?_ ?_ <;> grind
theorem cj_right (k : Nat) (x y : Int × Int) : cj x (rotE k y) = rotE k (cj x y) := by
  induction k with
  | zero => rfl
  | succ k ih =>
    simp only [rotE, ← ih]
    simp only [cj]
    refine Prod.ext ?_ ?_ <;> grind
theorem nm_cj (z : Int × Int) : nm z = (cj z z).1 := rfl
theorem nm_rot (k : Nat) (z : Int × Int) : nm (rotE k z) = nm z := by rw [nm_cj, cj_rot]; rfl
theorem nm_padd (a b : Int × Int) : nm (padd a b) = nm a + nm b + 2 * (cj a b).1 := by
  simp only [nm, padd, cj]
  grind
theorem cj_sum (g : Nat → Int × Int) (y : Int × Int) : ∀ n, (cj (sumE g n) y).1 = sumI (fun j => (cj (g j) y).1) n
  | 0 => by simp [sumE, sumI, cj]
  | n + 1 => by
    simp only [sumI]
    rw [← cj_sum g y n]
    simp only [sumE, cj, padd]
    grind

section
variable (x : Nat → Int × Int) (k : Nat)
def lineE (n : Nat) : Int × Int := sumE (fun j => rotE (j * k) (x j)) n
def corE (n m : Nat) : Int × Int := sumE (fun i => cj (x i) (x (i + m))) (n - m)
def byE' (n : Nat) : Nat → Int
  | 0 => (corE x n 0).1
  | K + 1 => byE' n K + 2 * (rotE ((K + 1) * k) (corE x n (K + 1))).1
def newT (n : Nat) : Nat → Int
  | 0 => 0
  | K + 1 => newT n K + if K + 1 ≤ n then (rotE ((K + 1) * k) (cj (x (n - (K + 1))) (x n))).1 else 0
theorem corE_succ (n m : Nat) : corE x (n + 1) m = if m ≤ n then padd (corE x n m) (cj (x (n - m)) (x n)) else corE x n m := by
  unfold corE
  split
  · rw [show n + 1 - m = (n - m) + 1 by omega]
    simp only [sumE]
    rw [show n - m + m = n by omega]
  · rw [show n + 1 - m = 0 by omega, show n - m = 0 by omega]
theorem byE_succ (n : Nat) : ∀ K, byE' x k (n + 1) K = byE' x k n K + nm (x n) + 2 * newT x k n K
  | 0 => by
    simp only [byE', newT]
    rw [corE_succ, if_pos (by omega), Nat.sub_zero]
    simp only [padd, cj, nm]
    omega
  | K + 1 => by
    simp only [byE', newT]
    rw [byE_succ n K, corE_succ]
    split
    · rw [rotE_padd]
      simp only [padd]
      omega
    · omega
theorem newT_le (n : Nat) : ∀ d, newT x k n (n + d) = newT x k n n
  | 0 => rfl
  | d + 1 => by
    show newT x k n (n + d + 1) = _
    simp only [newT]
    rw [newT_le n d, if_neg (by omega)]
    omega
theorem newT_sum (n : Nat) : ∀ m, m ≤ n → newT x k n m = sumI (fun i => (rotE ((n - (n - 1 - i)) * k) (cj (x (n - 1 - i)) (x n))).1) m
  | 0, _ => rfl
  | m + 1, h => by
    simp only [newT, sumI]
    rw [newT_sum n m (by omega), if_pos h, show n - (n - 1 - m) = m + 1 by omega, show n - (m + 1) = n - 1 - m by omega]
theorem line_cj (n : Nat) : (cj (lineE x k n) (rotE (n * k) (x n))).1 = newT x k n n := by
  unfold lineE
  rw [cj_sum, newT_sum x k n n (Nat.le_refl _), sumI_rev (fun j => (rotE ((n - j) * k) (cj (x j) (x n))).1) n]
  refine sumI_congr fun j hj => ?_
  rw [show n * k = j * k + (n - j) * k by rw [← Nat.add_mul]; congr 1; omega, rotE_add, cj_rot, cj_right]
theorem power_by : ∀ n K, n ≤ K + 1 → nm (lineE x k n) = byE' x k n K
  | 0, K, _ => by
    have h0 : ∀ m, corE x 0 m = (0, 0) := fun m => by unfold corE; rw [Nat.zero_sub]; rfl
    have hz : ∀ m, rotE m (0, 0) = (0, 0) := fun m => by
      induction m with
      | zero => rfl
      | succ m ih => simp only [rotE, ih]; rfl
    have : ∀ K, byE' x k 0 K = 0 := fun K => by
      induction K with
      | zero => simp [byE', h0]
      | succ K ih => simp [byE', ih, h0, hz]
    rw [this]
    rfl
  | n + 1, K, h => by
    have ih := power_by n K (by omega)
    rw [byE_succ, ← ih]
    show nm (padd (lineE x k n) (rotE (n * k) (x n))) = _
    rw [nm_padd, nm_rot, line_cj]
    obtain ⟨d, rfl⟩ : ∃ d, K = n + d := ⟨K - n, by omega⟩
    rw [newT_le]

/-! ### folding -/
def foldE (r : Nat) : Nat → Int × Int
  | 0 => (0, 0)
  | n + 1 => if n % 4 = r then padd (foldE r n) (x n) else foldE r n
theorem rot_mod4 (n : Nat) (z : Int × Int) : rotE (n * k) z = rotE ((n % 4) * k) z := by
  have : n * k = 4 * ((n / 4) * k) + (n % 4) * k := by
    rw [← Nat.mul_assoc, ← Nat.add_mul, Nat.div_add_mod]
  rw [this, rotE_add, rotE_4k]
theorem line_fold : ∀ n, lineE x k n = padd (padd (padd (foldE x 0 n) (rotE k (foldE x 1 n))) (rotE (2 * k) (foldE x 2 n))) (rotE (3 * k) (foldE x 3 n))
  | 0 => by
    have hz : ∀ m, rotE m (0, 0) = (0, 0) := fun m => by
      induction m with
      | zero => rfl
      | succ m ih => simp only [rotE, ih]; rfl
    simp only [foldE, hz]
    rfl
  | n + 1 => by
    show padd (lineE x k n) (rotE (n * k) (x n)) = _
    rw [line_fold n, rot_mod4 k n (x n)]
    have h4 : n % 4 = 0 ∨ n % 4 = 1 ∨ n % 4 = 2 ∨ n % 4 = 3 := by omega
    rcases h4 with h | h | h | h
    · simp only [foldE, h, Nat.zero_mul, rotE, if_true, show ¬ (0 : Nat) = 1 by omega, show ¬ (0 : Nat) = 2 by omega, show ¬ (0 : Nat) = 3 by omega, if_false]
      simp only [padd]
      refine Prod.ext ?_ ?_ <;> (simp only; omega)
    · simp only [foldE, h, Nat.one_mul, if_true, show ¬ (1 : Nat) = 0 by omega, show ¬ (1 : Nat) = 2 by omega, show ¬ (1 : Nat) = 3 by omega, if_false, rotE_padd]
      simp only [padd]
      refine Prod.ext ?_ ?_ <;> (simp only; omega)
    · simp only [foldE, h, if_true, show ¬ (2 : Nat) = 0 by omega, show ¬ (2 : Nat) = 1 by omega, show ¬ (2 : Nat) = 3 by omega, if_false, rotE_padd]
      simp only [padd]
      refine Prod.ext ?_ ?_ <;> (simp only; omega)
    · simp only [foldE, h, if_true, show ¬ (3 : Nat) = 0 by omega, show ¬ (3 : Nat) = 1 by omega, show ¬ (3 : Nat) = 2 by omega, if_false, rotE_padd]
      simp only [padd]
      refine Prod.ext ?_ ?_ <;> (simp only; omega)
end
theorem parseval (x : Nat → Int × Int) (n : Nat) :
    nm (lineE x 0 n) + nm (lineE x 1 n) + nm (lineE x 2 n) + nm (lineE x 3 n) = 4 * (nm (foldE x 0 n) + nm (foldE x 1 n) + nm (foldE x 2 n) + nm (foldE x 3 n)) := by
  rw [line_fold, line_fold, line_fold, line_fold]
  generalize foldE x 0 n = a
  generalize foldE x 1 n = b
  generalize foldE x 2 n = c
  generalize foldE x 3 n = d
  obtain ⟨a1, a2⟩ := a
  obtain ⟨b1, b2⟩ := b
  obtain ⟨c1, c2⟩ := c
  obtain ⟨d1, d2⟩ := d
  simp only [Nat.mul_zero, Nat.mul_one, show 2 * 2 = 4 from rfl, show 3 * 2 = 6 from rfl, show 2 * 3 = 6 from rfl, show 3 * 3 = 9 from rfl, rotE, padd, nm]
  grind
end Go.Proofs.Ytdhekhichomoiaa
end

section
namespace Go.Proofs.Ytdhekhichomoiaa
open Go Go.Pi Go.RowKit
set_option maxRecDepth 100000
set_option linter.unusedVariables false
set_option linter.unusedSimpArgs false

def f19 (n : Int) : Int := minmax true n (IntKind.i64.wrap (0 - n))
def f19_e : Entry := { doms := [(false, (.int .i64))], cods := [(false, (.int .i64))], pre := fun _ => True, fn := f19, uq := false, total := true }
def f19_E : Env := []
def f19_A : Anns := { loops := [], own := [] }
theorem f19_run (a0 : Int) (K : Int → Prop) : runF Try.prog f19_E f19_A 6 Try.f19 f19_e.doms f19_e.cods a0 K =
    (K (minmax true a0 (IntKind.i64.wrap (0 - a0)))) := by kernel_rfl
theorem f19_t (a0 : Int) (K : Int → Prop) (hK : ∀ y : Int, y = f19 a0 → K y) : RunF Try.prog f19_E f19_A 6 Try.f19 f19_e.doms f19_e.cods a0 K := by
  refine ⟨?_⟩
  rw [f19_run a0 K]
  exact hK _ rfl
theorem f19_fn : f19_e.fn = f19 := rfl
theorem f19_ok : EntryOK Try.prog 19 f19_e := by
  refine entryF progOK (EnvOK.nil) (A := f19_A) (d := 6) Try.func19 rfl rfl (fun _ _ => trivial) fun x hpre => ?_
  exact f19_t x _ fun _ h => h.trans (congrFun f19_fn.symm _)
end Go.Proofs.Ytdhekhichomoiaa
end

section
namespace Go.Proofs.Ytdhekhichomoiaa
open Go Go.Pi
set_option linter.unusedVariables false
set_option linter.unusedSimpArgs false

theorem mulB {a b M : Int} (ha : -M ≤ a ∧ a ≤ M) (hb : -M ≤ b ∧ b ≤ M) : -(M * M) ≤ a * b ∧ a * b ≤ M * M := by
  have h1 := Int.mul_nonneg (show 0 ≤ M - a by omega) (show 0 ≤ M + b by omega)
  have h2 := Int.mul_nonneg (show 0 ≤ M + a by omega) (show 0 ≤ M - b by omega)
  have h3 := Int.mul_nonneg (show 0 ≤ M - a by omega) (show 0 ≤ M - b by omega)
  have h4 := Int.mul_nonneg (show 0 ≤ M + a by omega) (show 0 ≤ M + b by omega)
  constructor <;> grind
/-- The size of a number. -/
def ab (n : Int) : Int := if n < 0 then -n else n
theorem ab_nonneg (n : Int) : 0 ≤ ab n := by unfold ab; split <;> omega
theorem ab_self (n : Int) : ab n * ab n = n * n := by
  unfold ab
  split
  · exact Int.neg_mul_neg n n
  · rfl
theorem ab_lt {a b : Int} : ab a < ab b ↔ a * a < b * b := by
  rw [← ab_self a, ← ab_self b]
  constructor
  · exact Int.mul_self_lt_mul_self (ab_nonneg a)
  · intro h
    by_cases hl : ab a < ab b
    · exact hl
    · have := Int.mul_self_le_mul_self (ab_nonneg b) (show ab b ≤ ab a by omega)
      omega
theorem f148_ab {n : Int} (h : -1000000000000000000 ≤ n ∧ n ≤ 1000000000000000000) : f148 n = ab n := by
  unfold f148 ab
  rw [wr (n := 0 - n) (by omega) (by omega)]
  simp only [minmax]
  split <;> split <;> omega
theorem f19_ab {n : Int} (h : -1000000000000000000 ≤ n ∧ n ≤ 1000000000000000000) : f19 n = ab n := f148_ab h

theorem f92_next {r : List Int} (h : 2 ≤ r.length) : f92 r = (!stopRow r && f92 (nextRow r)) := by
  obtain ⟨m, hm⟩ : ∃ m, r.length = m + 1 := ⟨r.length - 1, by omega⟩
  have hn : (nextRow r).length = m := by rw [nextRow_length]; omega
  have h1 : (r.length == 1) = false := by simp; omega
  unfold f92
  rw [hn, hm]
  simp only [lastRow]
  cases hs : stopRow r with
  | true => simp [h1]
  | false => simp
theorem f92_one (a : Int) : f92 [a] = (a != 0) := by
  simp [f92, lastRow, stopRow]
theorem f92_two {a b : Int} (ha : -1000000000 ≤ a ∧ a ≤ 1000000000) (hb : -1000000000 ≤ b ∧ b ≤ 1000000000) : f92 [a, b] = decide (a * a < b * b) := by
  rw [f92_next (by simp)]
  have e : nextRow [a, b] = [IntKind.i64.wrap (IntKind.i64.wrap (b * b) - IntKind.i64.wrap (a * a))] := rfl
  have es : stopRow [a, b] = decide (f148 b ≤ f148 a) := rfl
  have h1 := mulB hb hb
  have h2 := mulB ha ha
  rw [e, es, f92_one, f148_ab (by omega), f148_ab (by omega), wr (n := b * b) (by omega) (by omega), wr (n := a * a) (by omega) (by omega), wr (n := b * b - a * a) (by omega) (by omega)]
  rw [Bool.eq_iff_iff]
  simp only [Bool.and_eq_true, Bool.not_eq_true', decide_eq_false_iff_not, decide_eq_true_eq, bne_iff_ne, ne_eq]
  rw [Int.not_le, ab_lt]
  omega
theorem f92_three {a b c : Int} (ha : -1000000 ≤ a ∧ a ≤ 1000000) (hb : -1000000 ≤ b ∧ b ≤ 1000000) (hc : -1000000 ≤ c ∧ c ≤ 1000000) :
    f92 [a, b, c] = (decide (a * a < c * c) && f92 [c * b - a * b, c * c - a * a]) := by
  rw [f92_next (by simp)]
  have e : nextRow [a, b, c] = [IntKind.i64.wrap (IntKind.i64.wrap (c * b) - IntKind.i64.wrap (a * b)), IntKind.i64.wrap (IntKind.i64.wrap (c * c) - IntKind.i64.wrap (a * a))] := rfl
  have es : stopRow [a, b, c] = decide (f148 c ≤ f148 a) := rfl
  have h1 := mulB hc hb
  have h2 := mulB ha hb
  have h3 := mulB hc hc
  have h4 := mulB ha ha
  rw [e, es, f148_ab (by omega), f148_ab (by omega), wr (n := c * b) (by omega) (by omega), wr (n := a * b) (by omega) (by omega), wr (n := c * b - a * b) (by omega) (by omega), wr (n := c * c) (by omega) (by omega), wr (n := a * a) (by omega) (by omega), wr (n := c * c - a * a) (by omega) (by omega)]
  congr 1
  rw [Bool.eq_iff_iff]
  simp only [Bool.not_eq_true', decide_eq_false_iff_not, decide_eq_true_eq]
  rw [Int.not_le, ab_lt]
theorem f92_four {a b c d : Int} (ha : -1000000 ≤ a ∧ a ≤ 1000000) (hb : -1000000 ≤ b ∧ b ≤ 1000000) (hc : -1000000 ≤ c ∧ c ≤ 1000000) (hd : -1000000 ≤ d ∧ d ≤ 1000000) :
    f92 [a, b, c, d] = (decide (a * a < d * d) && f92 [d * b - a * c, d * c - a * b, d * d - a * a]) := by
  rw [f92_next (by simp)]
  have e : nextRow [a, b, c, d] = [IntKind.i64.wrap (IntKind.i64.wrap (d * b) - IntKind.i64.wrap (a * c)), IntKind.i64.wrap (IntKind.i64.wrap (d * c) - IntKind.i64.wrap (a * b)), IntKind.i64.wrap (IntKind.i64.wrap (d * d) - IntKind.i64.wrap (a * a))] := rfl
  have es : stopRow [a, b, c, d] = decide (f148 d ≤ f148 a) := rfl
  have h1 := mulB hd hb
  have h2 := mulB ha hc
  have h3 := mulB hd hc
  have h4 := mulB ha hb
  have h5 := mulB hd hd
  have h6 := mulB ha ha
  rw [e, es, f148_ab (by omega), f148_ab (by omega), wr (n := d * b) (by omega) (by omega), wr (n := a * c) (by omega) (by omega), wr (n := d * b - a * c) (by omega) (by omega), wr (n := d * c) (by omega) (by omega), wr (n := a * b) (by omega) (by omega), wr (n := d * c - a * b) (by omega) (by omega), wr (n := d * d) (by omega) (by omega), wr (n := a * a) (by omega) (by omega), wr (n := d * d - a * a) (by omega) (by omega)]
  congr 1
  rw [Bool.eq_iff_iff]
  simp only [Bool.not_eq_true', decide_eq_false_iff_not, decide_eq_true_eq]
  rw [Int.not_le, ab_lt]

/-! ### the highest coefficient is greater than all others together -/
theorem dom_three {a b c : Int} (h : ab a + ab b < ab c) : a * a < c * c ∧ (c * b - a * b) * (c * b - a * b) < (c * c - a * a) * (c * c - a * a) := by
  have hac : ab a < ab c := by have := ab_nonneg b; omega
  refine ⟨ab_lt.1 hac, ?_⟩
  have h1 : ab b < ab (c + a) := by
    have := ab_nonneg b
    revert h
    unfold ab
    split <;> split <;> split <;> split <;> omega
  have h2 := ab_lt.1 h1
  have hne : c - a ≠ 0 := fun e => by
    have : c = a := by omega
    subst this
    omega
  have hpos : 0 < (c - a) * (c - a) := by
    rcases Int.lt_or_gt_of_ne hne with h | h
    · exact Int.mul_pos_of_neg_of_neg h h
    · exact Int.mul_pos h h
  have h3 := Int.mul_lt_mul_of_pos_left h2 hpos
  grind

/-! ### times a number -/
theorem sq_lt_mul {t x y : Int} (ht : t ≠ 0) : (t * x) * (t * x) < (t * y) * (t * y) ↔ x * x < y * y := by
  have hpos : 0 < t * t := by
    rcases Int.lt_or_gt_of_ne ht with h | h
    · exact Int.mul_pos_of_neg_of_neg h h
    · exact Int.mul_pos h h
  have e1 : (t * x) * (t * x) = (t * t) * (x * x) := by grind
  have e2 : (t * y) * (t * y) = (t * t) * (y * y) := by grind
  rw [e1, e2]
  exact Int.mul_lt_mul_left hpos

/-! ### a zero at a whole number -/
structure NoZero (p q : Int) : Prop where
  ne : p ≠ 0
  le : q * q ≤ p * p
theorem noZero_step {P Q n m a d z : Int} (h1 : z * n = d * P - a * Q) (h2 : m = d * Q - a * P) (hz : z ≠ 0) (had : a * a < d * d) (h : NoZero n m) : NoZero P Q := by
  have e : (z * n) * (z * n) - m * m = (d * d - a * a) * (P * P - Q * Q) := by grind
  have hz2 : 1 ≤ z * z := by
    rcases Int.lt_or_gt_of_ne hz with h | h
    · have := Int.mul_pos_of_neg_of_neg h h; omega
    · have := Int.mul_pos h h; omega
  have hn : n * n ≤ (z * n) * (z * n) := by
    have h3 : 0 ≤ (z * z - 1) * (n * n) := Int.mul_nonneg (by omega) (by rw [← ab_self]; exact Int.mul_nonneg (ab_nonneg n) (ab_nonneg n))
    grind
  have hle : Q * Q ≤ P * P := by
    have h4 : 0 ≤ (d * d - a * a) * (P * P - Q * Q) := by rw [← e]; have := h.le; omega
    by_cases hc : Q * Q ≤ P * P
    · exact hc
    · have := Int.mul_neg_of_pos_of_neg (show 0 < d * d - a * a by omega) (show P * P - Q * Q < 0 by omega)
      omega
  refine ⟨fun hP => ?_, hle⟩
  subst hP
  have hQ : Q = 0 := by
    have : Q * Q ≤ 0 := by simpa using hle
    by_cases hq : Q = 0
    · exact hq
    · rcases Int.lt_or_gt_of_ne hq with h | h
      · have := Int.mul_pos_of_neg_of_neg h h; omega
      · have := Int.mul_pos h h; omega
  subst hQ
  have : z * n = 0 := by simpa using h1
  rcases Int.mul_eq_zero.1 this with h5 | h5
  · exact hz h5
  · exact h.ne h5
theorem noZero_one {a : Int} (h : a ≠ 0) : NoZero a a := ⟨h, Int.le_refl _⟩
theorem noZero_two {a b z : Int} (hz : z ≠ 0) (h : a * a < b * b) : NoZero (a + b * z) (b + a * z) :=
  noZero_step (n := b * b - a * a) (m := b * b - a * a) (a := a) (d := b) (z := z) (by grind) (by grind) hz h (noZero_one (by omega))
theorem noZero_three {a b c z : Int} (hz : z ≠ 0) (h : a * a < c * c) (h2 : (c * b - a * b) * (c * b - a * b) < (c * c - a * a) * (c * c - a * a)) : NoZero (a + b * z + c * z * z) (c + b * z + a * z * z) :=
  noZero_step (a := a) (d := c) (z := z) (by grind) (by grind) hz h (noZero_two hz h2)
theorem noZero_four {a b c d z : Int} (hz : z ≠ 0) (h : a * a < d * d)
    (h2 : (d * b - a * c) * (d * b - a * c) < (d * d - a * a) * (d * d - a * a))
    (h3 : ((d * d - a * a) * (d * c - a * b) - (d * b - a * c) * (d * c - a * b)) * ((d * d - a * a) * (d * c - a * b) - (d * b - a * c) * (d * c - a * b)) < ((d * d - a * a) * (d * d - a * a) - (d * b - a * c) * (d * b - a * c)) * ((d * d - a * a) * (d * d - a * a) - (d * b - a * c) * (d * b - a * c))) :
    NoZero (a + b * z + c * z * z + d * z * z * z) (d + c * z + b * z * z + a * z * z * z) :=
  noZero_step (a := a) (d := d) (z := z) (by grind) (by grind) hz h (noZero_three hz h2 h3)
end Go.Proofs.Ytdhekhichomoiaa
end

section
namespace Go.Proofs.Ytdhekhichomoiaa
open Go Go.Pi Go.RowKit
set_option maxRecDepth 100000
set_option linter.unusedVariables false
set_option linter.unusedSimpArgs false

def f100 (x : (Int × Int) × (Int × Int)) : Int × Int := (IntKind.i64.wrap (IntKind.i64.wrap (x.1.1 * x.2.1) - IntKind.i64.wrap (x.1.2 * x.2.2)), IntKind.i64.wrap (IntKind.i64.wrap (x.1.1 * x.2.2) + IntKind.i64.wrap (x.1.2 * x.2.1)))
def f100_e : Entry := { doms := [(true, (.pair (.int .i64) (.int .i64))), (true, (.pair (.int .i64) (.int .i64)))], cods := [(true, (.pair (.int .i64) (.int .i64)))], pre := fun _ => True, fn := f100, uq := false, total := true }
def f100_E : Env := []
def f100_A : Anns := { loops := [], own := [] }
theorem f100_run (a0 : Int × Int) (a1 : Int × Int) (K : (Int × Int) → Prop) : runF Try.prog f100_E f100_A 6 Try.f100 f100_e.doms f100_e.cods (a0, a1) K =
    (K ((IntKind.i64.wrap ((IntKind.i64.wrap (a0.1 * a1.1)) - (IntKind.i64.wrap (a0.2 * a1.2)))), (IntKind.i64.wrap ((IntKind.i64.wrap (a0.1 * a1.2)) + (IntKind.i64.wrap (a0.2 * a1.1)))))) := by kernel_rfl
theorem f100_t (a0 : Int × Int) (a1 : Int × Int) (K : (Int × Int) → Prop) (hK : ∀ y : Int × Int, y = f100 (a0, a1) → K y) : RunF Try.prog f100_E f100_A 6 Try.f100 f100_e.doms f100_e.cods (a0, a1) K := by
  refine ⟨?_⟩
  rw [f100_run a0 a1 K]
  exact hK _ (by simp only [f100])
theorem f100_fn : f100_e.fn = f100 := rfl
theorem f100_ok : EntryOK Try.prog 100 f100_e := by
  refine entryF progOK (EnvOK.nil) (A := f100_A) (d := 6) Try.func100 rfl rfl (fun _ _ => trivial) fun x hpre => ?_
  obtain ⟨a0, a1⟩ := x
  exact f100_t a0 a1 _ fun _ h => h.trans (congrFun f100_fn.symm _)
end Go.Proofs.Ytdhekhichomoiaa
end

section
namespace Go.Proofs.Ytdhekhichomoiaa
open Go Go.Pi Go.RowKit
set_option maxRecDepth 100000
set_option linter.unusedVariables false
set_option linter.unusedSimpArgs false

def f101 (x : Int × Int) : Int × Int := (x.1, IntKind.i64.wrap (0 - x.2))
def f101_e : Entry := { doms := [(true, (.pair (.int .i64) (.int .i64)))], cods := [(true, (.pair (.int .i64) (.int .i64)))], pre := fun _ => True, fn := f101, uq := false, total := true }
def f101_E : Env := [(100, f100_e), (127, f127_e)]
def f101_A : Anns := { loops := [], own := [] }
theorem f101_run (a0 : Int × Int) (K : (Int × Int) → Prop) : runF Try.prog f101_E f101_A 6 Try.f101 f101_e.doms f101_e.cods a0 K =
    (K (a0.1, (IntKind.i64.wrap (0 - a0.2)))) := by kernel_rfl
theorem f101_t (a0 : Int × Int) (K : (Int × Int) → Prop) (hK : ∀ y : Int × Int, y = f101 a0 → K y) : RunF Try.prog f101_E f101_A 6 Try.f101 f101_e.doms f101_e.cods a0 K := by
  refine ⟨?_⟩
  rw [f101_run a0 K]
  exact hK _ (by simp only [f101])
theorem f101_fn : f101_e.fn = f101 := rfl
theorem f101_ok : EntryOK Try.prog 101 f101_e := by
  refine entryF progOK (EnvOK.cons f100_ok (EnvOK.cons f127_ok (EnvOK.nil))) (A := f101_A) (d := 6) Try.func101 rfl rfl (fun _ _ => trivial) fun x hpre => ?_
  exact f101_t x _ fun _ h => h.trans (congrFun f101_fn.symm _)
theorem mul_conj (a b : Int × Int) : f100 (f101 a, b) = f127 (a, b) := by
  simp only [f100, f101, f127, wrap_sub_l, wrap_sub_r, wrap_mul_l, wrap_mul_r, wrap_add_l, wrap_add_r]
  congr 2 <;> grind
end Go.Proofs.Ytdhekhichomoiaa
end

section
namespace Go.Proofs.Ytdhekhichomoiaa
open Go Go.Pi Go.RowKit
set_option maxRecDepth 100000
set_option linter.unusedVariables false
set_option linter.unusedSimpArgs false

def f31 (x : List (Int × Int) × Int) : Int × Int := f99 x
def f31_pre (x : List (Int × Int) × Int) : Prop := 0 ≤ x.2 ∧ x.2 ≤ 1048576 ∧ x.1.length ≤ 1048576
def f31_e : Entry := { doms := [(false, (.sl (.pair (.int .i64) (.int .i64)))), (false, (.int .i64))], cods := [(true, (.pair (.int .i64) (.int .i64)))], pre := f31_pre, fn := f31, uq := false, total := false }
def f31_E : Env := [(80, f80_e), (100, f100_e), (101, f101_e), (99, f99_e)]
def f31_A : Anns := { loops := [(1048576, { tms := [(0, .keep), (1, .keep), (4, .keep), (5, .keep), (6, .data false (.int .i64))], obs := [(1048576, .keep), (1049601, .cells [.data (.int .i64), .data (.int .i64)])], fz := [] })], own := [] }
theorem f31_run (a0 : List (Int × Int)) (a1 : Int) (K : (Int × Int) → Prop) : runF Try.prog f31_E f31_A 6 Try.f31 f31_e.doms f31_e.cods (a0, a1) K =
    (LoopP (V := Int × Int × Int × Unit) (fun again v => (fun (again1 : Int → Int → Int → Prop) (v1_0 : Int) (v1_1 : Int) (v1_2 : Int) =>
    br (lenOk (a0.length))
    (br (decide ((IntKind.i64.wrap (v1_0 + a1)) < ((a0.length) : Int)))
    (br (decide (0 ≤ v1_0) && decide (v1_0 < ((a0.length) : Int)))
    (br (decide (0 ≤ (IntKind.i64.wrap (v1_0 + a1))) && decide ((IntKind.i64.wrap (v1_0 + a1)) < ((a0.length) : Int)))
    (again1 (IntKind.i64.wrap (v1_0 + 1)) ((f80 ((v1_1, v1_2), (f100 ((f101 (a0.getD v1_0.toNat (0, 0))), (a0.getD ((IntKind.i64.wrap (v1_0 + a1)).toNat) (0, 0)))))).1) ((f80 ((v1_1, v1_2), (f100 ((f101 (a0.getD v1_0.toNat (0, 0))), (a0.getD ((IntKind.i64.wrap (v1_0 + a1)).toNat) (0, 0)))))).2))
    False)
    False)
    (K (v1_1, v1_2)))
    True)
    (fun v1_0 v1_1 v1_2 => again (v1_0, v1_1, v1_2, ())) v.1 v.2.1 v.2.2.1) (0, 0, 0, ())) := by kernel_rfl
theorem f31_t (a0 : List (Int × Int)) (a1 : Int) (hpre : f31_pre (a0, a1)) (K : (Int × Int) → Prop) (hK : ∀ y : Int × Int, y = f31 (a0, a1) → K y) : RunF Try.prog f31_E f31_A 6 Try.f31 f31_e.doms f31_e.cods (a0, a1) K := by
  refine ⟨?_⟩
  rw [f31_run a0 a1 K]
  obtain ⟨h0, h1, h2⟩ := hpre
  simp only at h0 h1 h2
  refine LoopP.up (a0.length - a1.toNat : Nat) (fun i v => (v.1, v.2.1) = sumN (corAt a0 a1) i.toNat) (fun again i v hi0 hn hI hag => ?_) (by omega) (by simp [sumN])
  obtain ⟨v1, v2, u⟩ := v
  simp only at hI hag ⊢
  rw [br_true_, lenOk_iff]
  intro hl
  rw [wr (n := i + a1) (by omega) (by omega), br_both]
  refine ⟨fun hi => ?_, fun hi => hK _ ?_⟩
  · simp only [decide_eq_true_eq] at hi
    rw [wr (n := i + 1) (by omega) (by omega)]
    simp only [br_false_, Bool.and_eq_true, decide_eq_true_eq]
    refine ⟨⟨by omega, by omega⟩, ⟨by omega, hi⟩, hag _ (by omega) ?_⟩
    show (_, _) = _
    rw [hI, mul_conj, show (i + 1).toNat = i.toNat + 1 by omega]
    have e : corAt a0 a1 i.toNat = f127 (a0.getD i.toNat (0, 0), a0.getD (i + a1).toNat (0, 0)) := by
      unfold corAt
      rw [show i.toNat + a1.toNat = (i + a1).toNat by omega]
    show f80 _ = f126 (sumN (corAt a0 a1) i.toNat, corAt a0 a1 i.toNat)
    rw [e]
    rfl
  · simp only [decide_eq_false_iff_not] at hi
    rw [hI]
    unfold f31 f99
    simp only
    congr 1
    omega
theorem f31_fn : f31_e.fn = f31 := rfl
theorem f31_ok : EntryOK Try.prog 31 f31_e := by
  refine entryF progOK (EnvOK.cons f80_ok (EnvOK.cons f100_ok (EnvOK.cons f101_ok (EnvOK.cons f99_ok (EnvOK.nil))))) (A := f31_A) (d := 6) Try.func31 rfl rfl (fun h => by cases h) fun x hpre => ?_
  obtain ⟨a0, a1⟩ := x
  exact f31_t a0 a1 hpre _ fun _ h => h.trans (congrFun f31_fn.symm _)
end Go.Proofs.Ytdhekhichomoiaa
end

section
namespace Go.Proofs.Ytdhekhichomoiaa
open Go Go.Pi Go.RowKit
set_option maxRecDepth 100000
set_option linter.unusedVariables false
set_option linter.unusedSimpArgs false

def f130 (x : (Int × Int) × (Int × Int)) : Int × Int := (IntKind.i64.wrap (x.1.1 - x.2.1), IntKind.i64.wrap (x.1.2 - x.2.2))
def f130_e : Entry := { doms := [(true, (.pair (.int .i64) (.int .i64))), (true, (.pair (.int .i64) (.int .i64)))], cods := [(true, (.pair (.int .i64) (.int .i64)))], pre := fun _ => True, fn := f130, uq := false, total := true }
def f130_E : Env := []
def f130_A : Anns := { loops := [], own := [] }
theorem f130_run (a0 : Int × Int) (a1 : Int × Int) (K : (Int × Int) → Prop) : runF Try.prog f130_E f130_A 6 Try.f130 f130_e.doms f130_e.cods (a0, a1) K =
    (K ((IntKind.i64.wrap (a0.1 - a1.1)), (IntKind.i64.wrap (a0.2 - a1.2)))) := by kernel_rfl
theorem f130_t (a0 : Int × Int) (a1 : Int × Int) (K : (Int × Int) → Prop) (hK : ∀ y : Int × Int, y = f130 (a0, a1) → K y) : RunF Try.prog f130_E f130_A 6 Try.f130 f130_e.doms f130_e.cods (a0, a1) K := by
  refine ⟨?_⟩
  rw [f130_run a0 a1 K]
  exact hK _ rfl
theorem f130_fn : f130_e.fn = f130 := rfl
theorem f130_ok : EntryOK Try.prog 130 f130_e := by
  refine entryF progOK (EnvOK.nil) (A := f130_A) (d := 6) Try.func130 rfl rfl (fun _ _ => trivial) fun x hpre => ?_
  obtain ⟨a0, a1⟩ := x
  exact f130_t a0 a1 _ fun _ h => h.trans (congrFun f130_fn.symm _)
end Go.Proofs.Ytdhekhichomoiaa
end

section
namespace Go.Proofs.Ytdhekhichomoiaa
open Go Go.Pi Go.RowKit
set_option maxRecDepth 100000
set_option linter.unusedVariables false
set_option linter.unusedSimpArgs false

theorem app_getD {α : Type} {l r : List α} {i : Nat} {d : α} (h : i < l.length) : (l ++ r).getD i d = l.getD i d := by
  simp [List.getD_eq_getElem?_getD, List.getElem?_append_left h]
theorem lagN_sum {all : List (Int × Int)} {z : Int × Int} {n T m : Nat} (hm : m = max n T) (hz : inR z) : ∀ k, lagN all z n m k = f126 (f130 (sumN (corAt all (n : Int)) ((T - n) + k), sumN (corAt all (n : Int)) (T - n)), z)
  | 0 => by
    obtain ⟨⟨a1, a2⟩, a3, a4⟩ := hz
    simp only [lagN, Nat.add_zero, f130, f126, Int.sub_self, wrap_zero, Int.zero_add]
    rw [wr a1 a2, wr a3 a4]
  | k + 1 => by
    rw [lagN, lagN_sum hm hz k, ← Nat.add_assoc, sumN]
    have e : corAt all (n : Int) (T - n + k) = f127 (all.getD (m + k - n) (0, 0), all.getD (m + k) (0, 0)) := by
      unfold corAt
      rw [show T - n + k = m + k - n by omega, show m + k - n + (n : Int).toNat = m + k by omega]
    rw [e]
    generalize f127 (all.getD (m + k - n) (0, 0), all.getD (m + k) (0, 0)) = G
    generalize sumN (corAt all (n : Int)) (T - n + k) = S
    generalize sumN (corAt all (n : Int)) (T - n) = A
    simp only [f126, f130, wrap_sub_l, wrap_add_l]
    refine Prod.ext ?_ ?_
    · show IntKind.i64.wrap _ = IntKind.i64.wrap _
      congr 1
      omega
    · show IntKind.i64.wrap _ = IntKind.i64.wrap _
      congr 1
      omega
theorem lag_same {s : List (Int × Int) × List (Int × Int) × Int} {p : List (Int × Int)} {n : Nat} (hz : inR (s.1.getD n (0, 0))) :
    f126 (f130 (f99 (s.2.1 ++ p, (n : Int)), f99 (s.2.1, (n : Int))), s.1.getD n (0, 0)) = newLag s p n := by
  have hn : (n : Int).toNat = n := by omega
  rw [newLag, lagN_sum rfl hz]
  unfold f99
  simp only [hn]
  rw [show s.2.1.length - n + ((s.2.1 ++ p).length - max n s.2.1.length) = (s.2.1 ++ p).length - n by rw [List.length_append]; omega]
  have e : sumN (corAt s.2.1 (n : Int)) (s.2.1.length - n) = sumN (corAt (s.2.1 ++ p) (n : Int)) (s.2.1.length - n) := sumN_congr fun k hk => by
    unfold corAt
    rw [app_getD (by omega), app_getD (by omega)]
  rw [e]
def f77 (x : (List (Int × Int) × List (Int × Int) × Int) × List (Int × Int)) : (List (Int × Int) × List (Int × Int) × Int) × Bool :=
  if addBad x.1 x.2 = true then (([], [], 0), false) else (addTo x.1 x.2, true)
def f77_pre (x : (List (Int × Int) × List (Int × Int) × Int) × List (Int × Int)) : Prop := SumOK x.1 ∧ x.2.length ≤ 1000
def f77_e : Entry := { doms := [(true, (.pair (.sl (.pair (.int .i64) (.int .i64))) (.pair (.sl (.pair (.int .i64) (.int .i64))) (.int .i64)))), (false, (.sl (.pair (.int .i64) (.int .i64))))], cods := [(true, (.pair (.sl (.pair (.int .i64) (.int .i64))) (.pair (.sl (.pair (.int .i64) (.int .i64))) (.int .i64)))), (false, .bool)], pre := f77_pre, fn := f77, uq := false, total := false }
def f77_E : Env := [(26, f26_e), (31, f31_e), (80, f80_e), (111, f111_e), (130, f130_e), (72, f72_e), (74, f74_e), (99, f99_e), (126, f126_e), (127, f127_e), (117, f117_e)]
def f77_A : Anns := { loops := [(1048576, { tms := [(2, .keep), (4, .keep), (6, .keep), (7, .keep), (8, .data false (.int .i64))], obs := [(1048576, .keep), (1048577, .keep), (1049602, .keep), (1050630, .cells [.ref 1058820, .data (.sl (.int .i64)), .data (.int .i64)]), (1058820, .arr (.uniq) (.pair (.int .i64) (.int .i64)))], fz := [1049602] })], own := [1049602] }
theorem f77_run (a0 : List (Int × Int) × List (Int × Int) × Int) (a1 : List (Int × Int)) (K : ((List (Int × Int) × List (Int × Int) × Int) × Bool) → Prop) : runF Try.prog f77_E f77_A 6 Try.f77 f77_e.doms f77_e.cods (a0, a1) K =
    (f26_pre a0.2.1 ∧
    br (roomOk (((f26 a0.2.1).length) + (a1.length)) 16)
    (br (lenOk (a1.length))
    (LoopP (V := Int × List Int × Int × List (Int × Int) × Unit) (fun again v => (fun (again1 : Int → List Int → Int → List (Int × Int) → Prop) (v1_0 : Int) (v1_1 : List Int) (v1_2 : Int) (v1_3 : List (Int × Int)) =>
    br (lenOk (a0.1.length))
    (br (decide (v1_0 < ((a0.1.length) : Int)))
    (f31_pre (((f26 a0.2.1) ++ a1), v1_0) ∧
    f31_pre (a0.2.1, v1_0) ∧
    br (decide (0 ≤ v1_0) && decide (v1_0 < ((a0.1.length) : Int)))
    (br (!(f111 ((f80 ((f130 ((f31 (((f26 a0.2.1) ++ a1), v1_0)), (f31 (a0.2.1, v1_0)))), (a0.1.getD v1_0.toNat (0, 0)))), 1000000000000)))
    (K ((([] : List (Int × Int)), (([] : List (Int × Int)), 0)), false))
    (br (roomOk ((v1_3.length) + 1) 16)
    (again1 (IntKind.i64.wrap (v1_0 + 1)) v1_1 v1_2 (v1_3 ++ ([(f80 ((f130 ((f31 (((f26 a0.2.1) ++ a1), v1_0)), (f31 (a0.2.1, v1_0)))), (a0.1.getD v1_0.toNat (0, 0))))] : List (Int × Int))))
    False))
    False)
    (br (decide (v1_2 > 1000000000000))
    (K ((([] : List (Int × Int)), (([] : List (Int × Int)), 0)), false))
    (br (lenOk (((f26 a0.2.1) ++ a1).length))
    (br (lenOk (a0.1.length))
    (br (lenOk (((f26 a0.2.1) ++ a1).length))
    (br (decide ((0 : Int) ≤ (IntKind.i64.wrap (((((f26 a0.2.1) ++ a1).length) : Int) - (minmax false ((((f26 a0.2.1) ++ a1).length) : Int) (IntKind.i64.wrap (((a0.1.length) : Int) - 1))))) ∧ (IntKind.i64.wrap (((((f26 a0.2.1) ++ a1).length) : Int) - (minmax false ((((f26 a0.2.1) ++ a1).length) : Int) (IntKind.i64.wrap (((a0.1.length) : Int) - 1))))) ≤ ((((f26 a0.2.1) ++ a1).length) : Int) ∧ ((((f26 a0.2.1) ++ a1).length) : Int) ≤ ((((f26 a0.2.1) ++ a1).length) : Int)))
    (f26_pre ((((f26 a0.2.1) ++ a1).take (((((f26 a0.2.1) ++ a1).length) : Int).toNat)).drop ((IntKind.i64.wrap (((((f26 a0.2.1) ++ a1).length) : Int) - (minmax false ((((f26 a0.2.1) ++ a1).length) : Int) (IntKind.i64.wrap (((a0.1.length) : Int) - 1))))).toNat)) ∧
    K ((v1_3, ((f26 ((((f26 a0.2.1) ++ a1).take (((((f26 a0.2.1) ++ a1).length) : Int).toNat)).drop ((IntKind.i64.wrap (((((f26 a0.2.1) ++ a1).length) : Int) - (minmax false ((((f26 a0.2.1) ++ a1).length) : Int) (IntKind.i64.wrap (((a0.1.length) : Int) - 1))))).toNat))), v1_2)), true))
    False)
    True)
    True)
    True)))
    True)
    (fun v1_0 v1_1 v1_2 v1_3 => again (v1_0, v1_1, v1_2, v1_3, ())) v.1 v.2.1 v.2.2.1 v.2.2.2.1) (0, ([] : List Int), (IntKind.i64.wrap (a0.2.2 + ((a1.length) : Int))), ([] : List (Int × Int)), ()))
    True)
    False) := by kernel_rfl
theorem f77_t (a0 : List (Int × Int) × List (Int × Int) × Int) (a1 : List (Int × Int)) (hpre : f77_pre (a0, a1)) (K : ((List (Int × Int) × List (Int × Int) × Int) × Bool) → Prop) (hK : ∀ y : (List (Int × Int) × List (Int × Int) × Int) × Bool, y = f77 (a0, a1) → K y) : RunF Try.prog f77_E f77_A 6 Try.f77 f77_e.doms f77_e.cods (a0, a1) K := by
  refine ⟨?_⟩
  rw [f77_run a0 a1 K]
  obtain ⟨hs, hp⟩ := hpre
  simp only at hs hp
  have hlags := hs.lags
  have hcount := hs.count
  have htl := tail_len hs
  have i26 : ∀ l, f26 l = l := fun l => rfl
  have hall : (a0.2.1 ++ a1).length = a0.2.1.length + a1.length := List.length_append
  have hR : ∀ n, inR (a0.1.getD n (0, 0)) := fun n => by
    by_cases hj : n < a0.1.length
    · rw [getD_lt hj]
      have := hs.each _ (List.getElem_mem hj)
      simp only [inR]
      omega
    · rw [show a0.1.getD n (0, 0) = (0, 0) by simp [List.getD_eq_getElem?_getD, List.getElem?_eq_none (Nat.le_of_not_lt hj)]]
      simp [inR]
  refine ⟨by show a0.2.1.length ≤ _; omega, ?_⟩
  simp only [i26]
  obtain ⟨all, hA⟩ : ∃ all, all = a0.2.1 ++ a1 := ⟨_, rfl⟩
  have hsum : ∀ i : Int, 0 ≤ i → f80 (f130 (f31 (all, i), f31 (a0.2.1, i)), a0.1.getD i.toNat (0, 0)) = newLag a0 a1 i.toNat := fun i hi => by
    have := lag_same (s := a0) (p := a1) (n := i.toNat) (hR _)
    rw [show ((i.toNat : Nat) : Int) = i by omega, ← hA] at this
    exact this
  rw [← hA] at hall ⊢
  rw [br_false_, roomOk_iff]
  refine ⟨by omega, ?_⟩
  rw [br_true_]
  intro _
  rw [wr (n := a0.2.2 + (a1.length : Int)) (by omega) (by omega)]
  have hnl : newLags a0 a1 = (List.range a0.1.length).map (newLag a0 a1) := rfl
  refine LoopP.up a0.1.length (fun i v => v.1 = [] ∧ v.2.1 = a0.2.2 + (a1.length : Int) ∧ v.2.2.1 = (List.range i.toNat).map (newLag a0 a1) ∧ ∀ j, j < i.toNat → okS (newLag a0 a1 j) = true) (fun again i v hi0 hn hI hag => ?_) (by omega) ⟨rfl, rfl, rfl, fun j hj => by omega⟩
  obtain ⟨w, c, v, u⟩ := v
  simp only at hI hag ⊢
  obtain ⟨hI1, hI2, hI3, hI4⟩ := hI
  subst hI1 hI2 hI3
  rw [br_true_]
  intro _
  rw [br_dec]
  refine ⟨fun hi => ?_, fun hi => ?_⟩
  · refine ⟨⟨hi0, by omega, by show all.length ≤ _; omega⟩, ⟨hi0, by omega, by show a0.2.1.length ≤ _; omega⟩, ?_⟩
    rw [hsum i hi0, br_false_, wr (n := i + 1) (by omega) (by omega)]
    refine ⟨by simp only [Bool.and_eq_true, decide_eq_true_eq]; omega, ?_⟩
    rw [show f111 (newLag a0 a1 i.toNat, 1000000000000) = okS (newLag a0 a1 i.toNat) from rfl, br_both]
    refine ⟨fun hne => hK _ ?_, fun he => ?_⟩
    · simp only [f77]
      rw [if_pos]
      rw [addBad, Bool.or_eq_true, Bool.not_eq_true']
      refine .inr ?_
      rw [Bool.eq_false_iff]
      intro hall2
      have := List.all_eq_true.1 hall2 (newLag a0 a1 i.toNat) (by rw [hnl]; exact List.mem_map.2 ⟨i.toNat, List.mem_range.2 (by omega), rfl⟩)
      rw [this] at hne
      simp at hne
    · rw [br_false_, roomOk_iff]
      refine ⟨by simp; omega, hag _ hi ⟨rfl, rfl, ?_, fun j hj => ?_⟩⟩
      · exact app_step (g := newLag a0 a1) hi0
      · by_cases e : j = i.toNat
        · subst e
          simpa using he
        · exact hI4 j (by omega)
  · have hie : i.toNat = a0.1.length := by omega
    rw [hie, ← hnl]
    rw [hie] at hI4
    have h1 : (newLags a0 a1).all okS = true := by
      rw [List.all_eq_true]
      intro z hz
      rw [hnl] at hz
      obtain ⟨j, hj, rfl⟩ := List.mem_map.1 hz
      exact hI4 j (List.mem_range.1 hj)
    rw [br_dec]
    refine ⟨fun hc => hK _ ?_, fun hc => ?_⟩
    · simp only [f77]
      rw [if_pos (by simp [addBad, hc])]
    rw [br_true_]
    intro _
    rw [br_true_]
    intro _
    rw [br_true_]
    intro _
    have hmn : IntKind.i64.wrap ((all.length : Int) - minmax false (all.length : Int) (IntKind.i64.wrap ((a0.1.length : Int) - 1))) = ((all.length + 1 - a0.1.length : Nat) : Int) := by
      rw [wr (n := (a0.1.length : Int) - 1) (by omega) (by omega)]
      simp only [minmax]
      split
      · rw [wr (by omega) (by omega)]; omega
      · rw [wr (by omega) (by omega)]; omega
    rw [hmn, br_false_]
    have e1 : (all.length : Int).toNat = all.length := by omega
    have e2 : ((all.length + 1 - a0.1.length : Nat) : Int).toNat = all.length + 1 - a0.1.length := by omega
    rw [e1, e2, List.take_length]
    refine ⟨decide_eq_true ⟨by omega, by omega, by omega⟩, ?_, hK _ ?_⟩
    · show (all.drop _).length ≤ _
      rw [List.length_drop]
      omega
    · have h2 : decide (a0.2.2 + (a1.length : Int) > 1000000000000) = false := by simpa using hc
      have h3 : addBad a0 a1 = false := by rw [addBad, h1, h2]; rfl
      simp only [f77]
      rw [h3, if_neg (by decide), hA]
      rfl
theorem f77_fn : f77_e.fn = f77 := rfl
theorem f77_ok : EntryOK Try.prog 77 f77_e := by
  refine entryF progOK (EnvOK.cons f26_ok (EnvOK.cons f31_ok (EnvOK.cons f80_ok (EnvOK.cons f111_ok (EnvOK.cons f130_ok (EnvOK.cons f72_ok (EnvOK.cons f74_ok (EnvOK.cons f99_ok (EnvOK.cons f126_ok (EnvOK.cons f127_ok (EnvOK.cons f117_ok (EnvOK.nil)))))))))))) (A := f77_A) (d := 6) Try.func77 rfl rfl (fun h => by cases h) fun x hpre => ?_
  obtain ⟨a0, a1⟩ := x
  exact f77_t a0 a1 hpre _ fun _ h => h.trans (congrFun f77_fn.symm _)
end Go.Proofs.Ytdhekhichomoiaa
end

section
namespace Go.Proofs.Ytdhekhichomoiaa
open Go Go.Pi
set_option linter.unusedVariables false
set_option linter.unusedSimpArgs false

def bd (M : Int) (z : Int × Int) : Prop := (-M ≤ z.1 ∧ z.1 ≤ M) ∧ -M ≤ z.2 ∧ z.2 ≤ M
theorem bd_zero {M : Int} (h : 0 ≤ M) : bd M (0, 0) := ⟨⟨by simp only; omega, by simp only; omega⟩, by simp only; omega, by simp only; omega⟩
theorem bd_rotE {M : Int} {z : Int × Int} (h : bd M z) : ∀ k, bd M (rotE k z)
  | 0 => h
  | k + 1 => by
    have := bd_rotE h k
    simp only [bd, rotE] at this ⊢
    omega
theorem rotN_E {M : Int} {z : Int × Int} (hM : M ≤ 1000000000000000000) (h : bd M z) : ∀ k, rotN k z = rotE k z
  | 0 => rfl
  | k + 1 => by
    have hb := bd_rotE h k
    show rot1 (rotN k z) = _
    rw [rotN_E hM h k]
    simp only [bd] at hb
    simp only [rot1, rotE]
    rw [wr (by omega) (by omega), Int.zero_sub]
theorem cj_E {x y : Int × Int} (hx : bd 1000 x) (hy : bd 1000 y) : f127 (x, y) = cj x y ∧ bd 2000000 (cj x y) := by
  have h1 := mulB hx.1 hy.1
  have h2 := mulB hx.2 hy.2
  have h3 := mulB hx.1 hy.2
  have h4 := mulB hx.2 hy.1
  refine ⟨?_, ?_⟩
  · simp only [f127, cj]
    rw [wr (n := x.1 * y.1) (by omega) (by omega), wr (n := x.2 * y.2) (by omega) (by omega), wr (n := x.1 * y.2) (by omega) (by omega), wr (n := x.2 * y.1) (by omega) (by omega), wr (n := x.1 * y.1 + x.2 * y.2) (by omega) (by omega), wr (n := x.1 * y.2 - x.2 * y.1) (by omega) (by omega)]
  · simp only [bd, cj]
    omega
theorem sumN_E {g g' : Nat → Int × Int} {M : Int} (hM : 0 ≤ M ∧ M ≤ 1000000000000) : ∀ n : Nat, n ≤ 1000 → (∀ j, j < n → g j = g' j ∧ bd M (g' j)) → sumN g n = sumE g' n ∧ bd (n * M) (sumE g' n)
  | 0, _, _ => ⟨rfl, by simp [sumE, bd]⟩
  | n + 1, hn, h => by
    obtain ⟨h1, h2⟩ := sumN_E (g := g) (g' := g') hM n (by omega) fun j hj => h j (by omega)
    obtain ⟨h3, h4⟩ := h n (by omega)
    have hm : ((n : Int)) * M ≤ 1000 * 1000000000000 := Int.mul_le_mul (by omega) hM.2 hM.1 (by omega)
    have hm1 : (((n + 1 : Nat) : Int)) * M = n * M + M := by rw [Int.natCast_add, Int.add_mul]; simp
    simp only [bd] at h2 h4
    refine ⟨?_, ?_⟩
    · simp only [sumN, sumE, h1, h3, f126, padd]
      rw [wr (by omega) (by omega), wr (by omega) (by omega)]
    · rw [hm1]
      simp only [sumE, padd, bd]
      omega
theorem nm_E {z : Int × Int} (h : bd 1000000 z) : f118 z = nm z ∧ 0 ≤ nm z ∧ nm z ≤ 2 * (1000000 * 1000000) := by
  have h1 := mulB h.1 h.1
  have h2 := mulB h.2 h.2
  have h3 : 0 ≤ z.1 * z.1 := by rw [← ab_self]; exact Int.mul_nonneg (ab_nonneg _) (ab_nonneg _)
  have h4 : 0 ≤ z.2 * z.2 := by rw [← ab_self]; exact Int.mul_nonneg (ab_nonneg _) (ab_nonneg _)
  refine ⟨?_, by simp only [nm]; omega, by simp only [nm]; omega⟩
  simp only [f118, nm]
  rw [wr (n := z.1 * z.1) (by omega) (by omega), wr (n := z.2 * z.2) (by omega) (by omega), wr (by omega) (by omega)]

/-! ### a short block -/
structure Blk (l : List (Int × Int)) : Prop where
  len : l.length ≤ 48
  all : ∀ z ∈ l, -1000 ≤ z.1 ∧ z.1 ≤ 1000 ∧ -1000 ≤ z.2 ∧ z.2 ≤ 1000
def at0 (l : List (Int × Int)) (j : Nat) : Int × Int := l.getD j (0, 0)
theorem at0_out {l : List (Int × Int)} {j : Nat} (h : l.length ≤ j) : at0 l j = (0, 0) := by
  simp [at0, List.getD_eq_getElem?_getD, List.getElem?_eq_none h]
theorem Blk.at {l : List (Int × Int)} (h : Blk l) (j : Nat) : bd 1000 (at0 l j) := by
  by_cases hj : j < l.length
  · have := h.all _ (by rw [at0, getD_lt hj]; exact List.getElem_mem hj : at0 l j ∈ l)
    simp only [bd]
    omega
  · rw [at0_out (Nat.le_of_not_lt hj)]
    exact bd_zero (by omega)
theorem line_E {l : List (Int × Int)} (h : Blk l) (k : Nat) : lineAt l k = lineE (at0 l) k l.length ∧ bd 1000000 (lineAt l k) := by
  have hin : ∀ j, inR (at0 l j) := fun j => by
    have := h.at j
    simp only [bd] at this
    simp only [inR]
    omega
  obtain ⟨h1, h2⟩ := sumN_E (g := fun j => f98 (l.getD j (0, 0), ((j * k : Nat) : Int))) (g' := fun j => rotE (j * k) (at0 l j)) (M := 1000) (by omega) l.length (by have := h.len; omega) fun j _ => by
    refine ⟨?_, bd_rotE (h.at j) _⟩
    show f98 (at0 l j, _) = _
    rw [f98_nat (hin j), rotN_E (by omega) (h.at j)]
  refine ⟨h1, ?_⟩
  rw [show lineAt l k = _ from h1]
  have hl := h.len
  simp only [bd] at h2 ⊢
  omega
theorem cor_E {l : List (Int × Int)} (h : Blk l) (m : Nat) : f99 (l, (m : Int)) = corE (at0 l) l.length m ∧ bd 100000000 (f99 (l, (m : Int))) := by
  have hm : (m : Int).toNat = m := by omega
  have hl := h.len
  obtain ⟨h1, h2⟩ := sumN_E (g := corAt l (m : Int)) (g' := fun i => cj (at0 l i) (at0 l (i + m))) (M := 2000000) (by omega) (l.length - m) (by omega) fun j _ => by
    have := cj_E (h.at j) (h.at (j + m))
    refine ⟨?_, this.2⟩
    unfold corAt
    rw [hm]
    exact this.1
  have e : f99 (l, (m : Int)) = sumN (corAt l (m : Int)) (l.length - m) := by
    unfold f99
    simp only [hm]
  rw [e]
  refine ⟨h1, ?_⟩
  rw [h1]
  simp only [bd] at h2 ⊢
  have : ((l.length - m : Nat) : Int) * 2000000 ≤ 96000000 := by omega
  omega

theorem line_small {l : List (Int × Int)} (h : Blk l) (k : Nat) : bd 48000 (lineE (at0 l) k l.length) := by
  have hl := h.len
  have hsum : ∀ n : Nat, bd (n * 1000) (lineE (at0 l) k n) := fun n => by
    induction n with
    | zero => simp [lineE, sumE, bd]
    | succ n ih =>
      have h1 := bd_rotE (h.at n) (n * k)
      show bd _ (padd (lineE (at0 l) k n) (rotE (n * k) (at0 l n)))
      simp only [bd, padd] at ih h1 ⊢
      omega
  have := hsum l.length
  simp only [bd] at this ⊢
  omega
theorem fold_small {l : List (Int × Int)} (h : Blk l) (r : Nat) : ∀ n : Nat, bd (n * 1000) (foldE (at0 l) r n)
  | 0 => by simp [foldE, bd]
  | n + 1 => by
    have ih := fold_small h r n
    have h1 := h.at n
    simp only [foldE]
    split
    · simp only [bd, padd] at ih h1 ⊢
      omega
    · simp only [bd] at ih ⊢
      omega
theorem nm_small {z : Int × Int} (h : bd 48000 z) : f118 z = nm z ∧ 0 ≤ nm z ∧ nm z ≤ 10000000000 := by
  have hb : bd 1000000 z := by simp only [bd] at h ⊢; omega
  have h1 := mulB h.1 h.1
  have h2 := mulB h.2 h.2
  have h3 := nm_E hb
  refine ⟨h3.1, h3.2.1, ?_⟩
  simp only [nm]
  omega
theorem f78_range {t m : Int} (h0 : 0 < m) (h1 : m ≤ 1000) : 0 ≤ f78 (t, m) ∧ f78 (t, m) < m := by
  have a1 : t.tmod m < m := Int.tmod_lt_of_pos t h0
  have a2 := Int.lt_tmod_of_pos t h0
  simp only [f78]
  split
  · rw [wr (by omega) (by omega)]
    omega
  · omega
theorem take_join {α : Type} {l : List α} {a b : Nat} (h : a ≤ b) : l.take a ++ (l.take b).drop a = l.take b := by
  conv => rhs; rw [← List.take_append_drop a (l.take b)]
  rw [List.take_take, Nat.min_eq_left h]

/-- The lags of a beginning. -/
def lagsOf (L : Nat) (q : List (Int × Int)) : List (Int × Int) := (List.range L).map fun (k : Nat) => f99 (q, (k : Int))
def sumOf (L : Nat) (q : List (Int × Int)) : List (Int × Int) × List (Int × Int) × Int := (lagsOf L q, q.drop (q.length + 1 - L), (q.length : Int))
theorem lagsOf_len {L : Nat} {q : List (Int × Int)} : (lagsOf L q).length = L := by simp [lagsOf]
theorem lagsOf_get {L : Nat} {q : List (Int × Int)} {m : Nat} (h : m < L) : (lagsOf L q).getD m (0, 0) = f99 (q, (m : Int)) := range_getD h

theorem by_E {q : List (Int × Int)} (h : Blk q) {L : Nat} (hL : L ≤ 12) (k : Nat) : ∀ K, K < L → byN (lagsOf L q) k K = byE' (at0 q) k q.length K ∧ (-(100000000 * (1 + 2 * (K : Int))) ≤ byE' (at0 q) k q.length K ∧ byE' (at0 q) k q.length K ≤ 100000000 * (1 + 2 * (K : Int)))
  | 0, hK => by
    have hc := cor_E h 0
    simp only [byN, byE']
    rw [lagsOf_get hK, ← hc.1]
    refine ⟨rfl, ?_⟩
    have := hc.2
    simp only [bd] at this
    omega
  | K + 1, hK => by
    obtain ⟨h1, h2⟩ := by_E h hL k K (by omega)
    have hc := cor_E h (K + 1)
    have hin : inR (f99 (q, ((K + 1 : Nat) : Int))) := by
      have := hc.2
      simp only [bd] at this
      simp only [inR]
      omega
    have hr := bd_rotE hc.2 ((K + 1) * k)
    simp only [byN, byE']
    rw [lagsOf_get hK, h1, f98_nat hin, rotN_E (by omega) hc.2, ← hc.1]
    simp only [bd] at hr
    rw [wr (n := 2 * _) (by omega) (by omega), wr (by omega) (by omega)]
    exact ⟨rfl, by omega⟩
theorem power_eq {q : List (Int × Int)} (h : Blk q) {L : Nat} (hL : 1 ≤ L ∧ L ≤ 12) (hq : q.length ≤ L) (k : Nat) : byK (lagsOf L q) k = f118 (lineAt q k) := by
  have hl := line_E h k
  rw [byK, lagsOf_len, (by_E h hL.2 k (L - 1) (by omega)).1, (nm_E hl.2).1, hl.1, ← power_by (at0 q) k q.length (L - 1) (by omega)]
theorem powers_eq {q : List (Int × Int)} (h : Blk q) {L : Nat} (hL : 1 ≤ L ∧ L ≤ 12) (hq : q.length ≤ L) : byF (lagsOf L q) = f116 (f113 q) := by
  unfold byF f116 f113
  rw [power_eq h hL hq, power_eq h hL hq, power_eq h hL hq, power_eq h hL hq]

/-! ### a further piece -/
theorem drop_get {l : List (Int × Int)} {i j : Nat} : (l.drop i).getD j (0, 0) = l.getD (i + j) (0, 0) := by
  simp [List.getD_eq_getElem?_getD, List.getElem?_drop]
theorem lagN_S {all : List (Int × Int)} {z : Int × Int} {k off T A m : Nat} (hm : m = max k T) (hz : z = sumN (corAt all (k : Int)) (A - k)) (hcase : (k ≤ T ∧ off + T = A) ∨ (T < k ∧ off = 0 ∧ T = A)) :
    ∀ i, lagN (all.drop off) z k m i = sumN (corAt all (k : Int)) (A - k + i)
  | 0 => hz
  | i + 1 => by
    rw [← Nat.add_assoc]
    simp only [lagN, sumN]
    rw [lagN_S hm hz hcase i]
    congr 2
    rw [drop_get, drop_get]
    unfold corAt
    rw [show off + (m + i - k) = A - k + i by omega, show off + (m + i) = A - k + i + (k : Int).toNat by omega]
theorem newLag_S {L : Nat} {q p : List (Int × Int)} {k : Nat} (hk : k < L) : newLag (sumOf L q) p k = f99 (q ++ p, (k : Int)) := by
  have hkn : (k : Int).toNat = k := by omega
  obtain ⟨off, hoff⟩ : ∃ off, off = q.length + 1 - L := ⟨_, rfl⟩
  have hle : off ≤ q.length := by omega
  have hT : (q.drop off).length = q.length - off := List.length_drop
  have hall : q.drop off ++ p = (q ++ p).drop off := by rw [List.drop_append_of_le_length hle]
  rw [newLag]
  show lagN (q.drop (q.length + 1 - L) ++ p) ((lagsOf L q).getD k (0, 0)) k (max k (q.drop (q.length + 1 - L)).length) _ = _
  rw [lagsOf_get hk]
  show lagN (q.drop (q.length + 1 - L) ++ p) (f99 (q, (k : Int))) k (max k (q.drop (q.length + 1 - L)).length) ((q.drop (q.length + 1 - L) ++ p).length - max k (q.drop (q.length + 1 - L)).length) = _
  rw [← hoff, List.length_append, hT, hall]
  have hz : f99 (q, (k : Int)) = sumN (corAt (q ++ p) (k : Int)) (q.length - k) := by
    unfold f99
    simp only [hkn]
    refine sumN_congr fun j hj => ?_
    unfold corAt
    rw [app_getD (by omega), app_getD (by omega)]
  rw [lagN_S (A := q.length) (off := off) (T := q.length - off) rfl hz (by omega)]
  unfold f99
  simp only [hkn]
  congr 1
  rw [List.length_append]
  omega
theorem addTo_S {L : Nat} {q p : List (Int × Int)} (hL : 1 ≤ L) : addTo (sumOf L q) p = sumOf L (q ++ p) := by
  have hle : q.length + 1 - L ≤ q.length := by omega
  have hall : q.drop (q.length + 1 - L) ++ p = (q ++ p).drop (q.length + 1 - L) := by rw [List.drop_append_of_le_length hle]
  have h1 : newLags (sumOf L q) p = lagsOf L (q ++ p) := by
    show (List.range (lagsOf L q).length).map _ = (List.range L).map _
    rw [lagsOf_len]
    refine List.map_congr_left fun k hk => newLag_S (List.mem_range.1 hk)
  have h2 : (q.drop (q.length + 1 - L) ++ p).drop ((q.drop (q.length + 1 - L) ++ p).length + 1 - (lagsOf L q).length) = (q ++ p).drop ((q ++ p).length + 1 - L) := by
    rw [lagsOf_len, hall, List.drop_drop, List.length_drop, List.length_append]
    congr 1
    omega
  have h3 : (q.length : Int) + (p.length : Int) = ((q ++ p).length : Int) := by rw [List.length_append]; omega
  show (newLags (sumOf L q) p, (q.drop (q.length + 1 - L) ++ p).drop ((q.drop (q.length + 1 - L) ++ p).length + 1 - (lagsOf L q).length), (q.length : Int) + (p.length : Int)) = _
  rw [h1, h2, h3]
  rfl
theorem lagsOf_ok {L : Nat} {q : List (Int × Int)} (h : Blk q) : ∀ z ∈ lagsOf L q, okS z = true := fun z hz => by
  obtain ⟨k, _, rfl⟩ := List.mem_map.1 hz
  have := (cor_E h k).2
  simp only [bd] at this
  exact okS_is.2 (by omega)
theorem chk_S {L : Nat} {q : List (Int × Int)} (h : Blk q) (hL : 1 ≤ L ∧ L ≤ 12) : chkS (sumOf L q) = (0, 0) := by
  have hl := h.len
  have h1 : (sumOf L q).1.length = L := lagsOf_len
  have h2 : (lagsOf L q).findIdx? (fun z => !okS z) = none := by
    rw [List.findIdx?_eq_none_iff]
    intro z hz
    rw [lagsOf_ok h z hz]
    rfl
  have h3 : (q.drop (q.length + 1 - L)).findIdx? (fun z => !f103 z) = none := by
    rw [List.findIdx?_eq_none_iff]
    intro z hz
    have := h.all z (List.mem_of_mem_drop hz)
    simp [f103, szd]
    omega
  have h4 : ((q.drop (q.length + 1 - L)).length : Int) = minmax false (q.length : Int) ((L : Int) - 1) := by
    rw [List.length_drop]
    simp only [minmax]
    split <;> omega
  rw [chkS, if_neg (by rw [h1]; omega), if_neg (by rw [h1]; omega)]
  rw [show (sumOf L q).1.findIdx? (fun z => !okS z) = none from h2]
  simp only
  rw [chkT, if_neg (fun hh => hh (show 0 ≤ (q.length : Int) ∧ (q.length : Int) ≤ 1000000000000 by omega)), if_neg (fun hh => hh (by
    rw [h1]
    exact h4))]
  rw [show (sumOf L q).2.1.findIdx? (fun z => !f103 z) = none from h3]
theorem blk_f33 {l : List (Int × Int)} (h : Blk l) (h0 : 0 < l.length) : f33 l = (0, 0) := by
  have hl := h.len
  rw [f33, if_neg (by omega), if_neg (by omega)]
  have : l.findIdx? (fun z => !f103 z) = none := by
    rw [List.findIdx?_eq_none_iff]
    intro z hz
    have := h.all z hz
    simp [f103, szd]
    omega
  rw [this]
/-- A piece is added. -/
theorem added_S {L : Nat} {q p : List (Int × Int)} (h : Blk (q ++ p)) (hp : 0 < p.length) (hL : 1 ≤ L ∧ L ≤ 12) : f72 (sumOf L q, p) = (sumOf L (q ++ p), 0) := by
  have hlen := h.len
  rw [List.length_append] at hlen
  have hq : Blk q := ⟨by omega, fun z hz => h.all z (List.mem_append_left _ hz)⟩
  have hpb : Blk p := ⟨by omega, fun z hz => h.all z (List.mem_append_right _ hz)⟩
  have hE : addE (sumOf L q) p = 0 := by
    rw [addE, chk_S hq hL, blk_f33 hpb hp]
    rfl
  have hB : addBad (sumOf L q) p = false := by
    have h1 : newLags (sumOf L q) p = lagsOf L (q ++ p) := congrArg (·.1) (addTo_S (q := q) (p := p) hL.1)
    have h2 : (newLags (sumOf L q) p).all okS = true := by rw [h1, List.all_eq_true]; exact lagsOf_ok h
    have h3 : decide ((sumOf L q).2.2 + (p.length : Int) > 1000000000000) = false := by
      rw [decide_eq_false_iff_not]
      show ¬ (q.length : Int) + (p.length : Int) > 1000000000000
      omega
    rw [addBad, h2, h3]
    rfl
  simp only [f72]
  rw [if_neg (fun hh => hh hE), hB, if_neg (by decide), addTo_S hL.1]
end Go.Proofs.Ytdhekhichomoiaa
end
