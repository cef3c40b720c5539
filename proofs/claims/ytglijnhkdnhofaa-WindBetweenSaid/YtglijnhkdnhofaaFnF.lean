/- What functions of the program compute, each proved once, part 6. -/
import Derived.Test.YtglijnhkdnhofaaPiD
import Derived.Test.YtglijnhkdnhofaaFnA
import Derived.Test.YtglijnhkdnhofaaFnC
import Derived.Test.YtglijnhkdnhofaaFnD

section
namespace Go.Proofs.Ytglijnhkdnhofaa
open Go Go.Pi Go.RowKit
set_option maxRecDepth 100000
set_option linter.unusedVariables false
set_option linter.unusedSimpArgs false

def f19 (x : Int × Int) : Int := if x.1.tmod x.2 < 0 then IntKind.i64.wrap (x.1.tmod x.2 + x.2) else x.1.tmod x.2
def f19_pre (x : Int × Int) : Prop := x.2 ≠ 0
def f19_e : Entry := { doms := [(false, (.int .i64)), (false, (.int .i64))], cods := [(false, (.int .i64))], pre := f19_pre, fn := f19, uq := false, total := false }
def f19_E : Env := []
def f19_A : Anns := { loops := [], own := [] }
theorem f19_run (a0 : Int) (a1 : Int) (K : Int → Prop) : runF Try.prog f19_E f19_A 6 Try.f19 f19_e.doms f19_e.cods (a0, a1) K =
    (br (!(decide (a1 = 0)))
    (br (decide ((a0.tmod a1) < 0))
    (K (IntKind.i64.wrap ((a0.tmod a1) + a1)))
    (K (a0.tmod a1)))
    False) := by kernel_rfl
theorem f19_t (a0 : Int) (a1 : Int) (hpre : f19_pre (a0, a1)) (K : Int → Prop) (hK : ∀ y : Int, y = f19 (a0, a1) → K y) : RunF Try.prog f19_E f19_A 6 Try.f19 f19_e.doms f19_e.cods (a0, a1) K := by
  refine ⟨?_⟩
  rw [f19_run a0 a1 K]
  have h : (!(decide (a1 = 0))) = true := by
    have h1 : a1 ≠ 0 := hpre
    simpa using h1
  rw [br_false_]
  refine ⟨h, ?_⟩
  rw [br_dec]
  exact ⟨fun h => hK _ (by simp [f19, h]), fun h => hK _ (by simp [f19, h])⟩
theorem f19_fn : f19_e.fn = f19 := rfl
theorem f19_ok : EntryOK Try.prog 19 f19_e := by
  refine entryF progOK (EnvOK.nil) (A := f19_A) (d := 6) Try.func19 rfl rfl rfl rfl (fun h => by cases h) fun x hpre => ?_
  obtain ⟨a0, a1⟩ := x
  exact f19_t a0 a1 hpre _ fun _ h => h.trans (congrFun f19_fn.symm _)
theorem f19_four (t : Int) : 0 ≤ f19 (t, 4) ∧ f19 (t, 4) < 4 := by
  have h1 : t.tmod 4 < 4 := Int.tmod_lt_of_pos t (by omega)
  have h2 : -4 < t.tmod 4 := by
    have := Int.lt_tmod_of_pos t (show (0 : Int) < 4 by omega)
    omega
  simp only [f19]
  split
  · rw [wr (by omega) (by omega)]
    omega
  · omega
theorem f19_nonneg {t : Int} (h : 0 ≤ t) : f19 (t, 4) = t.tmod 4 := by
  have : 0 ≤ t.tmod 4 := Int.tmod_nonneg 4 h
  simp only [f19]
  rw [if_neg (by omega)]
theorem f19_range {x b : Int} (h : 0 < b) (hb : b ≤ 9223372036854775807) : 0 ≤ f19 (x, b) ∧ f19 (x, b) < b := by
  have h1 : x.tmod b < b := Int.tmod_lt_of_pos x h
  have h2 : -b < x.tmod b := by
    have := Int.lt_tmod_of_pos x h
    omega
  simp only [f19]
  split
  · rw [wr (by omega) (by omega)]
    omega
  · omega
end Go.Proofs.Ytglijnhkdnhofaa
end

section
namespace Go.Proofs.Ytglijnhkdnhofaa
open Go Go.Pi Go.RowKit
set_option maxRecDepth 100000
set_option linter.unusedVariables false
set_option linter.unusedSimpArgs false

def f35 (x : Int × Int × Int) : Bool := decide (x.2.1 ≤ x.1) && decide (x.1 ≤ x.2.2)
def f35_e : Entry := { doms := [(false, (.int .i64)), (false, (.int .i64)), (false, (.int .i64))], cods := [(false, .bool)], pre := fun _ => True, fn := f35, uq := false, total := true }
def f35_E : Env := []
def f35_A : Anns := { loops := [], own := [] }
theorem f35_run (a0 : Int) (a1 : Int) (a2 : Int) (K : Bool → Prop) : runF Try.prog f35_E f35_A 6 Try.f35 f35_e.doms f35_e.cods (a0, a1, a2) K =
    (br (decide (a1 ≤ a0))
    (K (decide (a0 ≤ a2)))
    (K false)) := by kernel_rfl
theorem f35_t (a0 : Int) (a1 : Int) (a2 : Int) (K : Bool → Prop) (hK : ∀ y : Bool, y = f35 (a0, a1, a2) → K y) : RunF Try.prog f35_E f35_A 6 Try.f35 f35_e.doms f35_e.cods (a0, a1, a2) K := by
  refine ⟨?_⟩
  rw [f35_run a0 a1 a2 K]
  rw [br_dec]
  exact ⟨fun h => hK _ (by simp [f35, h]), fun h => hK _ (by simp [f35, h])⟩
theorem f35_fn : f35_e.fn = f35 := rfl
theorem f35_ok : EntryOK Try.prog 35 f35_e := by
  refine entryF progOK (EnvOK.nil) (A := f35_A) (d := 6) Try.func35 rfl rfl rfl rfl (fun _ _ => trivial) fun x hpre => ?_
  obtain ⟨a0, a1, a2⟩ := x
  exact f35_t a0 a1 a2 _ fun _ h => h.trans (congrFun f35_fn.symm _)
theorem f35_t1 {a b c : Int} : f35 (a, b, c) = true ↔ b ≤ a ∧ a ≤ c := by simp [f35]
theorem f35_f1 {a b c : Int} : f35 (a, b, c) = false ↔ ¬ (b ≤ a ∧ a ≤ c) := by rw [← Bool.not_eq_true, f35_t1]
end Go.Proofs.Ytglijnhkdnhofaa
end

section
namespace Go.Proofs.Ytglijnhkdnhofaa
open Go Go.Pi Go.RowKit
set_option maxRecDepth 100000
set_option linter.unusedVariables false
set_option linter.unusedSimpArgs false

def f114 (n : Int) : Int := if 0 ≤ n ∧ n ≤ 20000 then 0 else 2
def f114_e : Entry := { doms := [(false, (.int .i64))], cods := [(false, (.int .i64))], pre := fun _ => True, fn := f114, uq := false, total := true }
def f114_E : Env := [(35, f35_e)]
def f114_A : Anns := { loops := [], own := [] }
theorem f114_run (a0 : Int) (K : Int → Prop) : runF Try.prog f114_E f114_A 6 Try.f114 f114_e.doms f114_e.cods a0 K =
    (br (!(f35 (a0, (0, 20000))))
    (K 2)
    (K 0)) := by kernel_rfl
theorem f114_t (a0 : Int) (K : Int → Prop) (hK : ∀ y : Int, y = f114 a0 → K y) : RunF Try.prog f114_E f114_A 6 Try.f114 f114_e.doms f114_e.cods a0 K := by
  refine ⟨?_⟩
  rw [f114_run a0 K]
  have e : f35 (a0, 0, 20000) = decide (0 ≤ a0 ∧ a0 ≤ 20000) := by simp [f35]
  rw [e]
  refine br_two (fun h => hK _ ?_) fun h => hK _ ?_
  · rw [f114, if_neg (nd_t.1 h)]
  · rw [f114, if_pos (nd_f.1 h)]
theorem f114_fn : f114_e.fn = f114 := rfl
theorem f114_ok : EntryOK Try.prog 114 f114_e := by
  refine entryF progOK (EnvOK.cons f35_ok (EnvOK.nil)) (A := f114_A) (d := 6) Try.func114 rfl rfl rfl rfl (fun _ _ => trivial) fun x hpre => ?_
  exact f114_t x _ fun _ h => h.trans (congrFun f114_fn.symm _)
end Go.Proofs.Ytglijnhkdnhofaa
end

section
namespace Go.Proofs.Ytglijnhkdnhofaa
open Go Go.Pi Go.RowKit
set_option maxRecDepth 100000
set_option linter.unusedVariables false
set_option linter.unusedSimpArgs false

def f115 (x : (Int × Int) × (Int × Int) × Int × Int) : (Int × Int) × (Int × Int) × Int × Int := x
def f115_e : Entry := { doms := [(true, (.pair (.pair (.int .i64) (.int .i64)) (.pair (.pair (.int .i64) (.int .i64)) (.pair (.int .i64) (.int .i64)))))], cods := [(true, (.pair (.pair (.int .i64) (.int .i64)) (.pair (.pair (.int .i64) (.int .i64)) (.pair (.int .i64) (.int .i64)))))], pre := fun _ => True, fn := f115, uq := false, total := true }
def f115_E : Env := []
def f115_A : Anns := { loops := [], own := [] }
theorem f115_run (a0 : (Int × Int) × (Int × Int) × Int × Int) (K : ((Int × Int) × (Int × Int) × Int × Int) → Prop) : runF Try.prog f115_E f115_A 6 Try.f115 f115_e.doms f115_e.cods a0 K =
    (K a0) := by kernel_rfl
theorem f115_t (a0 : (Int × Int) × (Int × Int) × Int × Int) (K : ((Int × Int) × (Int × Int) × Int × Int) → Prop) (hK : ∀ y : (Int × Int) × (Int × Int) × Int × Int, y = f115 a0 → K y) : RunF Try.prog f115_E f115_A 6 Try.f115 f115_e.doms f115_e.cods a0 K := by
  refine ⟨?_⟩
  rw [f115_run a0 K]
  exact hK _ rfl
theorem f115_fn : f115_e.fn = f115 := rfl
theorem f115_ok : EntryOK Try.prog 115 f115_e := by
  refine entryF progOK (EnvOK.nil) (A := f115_A) (d := 6) Try.func115 rfl rfl rfl rfl (fun _ _ => trivial) fun x hpre => ?_
  exact f115_t x _ fun _ h => h.trans (congrFun f115_fn.symm _)
end Go.Proofs.Ytglijnhkdnhofaa
end

section
namespace Go.Pi
set_option linter.unusedVariables false
def sgn (n : Int) : Int := if n < 0 then -1 else if n > 0 then 1 else 0
def cmpQ (x : Int × Int × Int × Int) : Int := sgn (x.1 * x.2.2.2 - x.2.2.1 * x.2.1)
abbrev R2 := Int × Int
def mns (a b : R2) : R2 := (a.1 - b.2, a.2 - b.1)
def nearF (d : R2) : Int := if d.1 ≤ 0 ∧ 0 ≤ d.2 then 0 else minmax false (d.1 * d.1) (d.2 * d.2)
def farF (d : R2) : Int := minmax true (d.1 * d.1) (d.2 * d.2)
def lagD (l : List R2) (lag i : Nat) : R2 := mns (l.getD (i + lag) (0, 0)) (l.getD i (0, 0))
def sumN (f : Nat → Int) (n : Nat) : Int := ((List.range n).map f).sum
theorem sumN_succ (f : Nat → Int) (n : Nat) : sumN f (n + 1) = sumN f n + f n := by simp [sumN, List.range_succ]
theorem sumN_le {f g : Nat → Int} : ∀ {n : Nat}, (∀ i, i < n → f i ≤ g i) → sumN f n ≤ sumN g n
  | 0, _ => by simp [sumN]
  | n + 1, h => by
    rw [sumN_succ, sumN_succ]
    have := sumN_le (n := n) fun i hi => h i (by omega)
    have := h n (by omega)
    omega
theorem sumN_congr {f g : Nat → Int} {n : Nat} (h : ∀ i, i < n → f i = g i) : sumN f n = sumN g n :=
  Int.le_antisymm (sumN_le fun i hi => by rw [h i hi]; exact Int.le_refl _) (sumN_le fun i hi => by rw [h i hi]; exact Int.le_refl _)
theorem sumN_bound {f : Nat → Int} {M : Int} : ∀ {n : Nat}, (∀ i, i < n → 0 ≤ f i ∧ f i ≤ M) → 0 ≤ sumN f n ∧ sumN f n ≤ n * M
  | 0, _ => by simp [sumN]
  | n + 1, h => by
    have h1 := sumN_bound (n := n) fun i hi => h i (by omega)
    have h2 := h n (by omega)
    rw [sumN_succ, show ((n + 1 : Nat) : Int) * M = n * M + M by rw [Int.natCast_add, Int.add_mul]; simp]
    omega
/-- The error of ranges and a lag. -/
def rgsE (l : List R2) : Int := if l.length = 0 then 10 else if l.length > 30 then 8 else (eachE l.length fun i => rngE (l.getD i (0, 0)) 10000).2
def lagE (n : Nat) (lag : Int) : Int := if 1 ≤ lag ∧ lag ≤ (n : Int) - 1 then 0 else 2
def strE (l : List R2) (lag : Int) : Int := if rgsE l ≠ 0 then rgsE l else lagE l.length lag
def strV (l : List R2) (lag : Nat) : R2 × R2 := (low (sumN (fun i => nearF (lagD l lag i)) (l.length - lag)) ((l.length : Int) - lag), low (sumN (fun i => farF (lagD l lag i)) (l.length - lag)) ((l.length : Int) - lag))
def strIn (l : List R2) (lag : Int) : (R2 × R2) × Int := if strE l lag ≠ 0 then (no4, strE l lag) else (strV l lag.toNat, 0)
theorem rngE_zero {r : R2} {m : Int} (h : rngE r m = 0) : -m ≤ r.1 ∧ r.1 ≤ r.2 ∧ r.2 ≤ m := by
  unfold rngE at h
  split at h
  · simp at h
  · rename_i h4
    split at h
    · rename_i h5
      have h4 := Classical.byContradiction h4
      exact ⟨by omega, h5, by omega⟩
    · simp at h
/-- Valid ranges and a lag. -/
structure RgOK (l : List R2) (lag : Int) : Prop where
  len : l.length ≤ 30
  lag : 1 ≤ lag ∧ lag ≤ (l.length : Int) - 1
  el : ∀ r ∈ l, -10000 ≤ r.1 ∧ r.1 ≤ r.2 ∧ r.2 ≤ 10000
theorem strE_zero {l : List R2} {lag : Int} (h : strE l lag = 0) : RgOK l lag ∧ rgsE l = 0 := by
  unfold strE at h
  split at h
  · rename_i h1; exact absurd h h1
  · rename_i h1
    have h1 := Classical.byContradiction h1
    have h0 := h1
    unfold rgsE at h1
    unfold lagE at h
    split at h1
    · simp at h1
    · split at h1
      · simp at h1
      · rename_i h2 h3
        split at h
        · rename_i h4
          have hz := eachE_zero h1
          refine ⟨⟨by omega, h4, fun r hr => ?_⟩, h0⟩
          obtain ⟨i, hi, e⟩ := List.getElem_of_mem hr
          have := rngE_zero (hz i hi)
          rwa [getD_lt hi, e] at this
        · simp at h
theorem sq_le {n m : Int} (h : -m ≤ n ∧ n ≤ m) : 0 ≤ n * n ∧ n * n ≤ m * m := by
  have h1 := mul_le h h
  refine ⟨?_, h1.2⟩
  rcases Int.le_total 0 n with h2 | h2
  · exact Int.mul_nonneg h2 h2
  · exact Int.mul_nonneg_of_nonpos_of_nonpos h2 h2
theorem lagD_le {l : List R2} {lag : Nat} (h : RgOK l lag) {i : Nat} (hi : i < l.length - lag) : (-20000 ≤ (lagD l lag i).1 ∧ (lagD l lag i).1 ≤ 20000) ∧ -20000 ≤ (lagD l lag i).2 ∧ (lagD l lag i).2 ≤ 20000 := by
  have h1 := h.el _ (getD_mem (d := (0, 0)) (show i + lag < l.length by omega))
  have h2 := h.el _ (getD_mem (d := (0, 0)) (show i < l.length by omega))
  simp only [lagD, mns]
  omega
theorem nearF_b {l : List R2} {lag : Nat} (h : RgOK l lag) {i : Nat} (hi : i < l.length - lag) : 0 ≤ nearF (lagD l lag i) ∧ nearF (lagD l lag i) ≤ 400000000 := by
  have hd := lagD_le h hi
  have h1 := sq_le hd.1
  have h2 := sq_le hd.2
  unfold nearF minmax
  split
  · omega
  · simp only; split <;> omega
theorem farF_b {l : List R2} {lag : Nat} (h : RgOK l lag) {i : Nat} (hi : i < l.length - lag) : 0 ≤ farF (lagD l lag i) ∧ farF (lagD l lag i) ≤ 400000000 := by
  have hd := lagD_le h hi
  have h1 := sq_le hd.1
  have h2 := sq_le hd.2
  unfold farF minmax
  simp only; split <;> omega
theorem strS {l : List R2} {lag : Nat} (h : RgOK l lag) {n : Nat} (hn : n ≤ l.length - lag) : (0 ≤ sumN (fun i => nearF (lagD l lag i)) n ∧ sumN (fun i => nearF (lagD l lag i)) n ≤ 12000000000) ∧ 0 ≤ sumN (fun i => farF (lagD l lag i)) n ∧ sumN (fun i => farF (lagD l lag i)) n ≤ 12000000000 := by
  have h1 := sumN_bound (n := n) fun i hi => nearF_b h (show i < l.length - lag by omega)
  have h2 := sumN_bound (n := n) fun i hi => farF_b h (show i < l.length - lag by omega)
  have := h.len
  omega
end Go.Pi
end

section
namespace Go.Pi
set_option linter.unusedVariables false
abbrev Bx := R2 × R2 × R2
abbrev Ly := Int × Bx
def b0 : Bx := ((0, 0), (0, 0), (0, 0))
def ly0 : Ly := (0, (0, 0), (0, 0), (0, 0))
def frst (l : List Int) : Int := match l.find? (· != 0) with
  | some n => n
  | none => 0
theorem frst_cons (a : Int) (l : List Int) : frst (a :: l) = if a = 0 then frst l else a := by
  by_cases h : a = 0 <;> simp [frst, h]
theorem frst_nil : frst [] = 0 := rfl
def hE (n : Int) : Int := if 0 ≤ n ∧ n ≤ 20000 then 0 else 2
def ordE (l : List Ly) (i : Nat) : Int := if i = 0 ∨ (l.getD (i - 1) ly0).1 < (l.getD i ly0).1 then 0 else 9
def lyE (l : List Ly) (i : Nat) : Int := frst [hE (l.getD i ly0).1, rngE (l.getD i ly0).2.1 100000, rngE (l.getD i ly0).2.2.1 100000, rngE (l.getD i ly0).2.2.2 100000, ordE l i]
def pfOf (l : List Ly) : Int × Int := if l.length = 0 then (0, 10) else if l.length > 12 then (0, 8) else eachE l.length (lyE l)
def rOK (r : R2) : Prop := -100000 ≤ r.1 ∧ r.1 ≤ r.2 ∧ r.2 ≤ 100000
def bOK (b : Bx) : Prop := rOK b.1 ∧ rOK b.2.1 ∧ rOK b.2.2
structure PfOK (l : List Ly) : Prop where
  pos : 0 < l.length
  len : l.length ≤ 12
  h : ∀ i, i < l.length → 0 ≤ (l.getD i ly0).1 ∧ (l.getD i ly0).1 ≤ 20000
  w : ∀ i, i < l.length → bOK (l.getD i ly0).2
  up : ∀ i, i + 1 < l.length → (l.getD i ly0).1 < (l.getD (i + 1) ly0).1
theorem hE_zero {n : Int} (h : hE n = 0) : 0 ≤ n ∧ n ≤ 20000 := by
  unfold hE at h
  split at h
  · assumption
  · cases h
theorem lyE_zero {l : List Ly} {i : Nat} (h : lyE l i = 0) : (0 ≤ (l.getD i ly0).1 ∧ (l.getD i ly0).1 ≤ 20000) ∧ bOK (l.getD i ly0).2 ∧ (i = 0 ∨ (l.getD (i - 1) ly0).1 < (l.getD i ly0).1) := by
  unfold lyE at h
  have key : ∀ (a : Int) (r : List Int), frst (a :: r) = 0 → a = 0 ∧ frst r = 0 := fun a r h => by
    rw [frst_cons] at h
    by_cases h1 : a = 0
    · rw [if_pos h1] at h; exact ⟨h1, h⟩
    · rw [if_neg h1] at h; exact absurd h h1
  obtain ⟨h1, h⟩ := key _ _ h
  obtain ⟨h2, h⟩ := key _ _ h
  obtain ⟨h3, h⟩ := key _ _ h
  obtain ⟨h4, h⟩ := key _ _ h
  obtain ⟨h5, _⟩ := key _ _ h
  refine ⟨hE_zero h1, ⟨rngE_zero h2, rngE_zero h3, rngE_zero h4⟩, ?_⟩
  unfold ordE at h5
  split at h5
  · assumption
  · cases h5
theorem pfOf_ok {l : List Ly} (h : (pfOf l).2 = 0) : PfOK l := by
  unfold pfOf at h
  split at h
  · cases h
  · rename_i h1
    split at h
    · cases h
    · rename_i h2
      have hz := eachE_zero h
      refine ⟨by omega, by omega, fun i hi => (lyE_zero (hz i hi)).1, fun i hi => (lyE_zero (hz i hi)).2.1, fun i hi => ?_⟩
      have := (lyE_zero (hz (i + 1) hi)).2.2
      rw [Nat.add_sub_cancel] at this
      omega
theorem PfOK.mono {l : List Ly} (h : PfOK l) {i : Nat} : ∀ {j : Nat}, i < j → j < l.length → (l.getD i ly0).1 < (l.getD j ly0).1
  | 0, hij, _ => by omega
  | j + 1, hij, hj => by
    have h1 := h.up j hj
    rcases Nat.lt_or_ge i j with h2 | h2
    · have := h.mono h2 (show j < l.length by omega); omega
    · have : i = j := by omega
      subst this; exact h1
/-- Between two ranges, at a part of the way, rounded outwards. -/
def btw (a b : R2) (n of : Int) : R2 := (a.1 + (b.1 - a.1) * n / of, a.2 + -(-((b.2 - a.2) * n) / of))
def btB (a b : Bx) (n of : Int) : Bx := (btw a.1 b.1 n of, btw a.2.1 b.2.1 n of, btw a.2.2 b.2.2 n of)
def fstI (l : List Ly) (h : Int) : Option Nat := l.findIdx? (fun x => decide (h ≤ x.1))
def atP (l : List Ly) (h : Int) : Bx × Bool := match fstI l h with
  | none => (b0, false)
  | some i => if i = 0 ∧ (l.getD 0 ly0).1 > h then (b0, false) else if (l.getD i ly0).1 = h then ((l.getD i ly0).2, true) else
    (btB (l.getD (i - 1) ly0).2 (l.getD i ly0).2 (h - (l.getD (i - 1) ly0).1) ((l.getD i ly0).1 - (l.getD (i - 1) ly0).1), true)
def windAt (l : List Ly) (h : Int) : Bx × Int := if (pfOf l).2 ≠ 0 then (b0, (pfOf l).2) else if hE h ≠ 0 then (b0, hE h) else if (atP l h).2 = false then (b0, 6) else ((atP l h).1, 0)
def chg (a b : Bx) : Bx := (mns b.1 a.1, mns b.2.1 a.2.1, mns b.2.2 a.2.2)
def chgE (l : List Ly) (x : R2) : Int := frst [(pfOf l).2, hE x.1, hE x.2, if x.1 ≤ x.2 then 0 else 9]
def chgIn (l : List Ly) (x : R2) : Bx × Int := if chgE l x ≠ 0 then (b0, chgE l x) else if (atP l x.1).2 = false then (b0, 6) else if (atP l x.2).2 = false then (b0, 6) else (chg (atP l x.1).1 (atP l x.2).1, 0)
/-! ### what lies between -/
theorem btw_ok {a b : R2} (ha : rOK a) (hb : rOK b) {n of : Int} (h0 : 0 ≤ n) (h1 : n ≤ of) (hof : 0 < of) : (min a.1 b.1 ≤ (btw a b n of).1 ∧ (btw a b n of).1 ≤ (btw a b n of).2 ∧ (btw a b n of).2 ≤ max a.2 b.2) ∧ rOK (btw a b n of) := by
  obtain ⟨a1, a2, a3⟩ := ha
  obtain ⟨b1, b2, b3⟩ := hb
  -- the lower end
  have l1 : min a.1 b.1 ≤ a.1 + (b.1 - a.1) * n / of := by
    have : (min a.1 b.1 - a.1) ≤ (b.1 - a.1) * n / of := by
      refine Int.le_ediv_of_mul_le hof ?_
      rcases Int.le_total a.1 b.1 with h | h
      · rw [Int.min_eq_left h, Int.sub_self, Int.zero_mul]; exact Int.mul_nonneg (by omega) h0
      · rw [Int.min_eq_right h]; exact Int.mul_le_mul_of_nonpos_left (by omega) h1
    omega
  have l2 : -((b.2 - a.2) * n) / of ≥ -(max a.2 b.2 - a.2) := by
    refine Int.le_ediv_of_mul_le hof ?_
    rw [Int.neg_mul]
    have : (b.2 - a.2) * n ≤ (max a.2 b.2 - a.2) * of := by
      rcases Int.le_total a.2 b.2 with h | h
      · rw [Int.max_eq_right h]; exact Int.mul_le_mul_of_nonneg_left h1 (by omega)
      · rw [Int.max_eq_left h, Int.sub_self, Int.zero_mul]
        exact Int.mul_nonpos_of_nonpos_of_nonneg (by omega) h0
    omega
  have q1 := Int.ediv_mul_le ((b.1 - a.1) * n) (show of ≠ 0 by omega)
  have q2 := Int.ediv_mul_le (-((b.2 - a.2) * n)) (show of ≠ 0 by omega)
  have l3 : (btw a b n of).1 ≤ (btw a b n of).2 := by
    show a.1 + (b.1 - a.1) * n / of ≤ a.2 + -(-((b.2 - a.2) * n) / of)
    generalize (b.1 - a.1) * n / of = x at *
    generalize -((b.2 - a.2) * n) / of = y at *
    refine Int.le_of_mul_le_mul_right (a := of) ?_ hof
    have e1 : (a.1 + x) * of = a.1 * of + x * of := by grind
    have e2 : (a.2 + -y) * of = a.2 * of - y * of := by grind
    have e3 : (b.1 - a.1) * n = b.1 * n - a.1 * n := by grind
    have e4 : (b.2 - a.2) * n = b.2 * n - a.2 * n := by grind
    have e5 : a.1 * (of - n) ≤ a.2 * (of - n) := Int.mul_le_mul_of_nonneg_right a2 (by omega)
    have e6 : b.1 * n ≤ b.2 * n := Int.mul_le_mul_of_nonneg_right b2 h0
    have e7 : a.1 * (of - n) = a.1 * of - a.1 * n := by grind
    have e8 : a.2 * (of - n) = a.2 * of - a.2 * n := by grind
    omega
  have l4 : (btw a b n of).1 = a.1 + (b.1 - a.1) * n / of := rfl
  have l5 : (btw a b n of).2 = a.2 + -(-((b.2 - a.2) * n) / of) := rfl
  refine ⟨⟨by rw [l4]; exact l1, l3, by rw [l5]; omega⟩, ⟨by rw [l4]; omega, l3, by rw [l5]; omega⟩⟩
end Go.Pi
end

section
namespace Go.Pi
set_option linter.unusedVariables false
theorem fstI_some {l : List Ly} {h : Int} {i : Nat} (hi : i < l.length) (h1 : h ≤ (l.getD i ly0).1) (h2 : ∀ j, j < i → (l.getD j ly0).1 < h) : fstI l h = some i := by
  unfold fstI
  rw [List.findIdx?_eq_some_iff_getElem]
  refine ⟨hi, by rw [getD_lt hi] at h1; exact decide_eq_true h1, fun j hj => ?_⟩
  have := h2 j hj
  rw [getD_lt (by omega)] at this
  simpa using this
theorem fstI_none {l : List Ly} {h : Int} (h2 : ∀ j, j < l.length → (l.getD j ly0).1 < h) : fstI l h = none := by
  unfold fstI
  rw [List.findIdx?_eq_none_iff]
  intro x hx
  obtain ⟨j, hj, e⟩ := List.getElem_of_mem hx
  have := h2 j hj
  rw [getD_lt hj, e] at this
  simpa using this
theorem fstI_inv {l : List Ly} {h : Int} {i : Nat} (e : fstI l h = some i) : i < l.length ∧ h ≤ (l.getD i ly0).1 ∧ ∀ j, j < i → (l.getD j ly0).1 < h := by
  unfold fstI at e
  rw [List.findIdx?_eq_some_iff_getElem] at e
  obtain ⟨hi, h1, h2⟩ := e
  refine ⟨hi, by rw [getD_lt hi]; exact of_decide_eq_true h1, fun j hj => ?_⟩
  have := h2 j hj
  rw [getD_lt (by omega)]
  simpa using this
theorem at_layer {l : List Ly} (ok : PfOK l) {i : Nat} (hi : i < l.length) : atP l (l.getD i ly0).1 = ((l.getD i ly0).2, true) := by
  have e := fstI_some hi (Int.le_refl _) fun j hj => ok.mono hj hi
  unfold atP
  rw [e]
  simp only
  rw [if_neg (fun hh => by obtain ⟨rfl, h2⟩ := hh; omega), if_pos trivial]
/-- The layers around a height. -/
theorem at_mid {l : List Ly} (ok : PfOK l) {h : Int} (h0 : (l.getD 0 ly0).1 ≤ h) (h1 : h ≤ (l.getD (l.length - 1) ly0).1) :
    (∃ i, i < l.length ∧ (l.getD i ly0).1 = h ∧ atP l h = ((l.getD i ly0).2, true)) ∨
    ∃ i, i + 1 < l.length ∧ (l.getD i ly0).1 < h ∧ h < (l.getD (i + 1) ly0).1 ∧ atP l h = (btB (l.getD i ly0).2 (l.getD (i + 1) ly0).2 (h - (l.getD i ly0).1) ((l.getD (i + 1) ly0).1 - (l.getD i ly0).1), true) := by
  have hp := ok.pos
  cases e : fstI l h with
  | none =>
    exfalso
    unfold fstI at e
    rw [List.findIdx?_eq_none_iff] at e
    have h9 := e (l.getD (l.length - 1) ly0) (getD_mem (show l.length - 1 < l.length by omega))
    rw [decide_eq_false_iff_not] at h9
    exact h9 h1
  | some i =>
    obtain ⟨hi, a1, a2⟩ := fstI_inv e
    by_cases he : (l.getD i ly0).1 = h
    · exact .inl ⟨i, hi, he, by rw [← he]; exact at_layer ok hi⟩
    · cases i with
      | zero => omega
      | succ i =>
        refine .inr ⟨i, hi, a2 i (by omega), by omega, ?_⟩
        unfold atP
        rw [e]
        simp only
        rw [if_neg (fun hh => by cases hh.1), if_neg he, Nat.add_sub_cancel]
theorem btB_ok {a b : Bx} (ha : bOK a) (hb : bOK b) {n of : Int} (h0 : 0 ≤ n) (h1 : n ≤ of) (hof : 0 < of) : bOK (btB a b n of) :=
  ⟨(btw_ok ha.1 hb.1 h0 h1 hof).2, (btw_ok ha.2.1 hb.2.1 h0 h1 hof).2, (btw_ok ha.2.2 hb.2.2 h0 h1 hof).2⟩
theorem at_ok {l : List Ly} (ok : PfOK l) {h : Int} (h0 : (l.getD 0 ly0).1 ≤ h) (h1 : h ≤ (l.getD (l.length - 1) ly0).1) : bOK (atP l h).1 ∧ (atP l h).2 = true := by
  rcases at_mid ok h0 h1 with ⟨i, hi, _, e⟩ | ⟨i, hi, a1, a2, e⟩
  · rw [e]; exact ⟨ok.w i hi, rfl⟩
  · rw [e]; exact ⟨btB_ok (ok.w i (by omega)) (ok.w (i + 1) hi) (by omega) (by omega) (by omega), rfl⟩
/-- A range that lies in the smallest one that contains two others. -/
def lies (r a b : R2) : Prop := min a.1 b.1 ≤ r.1 ∧ r.1 ≤ r.2 ∧ r.2 ≤ max a.2 b.2
theorem lies_l {a b : R2} (ha : rOK a) : lies a a b := ⟨Int.min_le_left _ _, ha.2.1, Int.le_max_left _ _⟩
theorem lies_r {a b : R2} (hb : rOK b) : lies b a b := ⟨Int.min_le_right _ _, hb.2.1, Int.le_max_right _ _⟩
def liesB (r a b : Bx) : Prop := lies r.1 a.1 b.1 ∧ lies r.2.1 a.2.1 b.2.1 ∧ lies r.2.2 a.2.2 b.2.2
theorem at_between {l : List Ly} (ok : PfOK l) {h : Int} {i : Nat} (hi : i + 1 < l.length) (h0 : (l.getD i ly0).1 ≤ h) (h1 : h ≤ (l.getD (i + 1) ly0).1) : liesB (atP l h).1 (l.getD i ly0).2 (l.getD (i + 1) ly0).2 := by
  have w0 := ok.w i (by omega)
  have w1 := ok.w (i + 1) hi
  rcases Int.lt_or_eq_of_le h0 with h2 | h2
  · rcases Int.lt_or_eq_of_le h1 with h3 | h3
    · have e : fstI l h = some (i + 1) := fstI_some hi (by omega) fun j hj => by
        rcases Nat.lt_or_ge j i with h4 | h4
        · have := ok.mono h4 (show i < l.length by omega); omega
        · have : j = i := by omega
          subst this; exact h2
      unfold atP
      rw [e]
      simp only
      rw [if_neg (fun hh => by cases hh.1), if_neg (by omega), Nat.add_sub_cancel]
      exact ⟨(btw_ok w0.1 w1.1 (by omega) (by omega) (by omega)).1, (btw_ok w0.2.1 w1.2.1 (by omega) (by omega) (by omega)).1, (btw_ok w0.2.2 w1.2.2 (by omega) (by omega) (by omega)).1⟩
    · rw [h3, at_layer ok hi]
      exact ⟨lies_r w1.1, lies_r w1.2.1, lies_r w1.2.2⟩
  · rw [← h2, at_layer ok (by omega)]
    exact ⟨lies_l w0.1, lies_l w0.2.1, lies_l w0.2.2⟩
theorem pf_range {l : List Ly} (ok : PfOK l) : 0 ≤ (l.getD 0 ly0).1 ∧ (l.getD 0 ly0).1 ≤ (l.getD (l.length - 1) ly0).1 ∧ (l.getD (l.length - 1) ly0).1 ≤ 20000 := by
  have hp := ok.pos
  refine ⟨(ok.h 0 hp).1, ?_, (ok.h _ (by omega)).2⟩
  rcases Nat.eq_zero_or_pos (l.length - 1) with h | h
  · rw [h]; exact Int.le_refl _
  · have := ok.mono h (show l.length - 1 < l.length by omega); omega
theorem chgIn_ok {l : List Ly} (h : (pfOf l).2 = 0) {p q : Int} (h0 : (l.getD 0 ly0).1 ≤ p) (hpq : p ≤ q) (h1 : q ≤ (l.getD (l.length - 1) ly0).1) : chgIn l (p, q) = (chg (atP l p).1 (atP l q).1, 0) := by
  have ok := pfOf_ok h
  have hr := pf_range ok
  have e : chgE l (p, q) = 0 := by
    rw [chgE, h, frst_cons, if_pos rfl, show hE p = 0 from if_pos ⟨by omega, by omega⟩, frst_cons, if_pos rfl, show hE q = 0 from if_pos ⟨by omega, by omega⟩, frst_cons, if_pos rfl, if_pos hpq]; rfl
  rw [chgIn, if_neg (fun hh => hh e), if_neg (by rw [(at_ok ok h0 (by omega)).2]; simp), if_neg (by rw [(at_ok ok (by omega) h1).2]; simp)]
theorem windAt_ok {l : List Ly} (h : (pfOf l).2 = 0) {p : Int} (h0 : (l.getD 0 ly0).1 ≤ p) (h1 : p ≤ (l.getD (l.length - 1) ly0).1) : windAt l p = ((atP l p).1, 0) := by
  have ok := pfOf_ok h
  have hr := pf_range ok
  rw [windAt, if_neg (fun hh => hh h), if_neg (fun hh => hh (if_pos ⟨by omega, by omega⟩)), if_neg (by rw [(at_ok ok h0 h1).2]; simp)]
end Go.Pi
end

section
namespace Go.Proofs.Ytglijnhkdnhofaa
open Go Go.Pi Go.RowKit
set_option maxRecDepth 100000
set_option linter.unusedVariables false
set_option linter.unusedSimpArgs false

def f86 (l : List (Int × (Int × Int) × (Int × Int) × Int × Int)) : Int × Int := pfOf l
def f86_e : Entry := { doms := [(false, (.sl (.pair (.int .i64) (.pair (.pair (.int .i64) (.int .i64)) (.pair (.pair (.int .i64) (.int .i64)) (.pair (.int .i64) (.int .i64)))))))], cods := [(false, (.int .i64)), (false, (.int .i64))], pre := fun _ => True, fn := f86, uq := false, total := true }
def f86_E : Env := [(35, f35_e), (114, f114_e), (115, f115_e)]
def f86_A : Anns := { loops := [(1048576, { tms := [(0, .keep), (4, .data false (.int .i64))], obs := [], fz := [] })], own := [], unroll := 4 }
theorem f86_run (a0 : List (Int × (Int × Int) × (Int × Int) × Int × Int)) (K : (Int × Int) → Prop) : runF Try.prog f86_E f86_A 6 Try.f86 f86_e.doms f86_e.cods a0 K =
    (br (lenOk (a0.length))
    (br (((a0.length) : Int) == 0)
    (K (0, 10))
    (br (lenOk (a0.length))
    (br (decide (((a0.length) : Int) > 12))
    (K (0, 8))
    (LoopP (V := Int × Unit) (fun again v => (fun (again1 : Int → Prop) (v1_0 : Int) =>
    br (lenOk (a0.length))
    (br (decide (v1_0 < ((a0.length) : Int)))
    (br (decide (0 ≤ v1_0) && decide (v1_0 < ((a0.length) : Int)))
    (br ((f114 ((a0.getD v1_0.toNat (0, ((0, 0), ((0, 0), (0, 0))))).1)) != 0)
    (K (v1_0, (f114 ((a0.getD v1_0.toNat (0, ((0, 0), ((0, 0), (0, 0))))).1))))
    (br (decide (0 ≤ v1_0) && decide (v1_0 < ((a0.length) : Int)))
    (br (!(f35 (((f115 ((((a0.getD v1_0.toNat (0, ((0, 0), ((0, 0), (0, 0))))).2).1), (((((a0.getD v1_0.toNat (0, ((0, 0), ((0, 0), (0, 0))))).2).2).1), ((((a0.getD v1_0.toNat (0, ((0, 0), ((0, 0), (0, 0))))).2).2).2)))).1).1, ((-100000), 100000))))
    (K (v1_0, 2))
    (br (!(f35 (((f115 ((((a0.getD v1_0.toNat (0, ((0, 0), ((0, 0), (0, 0))))).2).1), (((((a0.getD v1_0.toNat (0, ((0, 0), ((0, 0), (0, 0))))).2).2).1), ((((a0.getD v1_0.toNat (0, ((0, 0), ((0, 0), (0, 0))))).2).2).2)))).1).2, ((-100000), 100000))))
    (K (v1_0, 2))
    (br (decide (((f115 ((((a0.getD v1_0.toNat (0, ((0, 0), ((0, 0), (0, 0))))).2).1), (((((a0.getD v1_0.toNat (0, ((0, 0), ((0, 0), (0, 0))))).2).2).1), ((((a0.getD v1_0.toNat (0, ((0, 0), ((0, 0), (0, 0))))).2).2).2)))).1).1 > ((f115 ((((a0.getD v1_0.toNat (0, ((0, 0), ((0, 0), (0, 0))))).2).1), (((((a0.getD v1_0.toNat (0, ((0, 0), ((0, 0), (0, 0))))).2).2).1), ((((a0.getD v1_0.toNat (0, ((0, 0), ((0, 0), (0, 0))))).2).2).2)))).1).2))
    (K (v1_0, 9))
    (br (!(f35 ((((f115 ((((a0.getD v1_0.toNat (0, ((0, 0), ((0, 0), (0, 0))))).2).1), (((((a0.getD v1_0.toNat (0, ((0, 0), ((0, 0), (0, 0))))).2).2).1), ((((a0.getD v1_0.toNat (0, ((0, 0), ((0, 0), (0, 0))))).2).2).2)))).2).1).1, ((-100000), 100000))))
    (K (v1_0, 2))
    (br (!(f35 ((((f115 ((((a0.getD v1_0.toNat (0, ((0, 0), ((0, 0), (0, 0))))).2).1), (((((a0.getD v1_0.toNat (0, ((0, 0), ((0, 0), (0, 0))))).2).2).1), ((((a0.getD v1_0.toNat (0, ((0, 0), ((0, 0), (0, 0))))).2).2).2)))).2).1).2, ((-100000), 100000))))
    (K (v1_0, 2))
    (br (decide ((((f115 ((((a0.getD v1_0.toNat (0, ((0, 0), ((0, 0), (0, 0))))).2).1), (((((a0.getD v1_0.toNat (0, ((0, 0), ((0, 0), (0, 0))))).2).2).1), ((((a0.getD v1_0.toNat (0, ((0, 0), ((0, 0), (0, 0))))).2).2).2)))).2).1).1 > (((f115 ((((a0.getD v1_0.toNat (0, ((0, 0), ((0, 0), (0, 0))))).2).1), (((((a0.getD v1_0.toNat (0, ((0, 0), ((0, 0), (0, 0))))).2).2).1), ((((a0.getD v1_0.toNat (0, ((0, 0), ((0, 0), (0, 0))))).2).2).2)))).2).1).2))
    (K (v1_0, 9))
    (br (!(f35 ((((f115 ((((a0.getD v1_0.toNat (0, ((0, 0), ((0, 0), (0, 0))))).2).1), (((((a0.getD v1_0.toNat (0, ((0, 0), ((0, 0), (0, 0))))).2).2).1), ((((a0.getD v1_0.toNat (0, ((0, 0), ((0, 0), (0, 0))))).2).2).2)))).2).2).1, ((-100000), 100000))))
    (K (v1_0, 2))
    (br (!(f35 ((((f115 ((((a0.getD v1_0.toNat (0, ((0, 0), ((0, 0), (0, 0))))).2).1), (((((a0.getD v1_0.toNat (0, ((0, 0), ((0, 0), (0, 0))))).2).2).1), ((((a0.getD v1_0.toNat (0, ((0, 0), ((0, 0), (0, 0))))).2).2).2)))).2).2).2, ((-100000), 100000))))
    (K (v1_0, 2))
    (br (decide ((((f115 ((((a0.getD v1_0.toNat (0, ((0, 0), ((0, 0), (0, 0))))).2).1), (((((a0.getD v1_0.toNat (0, ((0, 0), ((0, 0), (0, 0))))).2).2).1), ((((a0.getD v1_0.toNat (0, ((0, 0), ((0, 0), (0, 0))))).2).2).2)))).2).2).1 > (((f115 ((((a0.getD v1_0.toNat (0, ((0, 0), ((0, 0), (0, 0))))).2).1), (((((a0.getD v1_0.toNat (0, ((0, 0), ((0, 0), (0, 0))))).2).2).1), ((((a0.getD v1_0.toNat (0, ((0, 0), ((0, 0), (0, 0))))).2).2).2)))).2).2).2))
    (K (v1_0, 9))
    (br (decide (v1_0 > 0))
    (br (decide (0 ≤ v1_0) && decide (v1_0 < ((a0.length) : Int)))
    (br (decide (0 ≤ (IntKind.i64.wrap (v1_0 - 1))) && decide ((IntKind.i64.wrap (v1_0 - 1)) < ((a0.length) : Int)))
    (br (decide ((a0.getD v1_0.toNat (0, ((0, 0), ((0, 0), (0, 0))))).1 ≤ (a0.getD ((IntKind.i64.wrap (v1_0 - 1)).toNat) (0, ((0, 0), ((0, 0), (0, 0))))).1))
    (K (v1_0, 9))
    (again1 (IntKind.i64.wrap (v1_0 + 1))))
    False)
    False)
    (again1 (IntKind.i64.wrap (v1_0 + 1)))))))))))))
    False))
    False)
    (K (0, 0)))
    True)
    (fun v1_0 => again (v1_0, ())) v.1) (0, ())))
    True))
    True) := by kernel_rfl
theorem f86_t (a0 : List (Int × (Int × Int) × (Int × Int) × Int × Int)) (K : (Int × Int) → Prop) (hK : ∀ y : Int × Int, y = f86 a0 → K y) : RunF Try.prog f86_E f86_A 6 Try.f86 f86_e.doms f86_e.cods a0 K := by
  refine ⟨?_⟩
  rw [f86_run a0 K]
  have e35 : ∀ n : Int, f35 (n, -100000, 100000) = decide (-100000 ≤ n ∧ n ≤ 100000) := fun n => by simp [f35]
  rw [br_true_, lenOk_iff]
  intro hl
  have e0 : f86 a0 = pfOf a0 := rfl
  refine br_two (fun h => hK _ ?_) fun h => br_weak (br_if (fun h2 => hK _ ?_) fun h2 => ?_)
  · have h : a0.length = 0 := by have := beq_iff_eq.1 h; omega
    rw [e0, pfOf, if_pos h]
  · have h : ¬ a0.length = 0 := by have := beq_eq_false_iff_ne.1 h; omega
    rw [e0, pfOf, if_neg h, if_pos (by omega)]
  have h0 : ¬ a0.length = 0 := by have := beq_eq_false_iff_ne.1 h; omega
  have h1 : ¬ a0.length > 12 := by omega
  refine each_loop (K := K) (n := a0.length) (e := lyE a0) (hK _ (by rw [e0, pfOf, if_neg h0, if_neg h1])) (fun again i hi hI good bad fin => ?_)
  dsimp only
  refine br_weak (br_if (fun hlt => ?_) fun hlt => fin (by omega))
  have b0 := inb (show 0 ≤ (i : Int) by omega) hlt
  have hlt : i < a0.length := by omega
  rw [wr (n := (i : Int) + 1) (by omega) (by omega), wr (n := (i : Int) - 1) (by omega) (by omega), Int.toNat_natCast]
  have e114 : f114 (a0.getD i ly0).1 = hE (a0.getD i ly0).1 := rfl
  have bad2 : ∀ n : Int, n ≠ 0 → lyE a0 i = n → K ((i : Int), n) := fun n hn e => by
    have := bad hlt (by rw [e]; exact hn)
    rwa [e] at this
  have r2 : ∀ r : Int × Int, ¬ (-100000 ≤ r.1 ∧ r.1 ≤ 100000) → rngE r 100000 = 2 := fun r h => by rw [rngE, if_pos (fun hh => h hh.1)]
  have r2' : ∀ r : Int × Int, ¬ (-100000 ≤ r.2 ∧ r.2 ≤ 100000) → rngE r 100000 = 2 := fun r h => by rw [rngE, if_pos (fun hh => h hh.2)]
  have r9 : ∀ r : Int × Int, (-100000 ≤ r.1 ∧ r.1 ≤ 100000) → (-100000 ≤ r.2 ∧ r.2 ≤ 100000) → r.1 > r.2 → rngE r 100000 = 9 := fun r h h' h2 => by rw [rngE, if_neg (fun hh => hh ⟨h, h'⟩), if_neg (by omega)]
  have r0 : ∀ r : Int × Int, (-100000 ≤ r.1 ∧ r.1 ≤ 100000) → (-100000 ≤ r.2 ∧ r.2 ≤ 100000) → ¬ r.1 > r.2 → rngE r 100000 = 0 := fun r h h' h2 => by rw [rngE, if_neg (fun hh => hh ⟨h, h'⟩), if_pos (by omega)]
  have el : lyE a0 i = frst [hE (a0.getD i ly0).1, rngE (a0.getD i ly0).2.1 100000, rngE (a0.getD i ly0).2.2.1 100000, rngE (a0.getD i ly0).2.2.2 100000, ordE a0 i] := rfl
  have ez : ∀ l : List Int, frst (0 :: l) = frst l := fun l => by rw [frst_cons, if_pos rfl]
  have en : ∀ (n : Int) (l : List Int), n ≠ 0 → frst (n :: l) = n := fun n l h => by rw [frst_cons, if_neg h]
  have dx : ((0 : Int), ((0 : Int), (0 : Int)), ((0 : Int), (0 : Int)), ((0 : Int), (0 : Int))) = ly0 := rfl
  simp only [dx, e35]
  have o115 : ∀ b : Bx, f115 b = b := fun b => rfl
  simp only [o115]
  rw [e114]
  refine br_must b0 (br_two (fun hh => bad2 _ (bne_t.1 hh) (by rw [el, en _ _ (bne_t.1 hh)])) fun hh => ?_)
  have hh := bne_f.1 hh
  rw [hh, ez] at el
  refine br_must b0 (br_two (fun q => bad2 2 (by decide) (by rw [el, r2 _ (nd_t.1 q), en _ _ (by decide)])) fun x1 => br_two (fun q => bad2 2 (by decide) (by rw [el, r2' _ (nd_t.1 q), en _ _ (by decide)])) fun x2 => br_if (fun q => bad2 9 (by decide) (by rw [el, r9 _ (nd_f.1 x1) (nd_f.1 x2) q, en _ _ (by decide)])) fun x3 => ?_)
  rw [r0 _ (nd_f.1 x1) (nd_f.1 x2) x3, ez] at el
  refine br_two (fun q => bad2 2 (by decide) (by rw [el, r2 _ (nd_t.1 q), en _ _ (by decide)])) fun x1 => br_two (fun q => bad2 2 (by decide) (by rw [el, r2' _ (nd_t.1 q), en _ _ (by decide)])) fun x2 => br_if (fun q => bad2 9 (by decide) (by rw [el, r9 _ (nd_f.1 x1) (nd_f.1 x2) q, en _ _ (by decide)])) fun x3 => ?_
  rw [r0 _ (nd_f.1 x1) (nd_f.1 x2) x3, ez] at el
  refine br_two (fun q => bad2 2 (by decide) (by rw [el, r2 _ (nd_t.1 q), en _ _ (by decide)])) fun x1 => br_two (fun q => bad2 2 (by decide) (by rw [el, r2' _ (nd_t.1 q), en _ _ (by decide)])) fun x2 => br_if (fun q => bad2 9 (by decide) (by rw [el, r9 _ (nd_f.1 x1) (nd_f.1 x2) q, en _ _ (by decide)])) fun x3 => ?_
  rw [r0 _ (nd_f.1 x1) (nd_f.1 x2) x3, ez] at el
  refine br_if (fun hp => br_must b0 ?_) fun hp => good hlt ?_
  · rw [show ((i : Int) - 1).toNat = i - 1 by omega]
    refine br_must (inb (by omega) (by omega)) (br_if (fun q => bad2 9 (by decide) ?_) fun q => good hlt ?_)
    · rw [el, ordE, if_neg (by omega)]; rfl
    · rw [el, ordE, if_pos (.inr (by omega))]; rfl
  · rw [el, ordE, if_pos (.inl (by omega))]; rfl
theorem f86_fn : f86_e.fn = f86 := rfl
theorem f86_ok : EntryOK Try.prog 86 f86_e := by
  refine entryF progOK (EnvOK.cons f35_ok (EnvOK.cons f114_ok (EnvOK.cons f115_ok (EnvOK.nil)))) (A := f86_A) (d := 6) Try.func86 rfl rfl rfl rfl (fun _ _ => trivial) fun x hpre => ?_
  exact f86_t x _ fun _ h => h.trans (congrFun f86_fn.symm _)
end Go.Proofs.Ytglijnhkdnhofaa
end

section
namespace Go.Proofs.Ytglijnhkdnhofaa
open Go Go.Pi Go.RowKit
set_option maxRecDepth 100000
set_option linter.unusedVariables false
set_option linter.unusedSimpArgs false

def f38 (l : List (Int × (Int × Int) × (Int × Int) × Int × Int)) : Int := (pfOf l).2
def f38_e : Entry := { doms := [(false, (.sl (.pair (.int .i64) (.pair (.pair (.int .i64) (.int .i64)) (.pair (.pair (.int .i64) (.int .i64)) (.pair (.int .i64) (.int .i64)))))))], cods := [(false, (.int .i64))], pre := fun _ => True, fn := f38, uq := false, total := true }
def f38_E : Env := [(86, f86_e)]
def f38_A : Anns := { loops := [], own := [] }
theorem f38_run (a0 : List (Int × (Int × Int) × (Int × Int) × Int × Int)) (K : Int → Prop) : runF Try.prog f38_E f38_A 6 Try.f38 f38_e.doms f38_e.cods a0 K =
    (K ((f86 a0).2)) := by kernel_rfl
theorem f38_t (a0 : List (Int × (Int × Int) × (Int × Int) × Int × Int)) (K : Int → Prop) (hK : ∀ y : Int, y = f38 a0 → K y) : RunF Try.prog f38_E f38_A 6 Try.f38 f38_e.doms f38_e.cods a0 K := by
  refine ⟨?_⟩
  rw [f38_run a0 K]
  exact hK _ rfl
theorem f38_fn : f38_e.fn = f38 := rfl
theorem f38_ok : EntryOK Try.prog 38 f38_e := by
  refine entryF progOK (EnvOK.cons f86_ok (EnvOK.nil)) (A := f38_A) (d := 6) Try.func38 rfl rfl rfl rfl (fun _ _ => trivial) fun x hpre => ?_
  exact f38_t x _ fun _ h => h.trans (congrFun f38_fn.symm _)
end Go.Proofs.Ytglijnhkdnhofaa
end

section
namespace Go.Proofs.Ytglijnhkdnhofaa
open Go Go.Pi Go.RowKit
set_option maxRecDepth 100000
set_option linter.unusedVariables false
set_option linter.unusedSimpArgs false

def f88 (n : Int) : Int := if 0 ≤ n ∧ n ≤ 20000 then 0 else 2
def f88_e : Entry := { doms := [(false, (.int .i64))], cods := [(false, (.int .i64))], pre := fun _ => True, fn := f88, uq := false, total := true }
def f88_E : Env := [(60, f60_e), (61, f61_e)]
def f88_A : Anns := { loops := [], own := [] }
theorem f88_run (a0 : Int) (K : Int → Prop) : runF Try.prog f88_E f88_A 6 Try.f88 f88_e.doms f88_e.cods a0 K =
    (K (f60 ((f61 (a0, (0, 20000))), 2))) := by kernel_rfl
theorem f88_t (a0 : Int) (K : Int → Prop) (hK : ∀ y : Int, y = f88 a0 → K y) : RunF Try.prog f88_E f88_A 6 Try.f88 f88_e.doms f88_e.cods a0 K := by
  refine ⟨?_⟩
  rw [f88_run a0 K]
  refine hK _ ?_
  rw [f61_eq, f88, f60]
  by_cases h : 0 ≤ a0 ∧ a0 ≤ 20000 <;> simp [h]
theorem f88_fn : f88_e.fn = f88 := rfl
theorem f88_ok : EntryOK Try.prog 88 f88_e := by
  refine entryF progOK (EnvOK.cons f60_ok (EnvOK.cons f61_ok (EnvOK.nil))) (A := f88_A) (d := 6) Try.func88 rfl rfl rfl rfl (fun _ _ => trivial) fun x hpre => ?_
  exact f88_t x _ fun _ h => h.trans (congrFun f88_fn.symm _)
end Go.Proofs.Ytglijnhkdnhofaa
end

section
namespace Go.Proofs.Ytglijnhkdnhofaa
open Go Go.Pi Go.RowKit
set_option maxRecDepth 100000
set_option linter.unusedVariables false
set_option linter.unusedSimpArgs false

def f87 (l : List (Int × (Int × Int) × (Int × Int) × Int × Int)) : Int × Int := pfOf l
theorem f58_w (r : Int × Int) : f58 (r, 100000) = rngE r 100000 := by
  unfold f58 rngE
  simp only [f97_eq (show (0 : Int) ≤ 100000 by omega) (show (100000 : Int) ≤ 9223372036854775807 by omega), decide_eq_true_eq]
def f87_e : Entry := { doms := [(false, (.sl (.pair (.int .i64) (.pair (.pair (.int .i64) (.int .i64)) (.pair (.pair (.int .i64) (.int .i64)) (.pair (.int .i64) (.int .i64)))))))], cods := [(false, (.int .i64)), (false, (.int .i64))], pre := fun _ => True, fn := f87, uq := false, total := true }
def f87_E : Env := [(58, f58_e), (59, f59_e), (60, f60_e), (88, f88_e)]
def f87_A : Anns := { loops := [(1100587466752, { tms := [(2, .keep), (26, .keep), (27, .keep), (28, .data false (.int .i64))], obs := [(1048576, .keep)], fz := [] })], own := [] }
theorem f87_run (a0 : List (Int × (Int × Int) × (Int × Int) × Int × Int)) (K : (Int × Int) → Prop) : runF Try.prog f87_E f87_A 6 Try.f87 f87_e.doms f87_e.cods a0 K =
    (br (lenOk (a0.length))
    (br (lenOk (a0.length))
    (br ((f59 ([(f60 ((decide (((a0.length) : Int) > 0)), 10)), (f60 ((decide (((a0.length) : Int) ≤ 12)), 8))] : List Int)) != 0)
    (K (0, (f59 ([(f60 ((decide (((a0.length) : Int) > 0)), 10)), (f60 ((decide (((a0.length) : Int) ≤ 12)), 8))] : List Int))))
    (br (lenOk (a0.length))
    (LoopP (V := Int × Unit) (fun again v => (fun (again1 : Int → Prop) (v1_0 : Int) =>
    br (decide (v1_0 < ((a0.length) : Int)))
    (br (decide (0 ≤ v1_0) && decide (v1_0 < ((a0.length) : Int)))
    (br (v1_0 == 0)
    (br ((f59 ([(f88 ((a0.getD v1_0.toNat (0, ((0, 0), ((0, 0), (0, 0))))).1)), (f58 ((((a0.getD v1_0.toNat (0, ((0, 0), ((0, 0), (0, 0))))).2).1), 100000)), (f58 (((((a0.getD v1_0.toNat (0, ((0, 0), ((0, 0), (0, 0))))).2).2).1), 100000)), (f58 (((((a0.getD v1_0.toNat (0, ((0, 0), ((0, 0), (0, 0))))).2).2).2), 100000)), (f60 (true, 9))] : List Int)) != 0)
    (K (v1_0, (f59 ([(f88 ((a0.getD v1_0.toNat (0, ((0, 0), ((0, 0), (0, 0))))).1)), (f58 ((((a0.getD v1_0.toNat (0, ((0, 0), ((0, 0), (0, 0))))).2).1), 100000)), (f58 (((((a0.getD v1_0.toNat (0, ((0, 0), ((0, 0), (0, 0))))).2).2).1), 100000)), (f58 (((((a0.getD v1_0.toNat (0, ((0, 0), ((0, 0), (0, 0))))).2).2).2), 100000)), (f60 (true, 9))] : List Int))))
    (again1 (IntKind.i64.wrap (v1_0 + 1))))
    (br (decide (0 ≤ (minmax true 0 (IntKind.i64.wrap (v1_0 - 1)))) && decide ((minmax true 0 (IntKind.i64.wrap (v1_0 - 1))) < ((a0.length) : Int)))
    (br ((f59 ([(f88 ((a0.getD v1_0.toNat (0, ((0, 0), ((0, 0), (0, 0))))).1)), (f58 ((((a0.getD v1_0.toNat (0, ((0, 0), ((0, 0), (0, 0))))).2).1), 100000)), (f58 (((((a0.getD v1_0.toNat (0, ((0, 0), ((0, 0), (0, 0))))).2).2).1), 100000)), (f58 (((((a0.getD v1_0.toNat (0, ((0, 0), ((0, 0), (0, 0))))).2).2).2), 100000)), (f60 ((decide ((a0.getD v1_0.toNat (0, ((0, 0), ((0, 0), (0, 0))))).1 > (a0.getD ((minmax true 0 (IntKind.i64.wrap (v1_0 - 1))).toNat) (0, ((0, 0), ((0, 0), (0, 0))))).1)), 9))] : List Int)) != 0)
    (K (v1_0, (f59 ([(f88 ((a0.getD v1_0.toNat (0, ((0, 0), ((0, 0), (0, 0))))).1)), (f58 ((((a0.getD v1_0.toNat (0, ((0, 0), ((0, 0), (0, 0))))).2).1), 100000)), (f58 (((((a0.getD v1_0.toNat (0, ((0, 0), ((0, 0), (0, 0))))).2).2).1), 100000)), (f58 (((((a0.getD v1_0.toNat (0, ((0, 0), ((0, 0), (0, 0))))).2).2).2), 100000)), (f60 ((decide ((a0.getD v1_0.toNat (0, ((0, 0), ((0, 0), (0, 0))))).1 > (a0.getD ((minmax true 0 (IntKind.i64.wrap (v1_0 - 1))).toNat) (0, ((0, 0), ((0, 0), (0, 0))))).1)), 9))] : List Int))))
    (again1 (IntKind.i64.wrap (v1_0 + 1))))
    False))
    False)
    (K (0, 0)))
    (fun v1_0 => again (v1_0, ())) v.1) (0, ()))
    True))
    True)
    True) := by kernel_rfl
theorem f87_t (a0 : List (Int × (Int × Int) × (Int × Int) × Int × Int)) (K : (Int × Int) → Prop) (hK : ∀ y : Int × Int, y = f87 a0 → K y) : RunF Try.prog f87_E f87_A 6 Try.f87 f87_e.doms f87_e.cods a0 K := by
  refine ⟨?_⟩
  rw [f87_run a0 K]
  rw [br_true_, lenOk_iff]
  intro hl
  refine br_weak ?_
  have e59 : ∀ l : List Int, f59 l = frst l := fun l => rfl
  have ec : f59 [f60 (decide ((a0.length : Int) > 0), 10), f60 (decide ((a0.length : Int) ≤ 12), 8)] = if a0.length = 0 then 10 else if a0.length > 12 then 8 else 0 := by
    rw [f59_cons, f59_cons, f59_nil]
    by_cases h0 : a0.length = 0
    · simp [f60, h0]
    · by_cases h1 : a0.length > 12
      · simp only [f60, if_neg h0, if_pos h1]
        rw [decide_eq_true (by omega), decide_eq_false (by omega)]; rfl
      · simp only [f60, if_neg h0, if_neg h1]
        rw [decide_eq_true (by omega), decide_eq_true (by omega)]; rfl
  rw [ec]
  have e0 : f87 a0 = pfOf a0 := rfl
  refine br_two (fun h => hK _ ?_) fun h => br_weak ?_
  · have h := bne_t.1 h
    rw [e0, pfOf]
    by_cases h0 : a0.length = 0
    · rw [if_pos h0, if_pos h0]
    · by_cases h1 : a0.length > 12
      · rw [if_neg h0, if_pos h1, if_neg h0, if_pos h1]
      · rw [if_neg h0, if_neg h1] at h; exact absurd rfl h
  have h := bne_f.1 h
  have h0 : ¬ a0.length = 0 := fun h0 => by rw [if_pos h0] at h; cases h
  have h1 : ¬ a0.length > 12 := fun h1 => by rw [if_neg h0, if_pos h1] at h; cases h
  refine each_loop (K := K) (n := a0.length) (e := lyE a0) (hK _ (by rw [e0, pfOf, if_neg h0, if_neg h1])) (fun again i hi hI good bad fin => ?_)
  dsimp only
  refine br_if (fun hlt => br_must (inb (by omega) hlt) ?_) fun hlt => fin (by omega)
  have hlt : i < a0.length := by omega
  rw [wr (n := (i : Int) + 1) (by omega) (by omega), wr (n := (i : Int) - 1) (by omega) (by omega), Int.toNat_natCast]
  have go : ∀ e : Int, e = lyE a0 i → br (e != 0) (K ((i : Int), e)) (again ((i : Int) + 1, ())) := fun e he => by
    subst he
    exact br_two (fun he => bad hlt (bne_t.1 he)) fun he => good hlt (bne_f.1 he)
  refine br_two (fun hz => go _ ?_) fun hz => br_must ?_ (go _ ?_)
  · have hz : i = 0 := by have := beq_iff_eq.1 hz; omega
    rw [e59, f58_w, f58_w, f58_w, lyE, ordE, if_pos (.inl hz)]
    rfl
  · have hz : i ≠ 0 := by have := beq_eq_false_iff_ne.1 hz; omega
    have e : minmax true 0 ((i : Int) - 1) = (i : Int) - 1 := by simp only [minmax]; split <;> omega
    rw [e]
    exact inb (by omega) (by omega)
  · have hz : i ≠ 0 := by have := beq_eq_false_iff_ne.1 hz; omega
    have e : minmax true 0 ((i : Int) - 1) = (i : Int) - 1 := by simp only [minmax]; split <;> omega
    rw [e, show ((i : Int) - 1).toNat = i - 1 by omega, e59, f58_w, f58_w, f58_w, lyE, ordE]
    by_cases ho : (a0.getD (i - 1) ly0).1 < (a0.getD i ly0).1
    · rw [if_pos (.inr ho), show decide ((a0.getD i (0, (0, 0), (0, 0), (0, 0))).1 > (a0.getD (i - 1) (0, (0, 0), (0, 0), (0, 0))).1) = true from decide_eq_true ho]
      rfl
    · rw [if_neg (fun hh => hh.elim hz ho), show decide ((a0.getD i (0, (0, 0), (0, 0), (0, 0))).1 > (a0.getD (i - 1) (0, (0, 0), (0, 0), (0, 0))).1) = false from decide_eq_false ho]
      rfl
theorem f87_fn : f87_e.fn = f87 := rfl
theorem f87_ok : EntryOK Try.prog 87 f87_e := by
  refine entryF progOK (EnvOK.cons f58_ok (EnvOK.cons f59_ok (EnvOK.cons f60_ok (EnvOK.cons f88_ok (EnvOK.nil))))) (A := f87_A) (d := 6) Try.func87 rfl rfl rfl rfl (fun _ _ => trivial) fun x hpre => ?_
  exact f87_t x _ fun _ h => h.trans (congrFun f87_fn.symm _)
end Go.Proofs.Ytglijnhkdnhofaa
end

section
namespace Go.Proofs.Ytglijnhkdnhofaa
open Go Go.Pi Go.RowKit
set_option maxRecDepth 100000
set_option linter.unusedVariables false
set_option linter.unusedSimpArgs false

def f120 (x : (Int × Int) × (Int × Int) × Int × Int) : Int × Int := btw x.1 x.2.1 x.2.2.1 x.2.2.2
def f120_pre (x : (Int × Int) × (Int × Int) × Int × Int) : Prop := rOK x.1 ∧ rOK x.2.1 ∧ 0 ≤ x.2.2.1 ∧ x.2.2.1 ≤ x.2.2.2 ∧ 0 < x.2.2.2 ∧ x.2.2.2 ≤ 20000
def f120_e : Entry := { doms := [(true, (.pair (.int .i64) (.int .i64))), (true, (.pair (.int .i64) (.int .i64))), (false, (.int .i64)), (false, (.int .i64))], cods := [(true, (.pair (.int .i64) (.int .i64)))], pre := f120_pre, fn := f120, uq := false, total := false }
def f120_E : Env := [(106, f106_e), (107, f107_e)]
def f120_A : Anns := { loops := [], own := [] }
theorem f120_run (a0 : Int × Int) (a1 : Int × Int) (a2 : Int) (a3 : Int) (K : (Int × Int) → Prop) : runF Try.prog f120_E f120_A 6 Try.f120 f120_e.doms f120_e.cods (a0, a1, a2, a3) K =
    (f106_pre ((IntKind.i64.wrap ((IntKind.i64.wrap (a1.1 - a0.1)) * a2)), a3) ∧
    f107_pre ((IntKind.i64.wrap ((IntKind.i64.wrap (a1.2 - a0.2)) * a2)), a3) ∧
    K ((IntKind.i64.wrap (a0.1 + (f106 ((IntKind.i64.wrap ((IntKind.i64.wrap (a1.1 - a0.1)) * a2)), a3)))), (IntKind.i64.wrap (a0.2 + (f107 ((IntKind.i64.wrap ((IntKind.i64.wrap (a1.2 - a0.2)) * a2)), a3)))))) := by kernel_rfl
theorem f120_t (a0 : Int × Int) (a1 : Int × Int) (a2 : Int) (a3 : Int) (hpre : f120_pre (a0, a1, a2, a3)) (K : (Int × Int) → Prop) (hK : ∀ y : Int × Int, y = f120 (a0, a1, a2, a3) → K y) : RunF Try.prog f120_E f120_A 6 Try.f120 f120_e.doms f120_e.cods (a0, a1, a2, a3) K := by
  refine ⟨?_⟩
  rw [f120_run a0 a1 a2 a3 K]
  obtain ⟨ha, hb, h0, h1, h2, h3⟩ := hpre
  dsimp only at ha hb h0 h1 h2 h3
  obtain ⟨_, r1, r2, r3⟩ := btw_ok ha hb h0 h1 h2
  obtain ⟨p1, p2, p3⟩ := ha
  obtain ⟨q1, q2, q3⟩ := hb
  have m1 := mul_le (show -200000 ≤ a1.1 - a0.1 ∧ a1.1 - a0.1 ≤ 200000 by omega) (show -20000 ≤ a2 ∧ a2 ≤ 20000 by omega)
  have m2 := mul_le (show -200000 ≤ a1.2 - a0.2 ∧ a1.2 - a0.2 ≤ 200000 by omega) (show -20000 ≤ a2 ∧ a2 ≤ 20000 by omega)
  rw [wr (n := a1.1 - a0.1) (by omega) (by omega), wr (n := a1.2 - a0.2) (by omega) (by omega), wr (n := (a1.1 - a0.1) * a2) (by omega) (by omega), wr (n := (a1.2 - a0.2) * a2) (by omega) (by omega)]
  refine ⟨⟨⟨by dsimp only; omega, by dsimp only; omega⟩, h2⟩, ⟨⟨by dsimp only; omega, by dsimp only; omega⟩, h2⟩, hK _ ?_⟩
  have e1 : a0.1 + f106 ((a1.1 - a0.1) * a2, a3) = (btw a0 a1 a2 a3).1 := rfl
  have e2 : a0.2 + f107 ((a1.2 - a0.2) * a2, a3) = (btw a0 a1 a2 a3).2 := rfl
  rw [e1, e2, wr (by omega) (by omega), wr (by omega) (by omega)]
  rfl
theorem f120_fn : f120_e.fn = f120 := rfl
theorem f120_ok : EntryOK Try.prog 120 f120_e := by
  refine entryF progOK (EnvOK.cons f106_ok (EnvOK.cons f107_ok (EnvOK.nil))) (A := f120_A) (d := 6) Try.func120 rfl rfl rfl rfl (fun h => by cases h) fun x hpre => ?_
  obtain ⟨a0, a1, a2, a3⟩ := x
  exact f120_t a0 a1 a2 a3 hpre _ fun _ h => h.trans (congrFun f120_fn.symm _)
end Go.Proofs.Ytglijnhkdnhofaa
end
