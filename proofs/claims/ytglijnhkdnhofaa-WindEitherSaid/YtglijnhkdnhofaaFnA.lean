/- What functions of the program compute, each proved once, part 1. -/
import Derived.Test.YtglijnhkdnhofaaPiD
import Derived.Test.YtglijnhkdnhofaaProg

section
namespace Go.Proofs.Ytglijnhkdnhofaa
set_option linter.unusedVariables false
set_option linter.unusedSimpArgs false
open Go Go.Pi
set_option maxRecDepth 100000
theorem progOK : ProgOK Try.prog := ⟨by kernel_rfl, by kernel_rfl⟩
end Go.Proofs.Ytglijnhkdnhofaa
end

section
namespace Go.Proofs.Ytglijnhkdnhofaa
open Go Go.Pi Go.RowKit
set_option maxRecDepth 100000
set_option linter.unusedVariables false
set_option linter.unusedSimpArgs false

def f59 (l : List Int) : Int := match l.find? (· != 0) with
  | some n => n
  | none => 0
def f59_e : Entry := { doms := [(false, (.sl (.int .i64)))], cods := [(false, (.int .i64))], pre := fun _ => True, fn := f59, uq := false, total := true }
def f59_E : Env := []
def f59_A : Anns := { loops := [(1048576, { tms := [(5, .keep), (6, .keep), (7, .data false (.int .i64))], obs := [], fz := [] })], own := [] }
theorem f59_run (a0 : List Int) (K : Int → Prop) : runF Try.prog f59_E f59_A 6 Try.f59 f59_e.doms f59_e.cods a0 K =
    (br (lenOk (a0.length))
    (LoopP (V := Int × Unit) (fun again v => (fun (again1 : Int → Prop) (v1_0 : Int) =>
    br (decide (v1_0 < ((a0.length) : Int)))
    (br (decide (0 ≤ v1_0) && decide (v1_0 < ((a0.length) : Int)))
    (br ((a0.getD v1_0.toNat 0) != 0)
    (K (a0.getD v1_0.toNat 0))
    (again1 (IntKind.i64.wrap (v1_0 + 1))))
    False)
    (K 0))
    (fun v1_0 => again (v1_0, ())) v.1) (0, ()))
    True) := by kernel_rfl
theorem f59_t (a0 : List Int) (K : Int → Prop) (hK : ∀ y : Int, y = f59 a0 → K y) : RunF Try.prog f59_E f59_A 6 Try.f59 f59_e.doms f59_e.cods a0 K := by
  refine ⟨?_⟩
  rw [f59_run a0 K]
  rw [br_true_, lenOk_iff]
  intro hl
  refine LoopP.up a0.length (fun i _ => ∀ x ∈ a0.take i.toNat, (x != 0) = false) (fun again i v h0 hn hI hag => ?_) (by omega) all_zero
  simp only [br_both, decide_eq_true_eq, decide_eq_false_iff_not, Bool.and_eq_true]
  refine ⟨fun hi => ⟨fun _ => ⟨fun hne => ?_, fun he => ?_⟩, fun hf => ?_⟩, fun hi => ?_⟩
  · exact hK _ (by rw [f59, find_at h0 hi hI hne])
  · rw [wr (by omega) (by omega)]
    exact hag () hi (all_step h0 hi hI he)
  · simp at hf; omega
  · exact hK _ (by rw [f59, find_none (all_done hi hI)])
theorem f59_fn : f59_e.fn = f59 := rfl
theorem f59_ok : EntryOK Try.prog 59 f59_e := by
  refine entryF progOK (EnvOK.nil) (A := f59_A) (d := 6) Try.func59 rfl rfl rfl rfl (fun _ _ => trivial) fun x hpre => ?_
  exact f59_t x _ fun _ h => h.trans (congrFun f59_fn.symm _)
theorem f59_nil : f59 [] = 0 := rfl
theorem f59_cons (a : Int) (l : List Int) : f59 (a :: l) = if a = 0 then f59 l else a := by
  by_cases h : a = 0 <;> simp [f59, h]
end Go.Proofs.Ytglijnhkdnhofaa
end

section
namespace Go.Pi
set_option linter.unusedVariables false
theorem inb {i : Int} {n : Nat} (h0 : 0 ≤ i) (h1 : i < n) : (decide (0 ≤ i) && decide (i < (n : Int))) = true := by
  rw [decide_eq_true h0, decide_eq_true h1]; rfl
theorem not_true {b : Bool} : (!b) = true ↔ b = false := by cases b <;> simp
theorem not_false_ {b : Bool} : (!b) = false ↔ b = true := by cases b <;> simp
theorem cast_ne {a b : Nat} : ((a : Int) != (b : Int)) = true ↔ a ≠ b := by
  rw [bne_iff_ne]; omega
theorem cast_ne_f {a b : Nat} : ((a : Int) != (b : Int)) = false ↔ a = b := by
  rw [bne_eq_false_iff_eq]; omega
theorem cast_eq {a b : Nat} : ((a : Int) == (b : Int)) = true ↔ a = b := by
  rw [beq_iff_eq]; omega
theorem cast_eq_f {a b : Nat} : ((a : Int) == (b : Int)) = false ↔ a ≠ b := by
  rw [beq_eq_false_iff_ne]; omega
/-- The number and the error of the first invalid item. -/
def eachE (n : Nat) (e : Nat → Int) : Int × Int := match (List.range n).find? (fun i => e i != 0) with
  | some i => ((i : Int), e i)
  | none => (0, 0)
theorem eachE_none {n : Nat} {e : Nat → Int} (h : ∀ i, i < n → e i = 0) : eachE n e = (0, 0) := by
  unfold eachE
  rw [List.find?_eq_none.2 fun x hx => by simp [h x (List.mem_range.1 hx)]]
theorem eachE_some {n i : Nat} {e : Nat → Int} (hi : i < n) (h : ∀ j, j < i → e j = 0) (he : e i ≠ 0) : eachE n e = ((i : Int), e i) := by
  unfold eachE
  have : (List.range n).find? (fun i => e i != 0) = some i := by
    rw [List.find?_range_eq_some]
    exact ⟨by simpa using he, List.mem_range.2 hi, fun j hj => by simp [h j hj]⟩
  rw [this]
theorem eachE_zero {n : Nat} {e : Nat → Int} (h : (eachE n e).2 = 0) : ∀ i, i < n → e i = 0 := by
  unfold eachE at h
  split at h
  · rename_i i hf
    have := List.find?_some hf
    simp only [bne_iff_ne, ne_eq] at this
    exact absurd h this
  · rename_i hf
    intro i hi
    have := List.find?_eq_none.1 hf i (List.mem_range.2 hi)
    simpa using this
theorem eachE_congr {n : Nat} {e e' : Nat → Int} (h : ∀ i, i < n → e i = e' i) : eachE n e = eachE n e' := by
  by_cases hz : ∀ i, i < n → e i = 0
  · rw [eachE_none hz, eachE_none fun i hi => (h i hi).symm.trans (hz i hi)]
  · have : ∃ i, i < n ∧ e i ≠ 0 := by
      rcases Classical.em (∃ i, i < n ∧ e i ≠ 0) with h1 | h1
      · exact h1
      · exact absurd (fun i hi => Classical.byContradiction fun hn => h1 ⟨i, hi, hn⟩) hz
    obtain ⟨i, hi, hne, hmin⟩ : ∃ i, i < n ∧ e i ≠ 0 ∧ ∀ j, j < i → e j = 0 := by
      obtain ⟨i, hi, hne⟩ := this
      induction i using Nat.strongRecOn with
      | _ i ih =>
        by_cases hm : ∀ j, j < i → e j = 0
        · exact ⟨i, hi, hne, hm⟩
        · rcases Classical.em (∃ j, j < i ∧ e j ≠ 0) with ⟨j, hj, hj0⟩ | h1
          · exact ih j hj (Nat.lt_trans hj hi) hj0
          · exact absurd (fun j hj => Classical.byContradiction fun hn => h1 ⟨j, hj, hn⟩) hm
    rw [eachE_some hi hmin hne, eachE_some hi (fun j hj => (h j (Nat.lt_trans hj hi)).symm.trans (hmin j hj)) (fun e0 => hne ((h i hi).trans e0)), h i hi]
/-- A loop over items that are found valid one after the other. -/
theorem each_walk {n : Nat} {e : Nat → Int} {step : ((Int × Unit) → Prop) → (Int × Unit) → Prop}
    (h : ∀ (again : (Int × Unit) → Prop) (i : Nat), i ≤ n → (∀ j, j < i → e j = 0) → (i < n → e i = 0 → again (((i + 1 : Nat) : Int), ())) → step again ((i : Int), ())) : LoopP step (0, ()) := by
  refine LoopP.up n (fun i _ => ∀ j, j < i.toNat → e j = 0) (fun again i v hi0 hn hI hag => ?_) (by omega) (fun j hj => by simp at hj)
  obtain ⟨k, rfl⟩ := Int.eq_ofNat_of_zero_le hi0
  simp only [Int.toNat_natCast] at hI
  refine h again k (by omega) hI (fun hk he => hag () (by omega) fun j hj => ?_)
  by_cases hjk : j = k
  · rw [hjk]; exact he
  · exact hI j (by omega)
/-- A loop that looks for the first invalid item. -/
theorem each_loop {K : Int × Int → Prop} {n : Nat} {e : Nat → Int} (hK : K (eachE n e)) {step : ((Int × Unit) → Prop) → (Int × Unit) → Prop}
    (h : ∀ (again : (Int × Unit) → Prop) (i : Nat), i ≤ n → (∀ j, j < i → e j = 0) → (i < n → e i = 0 → again (((i + 1 : Nat) : Int), ())) → (i < n → e i ≠ 0 → K ((i : Int), e i)) → (i = n → K (0, 0)) → step again ((i : Int), ())) : LoopP step (0, ()) := by
  refine LoopP.up n (fun i _ => ∀ j, j < i.toNat → e j = 0) (fun again i v hi0 hn hI hag => ?_) (by omega) (fun j hj => by simp at hj)
  obtain ⟨k, rfl⟩ := Int.eq_ofNat_of_zero_le hi0
  simp only [Int.toNat_natCast] at hI
  refine h again k (by omega) hI (fun hk he => hag () (by omega) fun j hj => ?_) (fun hk he => ?_) (fun hk => ?_)
  · by_cases hjk : j = k
    · rw [hjk]; exact he
    · exact hI j (by omega)
  · have := hK
    rw [eachE_some hk hI he] at this
    exact this
  · subst hk
    have := hK
    rw [eachE_none hI] at this
    exact this
end Go.Pi
end

section
namespace Go.Pi
set_option linter.unusedVariables false
abbrev V3 := Int × Int × Int
abbrev Rd := V3 × Int × Int
abbrev WV := Int × Int × Int × Int
def dot (a b : V3) : Int := a.1 * b.1 + a.2.1 * b.2.1 + a.2.2 * b.2.2
def cross (a b : V3) : V3 := (a.2.1 * b.2.2 - a.2.2 * b.2.1, a.2.2 * b.1 - a.1 * b.2.2, a.1 * b.2.1 - a.2.1 * b.1)
def det (a b c : V3) : Int := dot a (cross b c)
def w64 (n : Int) : Int := IntKind.i64.wrap n
def w3 (a : V3) : V3 := (w64 a.1, w64 a.2.1, w64 a.2.2)
/-- Whole numbers of the machine, but the least one. -/
def Fit (n : Int) : Prop := -9223372036854775807 ≤ n ∧ n ≤ 9223372036854775807
instance (n : Int) : Decidable (Fit n) := inferInstanceAs (Decidable (_ ∧ _))
theorem w64_fit {n : Int} (h : Fit n) : w64 n = n := wr (by have := h.1; omega) (by have := h.2; omega)
theorem w64_in {n : Int} (h1 : -9223372036854775808 ≤ n) (h2 : n ≤ 9223372036854775807) : w64 n = n := wr h1 h2
theorem w64_congr {a b : Int} (h : ∃ k : Int, a = b + k * 18446744073709551616) : w64 a = w64 b := by
  obtain ⟨k, rfl⟩ := h
  exact wrap_shift b k
theorem w64_is (a : Int) : ∃ k : Int, w64 a = a + k * 18446744073709551616 := wrap_is a
theorem dot_w (a b : V3) : w64 (dot a (w3 b)) = w64 (dot a b) := by
  obtain ⟨k1, h1⟩ := w64_is b.1
  obtain ⟨k2, h2⟩ := w64_is b.2.1
  obtain ⟨k3, h3⟩ := w64_is b.2.2
  refine w64_congr ⟨a.1 * k1 + a.2.1 * k2 + a.2.2 * k3, ?_⟩
  simp only [dot, w3, h1, h2, h3]
  grind
theorem w3_eq {a : V3} (h1 : Fit a.1) (h2 : Fit a.2.1) (h3 : Fit a.2.2) : w3 a = a := by
  simp only [w3, w64_fit h1, w64_fit h2, w64_fit h3]

/-! ### sizes -/
theorem mul_le {a b A B : Int} (ha : -A ≤ a ∧ a ≤ A) (hb : -B ≤ b ∧ b ≤ B) : -(A * B) ≤ a * b ∧ a * b ≤ A * B := by
  have hA : 0 ≤ A := by omega
  have hB : 0 ≤ B := by omega
  have h1 : a.natAbs ≤ A.natAbs := by omega
  have h2 : b.natAbs ≤ B.natAbs := by omega
  have h3 : (a * b).natAbs ≤ (A * B).natAbs := by rw [Int.natAbs_mul, Int.natAbs_mul]; exact Nat.mul_le_mul h1 h2
  have h4 : 0 ≤ A * B := Int.mul_nonneg hA hB
  omega
/-- Vectors whose numbers are at most so great in size. -/
def V3.le (a : V3) (n : Int) : Prop := (-n ≤ a.1 ∧ a.1 ≤ n) ∧ (-n ≤ a.2.1 ∧ a.2.1 ≤ n) ∧ (-n ≤ a.2.2 ∧ a.2.2 ≤ n)
instance (a : V3) (n : Int) : Decidable (V3.le a n) := inferInstanceAs (Decidable (_ ∧ _ ∧ _))
theorem dot_le {a b : V3} {A B : Int} (ha : V3.le a A) (hb : V3.le b B) : -(3 * (A * B)) ≤ dot a b ∧ dot a b ≤ 3 * (A * B) := by
  have h1 := mul_le ha.1 hb.1
  have h2 := mul_le ha.2.1 hb.2.1
  have h3 := mul_le ha.2.2 hb.2.2
  simp only [dot]
  omega
theorem cross_le {a b : V3} {A B : Int} (ha : V3.le a A) (hb : V3.le b B) : V3.le (cross a b) (2 * (A * B)) := by
  have h1 := mul_le ha.2.1 hb.2.2
  have h2 := mul_le ha.2.2 hb.2.1
  have h3 := mul_le ha.2.2 hb.1
  have h4 := mul_le ha.1 hb.2.2
  have h5 := mul_le ha.1 hb.2.1
  have h6 := mul_le ha.2.1 hb.1
  simp only [cross, V3.le]
  omega
theorem det_le {a b c : V3} {A B C : Int} (ha : V3.le a A) (hb : V3.le b B) (hc : V3.le c C) : -(3 * (A * (2 * (B * C)))) ≤ det a b c ∧ det a b c ≤ 3 * (A * (2 * (B * C))) := dot_le ha (cross_le hb hc)

/-! ### the greatest common divisor -/
def gcdL (l : List Int) : Nat := l.foldl (fun g n => Nat.gcd g n.natAbs) 0
theorem gcdL_snoc (l : List Int) (n : Int) : gcdL (l ++ [n]) = Nat.gcd (gcdL l) n.natAbs := by simp [gcdL]
theorem natAbs_tmod (a b : Int) : (a.tmod b).natAbs = a.natAbs % b.natAbs := Int.natAbs_tmod a b
theorem foldl_gcd_fit {l : List Int} : ∀ {g : Nat}, g ≤ 9223372036854775807 → (∀ n ∈ l, Fit n) → l.foldl (fun g n => Nat.gcd g n.natAbs) g ≤ 9223372036854775807 := by
  induction l with
  | nil => intro g h _; exact h
  | cons n r ih =>
    intro g h hf
    refine ih ?_ fun m hm => hf m (.tail _ hm)
    have hn := hf n (.head _)
    have h1 : n.natAbs ≤ 9223372036854775807 := by have := hn.1; have := hn.2; omega
    rcases Nat.eq_zero_or_pos g with h0 | h0
    · subst h0; show Nat.gcd 0 n.natAbs ≤ _; rw [Nat.gcd_zero_left]; exact h1
    · exact Nat.le_trans (Nat.gcd_le_left _ h0) h
theorem gcdL_fit {l : List Int} (h : ∀ n ∈ l, Fit n) : gcdL l ≤ 9223372036854775807 := foldl_gcd_fit (by omega) h
theorem minmax_abs {a : Int} (h : Fit a) : minmax true a (IntKind.i64.wrap (0 - a)) = (a.natAbs : Int) := by
  rw [show IntKind.i64.wrap (0 - a) = 0 - a from w64_in (by have := h.2; omega) (by have := h.1; omega)]
  simp only [minmax]
  split <;> omega
/-- A Euclidean round. -/
theorem gcd_step (a b : Int) (hb : b ≠ 0) : Nat.gcd b.natAbs (a.tmod b).natAbs = Nat.gcd a.natAbs b.natAbs := by
  rw [natAbs_tmod, Nat.gcd_comm a.natAbs, Nat.gcd_comm b.natAbs, ← Nat.gcd_rec]
theorem tmod_fit {a b : Int} (ha : Fit a) (hb : b ≠ 0) : Fit (a.tmod b) := by
  have h1 := natAbs_tmod a b
  have h2 : a.natAbs % b.natAbs ≤ a.natAbs := Nat.mod_le _ _
  have := ha.1
  have := ha.2
  constructor <;> omega
theorem tmod_lt {a b : Int} (hb : b ≠ 0) : (a.tmod b).natAbs < b.natAbs := by
  rw [natAbs_tmod]
  exact Nat.mod_lt _ (by omega)
theorem tdiv_fit {a b : Int} (ha : Fit a) : Fit (a.tdiv b) := by
  have h1 : (a.tdiv b).natAbs = a.natAbs / b.natAbs := Int.natAbs_tdiv a b
  have h2 : a.natAbs / b.natAbs ≤ a.natAbs := Nat.div_le_self _ _
  have := ha.1
  have := ha.2
  constructor <;> omega
theorem neg_fit {a : Int} (ha : Fit a) : Fit (0 - a) := by have := ha.1; have := ha.2; constructor <;> omega
/-- A fraction in lowest terms, its second part above 0. -/
def low (n d : Int) : Int × Int := if d < 0 then (n.tdiv (-(Nat.gcd n.natAbs d.natAbs : Int)), d.tdiv (-(Nat.gcd n.natAbs d.natAbs : Int))) else (n.tdiv (Nat.gcd n.natAbs d.natAbs : Int), d.tdiv (Nat.gcd n.natAbs d.natAbs : Int))

theorem floor_eq {a b : Int} (hb : 0 < b) : (if a.tmod b < 0 then a.tdiv b - 1 else a.tdiv b) = a / b := by
  have h1 := Int.tdiv_eq_ediv (a := a) (b := b)
  have h2 := Int.tmod_eq_emod (a := a) (b := b)
  have h3 := Int.emod_nonneg a (show b ≠ 0 by omega)
  have h4 := Int.emod_lt_of_pos a hb
  have h5 : b.sign = 1 := Int.sign_eq_one_of_pos hb
  by_cases h : 0 ≤ a ∨ b ∣ a
  · rw [if_pos h] at h1 h2
    rw [if_neg (by omega), h1]; omega
  · rw [if_neg h] at h1 h2
    rw [if_pos (by omega), h1]; omega
theorem ediv_fit {a b : Int} (ha : Fit a) (hb : 0 < b) : Fit (a / b) := by
  have h1 := ha.1
  have h2 := ha.2
  constructor
  · have : -9223372036854775807 * b ≤ -9223372036854775807 * 1 := Int.mul_le_mul_of_nonpos_left (by omega) (by omega)
    exact Int.le_ediv_of_mul_le hb (by omega)
  · have : 9223372036854775807 * 1 ≤ 9223372036854775807 * b := Int.mul_le_mul_of_nonneg_left (by omega) (by omega)
    have := Int.ediv_le_of_le_mul hb (show a ≤ 9223372036854775807 * b by omega)
    exact this

/-! ### errors -/
def dirE (d : V3) : Int := if ¬ V3.le d 9 then 2 else if d = (0, 0, 0) then 11 else 0
def rngE (r : Int × Int) (m : Int) : Int := if ¬ ((-m ≤ r.1 ∧ r.1 ≤ m) ∧ -m ≤ r.2 ∧ r.2 ≤ m) then 2 else if r.1 ≤ r.2 then 0 else 9
def rdE (r : Rd) : Int := if dirE r.1 ≠ 0 then dirE r.1 else rngE r.2 10000
def rd0 : Rd := ((0, 0, 0), 0, 0)
def rdOf (l : List Rd) : Int × Int := if l.length = 0 then (0, 10) else if l.length > 6 then (0, 8) else eachE l.length fun i => rdE (l.getD i rd0)
/-- Valid readings. -/
structure RdOK (l : List Rd) : Prop where
  pos : 0 < l.length
  six : l.length ≤ 6
  dir : ∀ r ∈ l, V3.le r.1 9 ∧ r.1 ≠ (0, 0, 0)
  rng : ∀ r ∈ l, -10000 ≤ r.2.1 ∧ r.2.1 ≤ r.2.2 ∧ r.2.2 ≤ 10000
theorem rdE_zero {r : Rd} (h : rdE r = 0) : (V3.le r.1 9 ∧ r.1 ≠ (0, 0, 0)) ∧ -10000 ≤ r.2.1 ∧ r.2.1 ≤ r.2.2 ∧ r.2.2 ≤ 10000 := by
  unfold rdE at h
  split at h
  · rename_i h1; exact absurd h h1
  · rename_i h1
    have h1 : dirE r.1 = 0 := Classical.byContradiction h1
    unfold dirE at h1
    unfold rngE at h
    split at h1
    · simp at h1
    · rename_i h2
      split at h1
      · simp at h1
      · rename_i h3
        split at h
        · simp at h
        · rename_i h4
          split at h
          · rename_i h5
            have h4 := Classical.byContradiction h4
            exact ⟨⟨Classical.byContradiction h2, h3⟩, by omega, h5, by omega⟩
          · simp at h
theorem rdOf_ok {l : List Rd} (h : (rdOf l).2 = 0) : RdOK l := by
  unfold rdOf at h
  split at h
  · simp at h
  · rename_i h1
    split at h
    · simp at h
    · rename_i h2
      have hz := eachE_zero h
      have hm : ∀ r ∈ l, rdE r = 0 := fun r hr => by
        obtain ⟨i, hi, e⟩ := List.getElem_of_mem hr
        have := hz i hi
        rwa [getD_lt hi, e] at this
      exact ⟨by omega, by omega, fun r hr => (rdE_zero (hm r hr)).1, fun r hr => (rdE_zero (hm r hr)).2⟩
def wpt (v : WV) : V3 := (v.1, v.2.1, v.2.2.1)
def windE (v : WV) : Int := if ¬ ((1 ≤ v.2.2.2 ∧ v.2.2.2 ≤ 1000000000) ∧ V3.le (wpt v) 1000000000000) then 2 else if gcdL [v.2.2.2, v.1, v.2.1, v.2.2.1] = 1 then 0 else 3
theorem windE_zero {v : WV} (h : windE v = 0) : (1 ≤ v.2.2.2 ∧ v.2.2.2 ≤ 1000000000) ∧ V3.le (wpt v) 1000000000000 ∧ gcdL [v.2.2.2, v.1, v.2.1, v.2.2.1] = 1 := by
  unfold windE at h
  split at h
  · simp at h
  · rename_i h1
    have h1 := Classical.byContradiction h1
    split at h
    · rename_i h2; exact ⟨h1.1, h1.2, h2⟩
    · simp at h
theorem gcdL_four (a b c d : Int) : gcdL [a, b, c, d] = Nat.gcd a.natAbs (Nat.gcd b.natAbs (Nat.gcd c.natAbs d.natAbs)) := by
  simp only [gcdL, List.foldl_cons, List.foldl_nil, Nat.gcd_zero_left, Nat.gcd_assoc]
theorem gcdL_three (a b c : Int) : gcdL [a, b, c] = Nat.gcd a.natAbs (Nat.gcd b.natAbs c.natAbs) := by
  simp only [gcdL, List.foldl_cons, List.foldl_nil, Nat.gcd_zero_left, Nat.gcd_assoc]
theorem gcd_fit {a b : Nat} (ha : a ≤ 9223372036854775807) (hb : b ≤ 9223372036854775807) : Nat.gcd a b ≤ 9223372036854775807 := by
  rcases Nat.eq_zero_or_pos a with h0 | h0
  · subst h0; rw [Nat.gcd_zero_left]; exact hb
  · exact Nat.le_trans (Nat.gcd_le_left _ h0) ha
theorem fit_nat {a : Nat} (h : a ≤ 9223372036854775807) : Fit (a : Int) := by constructor <;> omega
theorem fit_abs {a : Int} (h : Fit a) : a.natAbs ≤ 9223372036854775807 := by have := h.1; have := h.2; omega
theorem fit_le {a b : Int} (h : -b ≤ a ∧ a ≤ b) (hb : b ≤ 9223372036854775807) : Fit a := by constructor <;> omega
/-- Does a wind agree with a reading? -/
def agR (r : Rd) (v : WV) : Bool := decide (w64 (r.2.1 * v.2.2.2) ≤ w64 (dot r.1 (wpt v)) ∧ w64 (dot r.1 (wpt v)) ≤ w64 (r.2.2 * v.2.2.2))
theorem dot_comm (a b : V3) : dot a b = dot b a := by simp only [dot, Int.mul_comm]

/-- To the next: what is not true may be left. -/
theorem br_weak {b : Bool} {x : Prop} (h : x) : br b x True := br_true_.2 fun _ => h
theorem br_must {b : Bool} {x : Prop} (hb : b = true) (h : x) : br b x False := br_false_.2 ⟨hb, h⟩
theorem br_two {b : Bool} {x y : Prop} (h1 : b = true → x) (h2 : b = false → y) : br b x y := br_both.2 ⟨h1, h2⟩
theorem br_if {p : Prop} [Decidable p] {x y : Prop} (h1 : p → x) (h2 : ¬ p → y) : br (decide p) x y := br_dec.2 ⟨h1, h2⟩
theorem ne_zero_b {n : Int} (h : n ≠ 0) : (!(decide (n = 0))) = true := by simpa using h
theorem nd_t {p : Prop} [Decidable p] : (!(decide p)) = true ↔ ¬ p := by simp
theorem nd_f {p : Prop} [Decidable p] : (!(decide p)) = false ↔ p := by simp
theorem bne_t {a b : Int} : (a != b) = true ↔ a ≠ b := bne_iff_ne
theorem bne_f {a b : Int} : (a != b) = false ↔ a = b := bne_eq_false_iff_eq
end Go.Pi
end

section
namespace Go.Proofs.Ytglijnhkdnhofaa
open Go Go.Pi Go.RowKit
set_option maxRecDepth 100000
set_option linter.unusedVariables false
set_option linter.unusedSimpArgs false

def f109 (l : List Int) : Int := (gcdL l : Int)
def f109_pre (l : List Int) : Prop := ∀ n ∈ l, Fit n
def f109_e : Entry := { doms := [(false, (.sl (.int .i64)))], cods := [(false, (.int .i64))], pre := f109_pre, fn := f109, uq := false, total := false }
def f109_E : Env := []
def f109_A : Anns := { loops := [(1048576, { tms := [(3, .data false (.int .i64)), (7, .keep), (8, .keep), (9, .data false (.int .i64))], obs := [], fz := [] }),
  (1048578, { tms := [(3, .data false (.int .i64)), (6, .data false (.int .i64)), (7, .keep), (8, .keep), (9, .keep)], obs := [], fz := [] })], own := [] }
theorem f109_run (a0 : List Int) (K : Int → Prop) : runF Try.prog f109_E f109_A 6 Try.f109 f109_e.doms f109_e.cods a0 K =
    (br (lenOk (a0.length))
    (LoopP (V := Int × Int × Unit) (fun again v => (fun (again1 : Int → Int → Prop) (v1_0 : Int) (v1_1 : Int) =>
    br (decide (v1_1 < ((a0.length) : Int)))
    (br (decide (0 ≤ v1_1) && decide (v1_1 < ((a0.length) : Int)))
    (LoopP (V := Int × Int × Unit) (fun again v => (fun (again2 : Int → Int → Prop) (v2_0 : Int) (v2_1 : Int) =>
    br (v2_1 != 0)
    (br (!(decide (v2_1 = 0)))
    (again2 v2_1 (v2_0.tmod v2_1))
    False)
    (again1 v2_0 (IntKind.i64.wrap (v1_1 + 1))))
    (fun v2_0 v2_1 => again (v2_0, v2_1, ())) v.1 v.2.1) (v1_0, (a0.getD v1_1.toNat 0), ()))
    False)
    (K (minmax true v1_0 (IntKind.i64.wrap (0 - v1_0)))))
    (fun v1_0 v1_1 => again (v1_0, v1_1, ())) v.1 v.2.1) (0, 0, ()))
    True) := by kernel_rfl
theorem f109_t (a0 : List Int) (hpre : f109_pre a0) (K : Int → Prop) (hK : ∀ y : Int, y = f109 a0 → K y) : RunF Try.prog f109_E f109_A 6 Try.f109 f109_e.doms f109_e.cods a0 K := by
  refine ⟨?_⟩
  rw [f109_run a0 K]
  rw [br_true_, lenOk_iff]
  intro hl
  refine (LoopP.of (fun q : Int × Int × Unit => ∃ i : Nat, i ≤ a0.length ∧ q.2.1 = (i : Int) ∧ Fit q.1 ∧ q.1.natAbs = gcdL (a0.take i)) (fun q => ((a0.length : Int) - q.2.1).toNat) (fun again q hq hag => ?_) ⟨0, by omega, rfl, ⟨by simp, by simp⟩, by simp [gcdL]⟩)
  obtain ⟨g, j, u⟩ := q
  obtain ⟨i, hi, e1, qf1, hg⟩ := hq
  simp only at e1 qf1 hg
  subst e1
  dsimp only
  refine br_if (fun hlt => ?_) fun hlt => ?_
  · have hlt : i < a0.length := by omega
    refine br_must (inb (by omega) (by omega)) ?_
    have hn : Fit (a0.getD i 0) := hpre _ (by rw [getD_lt hlt]; exact List.getElem_mem _)
    rw [Int.toNat_natCast]
    refine LoopP.of (fun q : Int × Int × Unit => Fit q.1 ∧ Fit q.2.1 ∧ Nat.gcd q.1.natAbs q.2.1.natAbs = gcdL (a0.take (i + 1))) (fun q => q.2.1.natAbs) (fun again2 q hq hag2 => ?_) ⟨qf1, hn, ?_⟩
    · obtain ⟨a, b, u⟩ := q
      obtain ⟨qf1, qf2, hg⟩ := hq
      dsimp only at qf1 qf2 hg ⊢
      refine br_two (fun hb => ?_) fun hb => ?_
      · have hb := bne_t.1 hb
        exact br_must (ne_zero_b hb) (hag2 (b, a.tmod b, ()) ⟨qf2, tmod_fit qf1 hb, (gcd_step a b hb).trans hg⟩ (tmod_lt hb))
      · have hb := bne_f.1 hb
        subst hb
        rw [wr (n := (i : Int) + 1) (by omega) (by omega)]
        exact hag (a, (i : Int) + 1, ()) ⟨i + 1, by omega, by simp, qf1, by simpa using hg⟩ (by simp only; omega)
    · dsimp only
      rw [hg, List.take_add_one, List.getElem?_eq_getElem hlt, getD_lt hlt]
      simp only [Option.toList_some, gcdL_snoc]
  · refine hK _ ?_
    rw [minmax_abs qf1, hg, List.take_of_length_le (by omega)]
    rfl
theorem f109_fn : f109_e.fn = f109 := rfl
theorem f109_ok : EntryOK Try.prog 109 f109_e := by
  refine entryF progOK (EnvOK.nil) (A := f109_A) (d := 6) Try.func109 rfl rfl rfl rfl (fun h => by cases h) fun x hpre => ?_
  exact f109_t x hpre _ fun _ h => h.trans (congrFun f109_fn.symm _)
end Go.Proofs.Ytglijnhkdnhofaa
end

section
namespace Go.Proofs.Ytglijnhkdnhofaa
open Go Go.Pi Go.RowKit
set_option maxRecDepth 100000
set_option linter.unusedVariables false
set_option linter.unusedSimpArgs false

def f63 (x : Int × Int) : Int × Int := low x.1 x.2
def f63_pre (x : Int × Int) : Prop := Fit x.1 ∧ Fit x.2 ∧ x.2 ≠ 0
def f63_e : Entry := { doms := [(false, (.int .i64)), (false, (.int .i64))], cods := [(true, (.pair (.int .i64) (.int .i64)))], pre := f63_pre, fn := f63, uq := false, total := false }
def f63_E : Env := [(109, f109_e)]
def f63_A : Anns := { loops := [], own := [] }
theorem f63_run (a0 : Int) (a1 : Int) (K : (Int × Int) → Prop) : runF Try.prog f63_E f63_A 6 Try.f63 f63_e.doms f63_e.cods (a0, a1) K =
    (f109_pre ([a0, a1] : List Int) ∧
    br (decide (a1 < 0))
    (br (!(decide ((IntKind.i64.wrap (0 - (f109 ([a0, a1] : List Int)))) = 0)))
    (br (!(decide ((IntKind.i64.wrap (0 - (f109 ([a0, a1] : List Int)))) = 0)))
    (K ((IntKind.i64.wrap (a0.tdiv (IntKind.i64.wrap (0 - (f109 ([a0, a1] : List Int)))))), (IntKind.i64.wrap (a1.tdiv (IntKind.i64.wrap (0 - (f109 ([a0, a1] : List Int))))))))
    False)
    False)
    (br (!(decide ((f109 ([a0, a1] : List Int)) = 0)))
    (br (!(decide ((f109 ([a0, a1] : List Int)) = 0)))
    (K ((IntKind.i64.wrap (a0.tdiv (f109 ([a0, a1] : List Int)))), (IntKind.i64.wrap (a1.tdiv (f109 ([a0, a1] : List Int))))))
    False)
    False)) := by kernel_rfl
theorem f63_t (a0 : Int) (a1 : Int) (hpre : f63_pre (a0, a1)) (K : (Int × Int) → Prop) (hK : ∀ y : Int × Int, y = f63 (a0, a1) → K y) : RunF Try.prog f63_E f63_A 6 Try.f63 f63_e.doms f63_e.cods (a0, a1) K := by
  refine ⟨?_⟩
  rw [f63_run a0 a1 K]
  obtain ⟨h1, h2, h3⟩ := hpre
  dsimp only at h1 h2 h3
  have hp : f109_pre [a0, a1] := fun n hn => by
    rcases List.mem_cons.1 hn with rfl | hn
    · exact h1
    · rcases List.mem_cons.1 hn with rfl | hn
      · exact h2
      · cases hn
  have hg : f109 [a0, a1] = (Nat.gcd a0.natAbs a1.natAbs : Int) := by simp [f109, gcdL]
  have hle := gcdL_fit hp
  have hpos : 0 < Nat.gcd a0.natAbs a1.natAbs := Nat.gcd_pos_of_pos_right _ (by omega)
  have hle2 : Nat.gcd a0.natAbs a1.natAbs ≤ 9223372036854775807 := by simpa [gcdL] using hle
  have hng : IntKind.i64.wrap (0 - (Nat.gcd a0.natAbs a1.natAbs : Int)) = -(Nat.gcd a0.natAbs a1.natAbs : Int) := by rw [wr (by omega) (by omega)]; omega
  have hw : ∀ n : Int, Fit n → IntKind.i64.wrap n = n := fun n h => w64_fit h
  rw [hg, hng]
  refine ⟨hp, br_if (fun hd => br_must (ne_zero_b (by omega)) (br_must (ne_zero_b (by omega)) (hK _ ?_))) fun hd => br_must (ne_zero_b (by omega)) (br_must (ne_zero_b (by omega)) (hK _ ?_))⟩
  · rw [hw _ (tdiv_fit h1), hw _ (tdiv_fit h2), f63, low, if_pos hd]
  · rw [hw _ (tdiv_fit h1), hw _ (tdiv_fit h2), f63, low, if_neg hd]
theorem f63_fn : f63_e.fn = f63 := rfl
theorem f63_ok : EntryOK Try.prog 63 f63_e := by
  refine entryF progOK (EnvOK.cons f109_ok (EnvOK.nil)) (A := f63_A) (d := 6) Try.func63 rfl rfl rfl rfl (fun h => by cases h) fun x hpre => ?_
  obtain ⟨a0, a1⟩ := x
  exact f63_t a0 a1 hpre _ fun _ h => h.trans (congrFun f63_fn.symm _)
end Go.Proofs.Ytglijnhkdnhofaa
end

section
namespace Go.Proofs.Ytglijnhkdnhofaa
open Go Go.Pi Go.RowKit
set_option maxRecDepth 100000
set_option linter.unusedVariables false
set_option linter.unusedSimpArgs false

def f60 (x : Bool × Int) : Int := if x.1 then 0 else x.2
def f60_e : Entry := { doms := [(false, .bool), (false, (.int .i64))], cods := [(false, (.int .i64))], pre := fun _ => True, fn := f60, uq := false, total := true }
def f60_E : Env := []
def f60_A : Anns := { loops := [], own := [] }
theorem f60_run (a0 : Bool) (a1 : Int) (K : Int → Prop) : runF Try.prog f60_E f60_A 6 Try.f60 f60_e.doms f60_e.cods (a0, a1) K =
    (br a0
    (K 0)
    (K a1)) := by kernel_rfl
theorem f60_t (a0 : Bool) (a1 : Int) (K : Int → Prop) (hK : ∀ y : Int, y = f60 (a0, a1) → K y) : RunF Try.prog f60_E f60_A 6 Try.f60 f60_e.doms f60_e.cods (a0, a1) K := by
  refine ⟨?_⟩
  rw [f60_run a0 a1 K]
  cases a0 <;> exact hK _ rfl
theorem f60_fn : f60_e.fn = f60 := rfl
theorem f60_ok : EntryOK Try.prog 60 f60_e := by
  refine entryF progOK (EnvOK.nil) (A := f60_A) (d := 6) Try.func60 rfl rfl rfl rfl (fun _ _ => trivial) fun x hpre => ?_
  obtain ⟨a0, a1⟩ := x
  exact f60_t a0 a1 _ fun _ h => h.trans (congrFun f60_fn.symm _)
end Go.Proofs.Ytglijnhkdnhofaa
end

section
namespace Go.Proofs.Ytglijnhkdnhofaa
open Go Go.Pi Go.RowKit
set_option maxRecDepth 100000
set_option linter.unusedVariables false
set_option linter.unusedSimpArgs false

def f61 (x : Int × Int × Int) : Bool := decide (x.2.1 ≤ x.1) && decide (x.1 ≤ x.2.2)
def f61_e : Entry := { doms := [(false, (.int .i64)), (false, (.int .i64)), (false, (.int .i64))], cods := [(false, .bool)], pre := fun _ => True, fn := f61, uq := false, total := true }
def f61_E : Env := []
def f61_A : Anns := { loops := [], own := [] }
theorem f61_run (a0 : Int) (a1 : Int) (a2 : Int) (K : Bool → Prop) : runF Try.prog f61_E f61_A 6 Try.f61 f61_e.doms f61_e.cods (a0, a1, a2) K =
    (br (decide (a1 ≤ a0))
    (K (decide (a0 ≤ a2)))
    (K false)) := by kernel_rfl
theorem f61_t (a0 : Int) (a1 : Int) (a2 : Int) (K : Bool → Prop) (hK : ∀ y : Bool, y = f61 (a0, a1, a2) → K y) : RunF Try.prog f61_E f61_A 6 Try.f61 f61_e.doms f61_e.cods (a0, a1, a2) K := by
  refine ⟨?_⟩
  rw [f61_run a0 a1 a2 K]
  rw [br_dec]
  exact ⟨fun h => hK _ (by simp [f61, h]), fun h => hK _ (by simp [f61, h])⟩
theorem f61_fn : f61_e.fn = f61 := rfl
theorem f61_ok : EntryOK Try.prog 61 f61_e := by
  refine entryF progOK (EnvOK.nil) (A := f61_A) (d := 6) Try.func61 rfl rfl rfl rfl (fun _ _ => trivial) fun x hpre => ?_
  obtain ⟨a0, a1, a2⟩ := x
  exact f61_t a0 a1 a2 _ fun _ h => h.trans (congrFun f61_fn.symm _)
theorem f61_t1 {a b c : Int} : f61 (a, b, c) = true ↔ b ≤ a ∧ a ≤ c := by simp [f61]
theorem f61_f1 {a b c : Int} : f61 (a, b, c) = false ↔ ¬ (b ≤ a ∧ a ≤ c) := by rw [← Bool.not_eq_true, f61_t1]
theorem f61_eq {a b c : Int} : f61 (a, b, c) = decide (b ≤ a ∧ a ≤ c) := by simp [f61]
end Go.Proofs.Ytglijnhkdnhofaa
end

section
namespace Go.Proofs.Ytglijnhkdnhofaa
open Go Go.Pi Go.RowKit
set_option maxRecDepth 100000
set_option linter.unusedVariables false
set_option linter.unusedSimpArgs false

def f97 (x : Int × Int) : Bool := f61 (x.1, IntKind.i64.wrap (0 - x.2), x.2)
def f97_e : Entry := { doms := [(false, (.int .i64)), (false, (.int .i64))], cods := [(false, .bool)], pre := fun _ => True, fn := f97, uq := false, total := true }
def f97_E : Env := [(61, f61_e)]
def f97_A : Anns := { loops := [], own := [] }
theorem f97_run (a0 : Int) (a1 : Int) (K : Bool → Prop) : runF Try.prog f97_E f97_A 6 Try.f97 f97_e.doms f97_e.cods (a0, a1) K =
    (K (f61 (a0, ((IntKind.i64.wrap (0 - a1)), a1)))) := by kernel_rfl
theorem f97_t (a0 : Int) (a1 : Int) (K : Bool → Prop) (hK : ∀ y : Bool, y = f97 (a0, a1) → K y) : RunF Try.prog f97_E f97_A 6 Try.f97 f97_e.doms f97_e.cods (a0, a1) K := by
  refine ⟨?_⟩
  rw [f97_run a0 a1 K]
  exact hK _ rfl
theorem f97_fn : f97_e.fn = f97 := rfl
theorem f97_ok : EntryOK Try.prog 97 f97_e := by
  refine entryF progOK (EnvOK.cons f61_ok (EnvOK.nil)) (A := f97_A) (d := 6) Try.func97 rfl rfl rfl rfl (fun _ _ => trivial) fun x hpre => ?_
  obtain ⟨a0, a1⟩ := x
  exact f97_t a0 a1 _ fun _ h => h.trans (congrFun f97_fn.symm _)
theorem f97_eq {a b : Int} (h : 0 ≤ b) (h2 : b ≤ 9223372036854775807) : f97 (a, b) = decide (-b ≤ a ∧ a ≤ b) := by
  unfold f97
  dsimp only
  rw [wr (by omega) (by omega), f61_eq]
  congr 1
  simp only [Int.zero_sub]
end Go.Proofs.Ytglijnhkdnhofaa
end

section
namespace Go.Proofs.Ytglijnhkdnhofaa
open Go Go.Pi Go.RowKit
set_option maxRecDepth 100000
set_option linter.unusedVariables false
set_option linter.unusedSimpArgs false

def f70 (d : Int × Int × Int) : Int := dirE d
def f70_e : Entry := { doms := [(true, (.pair (.int .i64) (.pair (.int .i64) (.int .i64))))], cods := [(false, (.int .i64))], pre := fun _ => True, fn := f70, uq := false, total := true }
def f70_E : Env := [(59, f59_e), (60, f60_e), (97, f97_e)]
def f70_A : Anns := { loops := [], own := [1048576], unroll := 4 }
theorem f70_run (a0 : Int × Int × Int) (K : Int → Prop) : runF Try.prog f70_E f70_A 6 Try.f70 f70_e.doms f70_e.cods a0 K =
    (br (!(f97 (a0.1, 9)))
    (K (f59 ([(f60 (false, 2)), (f60 ((!((a0.1 == 0) && ((a0.2.1 == 0) && ((a0.2.2 == 0) && true)))), 11))] : List Int)))
    (br (!(f97 (a0.2.1, 9)))
    (K (f59 ([(f60 (false, 2)), (f60 ((!((a0.1 == 0) && ((a0.2.1 == 0) && ((a0.2.2 == 0) && true)))), 11))] : List Int)))
    (br (!(f97 (a0.2.2, 9)))
    (K (f59 ([(f60 (false, 2)), (f60 ((!((a0.1 == 0) && ((a0.2.1 == 0) && ((a0.2.2 == 0) && true)))), 11))] : List Int)))
    (K (f59 ([(f60 (true, 2)), (f60 ((!((a0.1 == 0) && ((a0.2.1 == 0) && ((a0.2.2 == 0) && true)))), 11))] : List Int)))))) := by kernel_rfl
theorem f70_t (a0 : Int × Int × Int) (K : Int → Prop) (hK : ∀ y : Int, y = f70 a0 → K y) : RunF Try.prog f70_E f70_A 6 Try.f70 f70_e.doms f70_e.cods a0 K := by
  refine ⟨?_⟩
  rw [f70_run a0 K]
  have e : ∀ n : Int, f97 (n, 9) = decide (-9 ≤ n ∧ n ≤ 9) := fun n => f97_eq (by omega) (by omega)
  simp only [e]
  refine br_two (fun h1 => hK _ ?_) fun h1 => br_two (fun h2 => hK _ ?_) fun h2 => br_two (fun h3 => hK _ ?_) fun h3 => hK _ ?_
  · simp only [Bool.not_eq_true', decide_eq_false_iff_not] at h1
    rw [f59_cons, f70, dirE, if_pos (fun h => h1 h.1)]; rfl
  · simp only [Bool.not_eq_true', decide_eq_false_iff_not] at h2
    rw [f59_cons, f70, dirE, if_pos (fun h => h2 h.2.1)]; rfl
  · simp only [Bool.not_eq_true', decide_eq_false_iff_not] at h3
    rw [f59_cons, f70, dirE, if_pos (fun h => h3 h.2.2)]; rfl
  · simp only [Bool.not_eq_false', decide_eq_true_iff] at h1 h2 h3
    have hv : V3.le a0 9 := ⟨h1, h2, h3⟩
    have e2 : f70 a0 = if a0 = (0, 0, 0) then 11 else 0 := by rw [f70, dirE, if_neg (fun h => h hv)]
    rw [e2, f59_cons, f59_cons, f59_nil]
    obtain ⟨x, y, z⟩ := a0
    by_cases hx : x = 0 <;> by_cases hy : y = 0 <;> by_cases hz : z = 0 <;> simp [f60, hx, hy, hz]
theorem f70_fn : f70_e.fn = f70 := rfl
theorem f70_ok : EntryOK Try.prog 70 f70_e := by
  refine entryF progOK (EnvOK.cons f59_ok (EnvOK.cons f60_ok (EnvOK.cons f97_ok (EnvOK.nil)))) (A := f70_A) (d := 6) Try.func70 rfl rfl rfl rfl (fun _ _ => trivial) fun x hpre => ?_
  exact f70_t x _ fun _ h => h.trans (congrFun f70_fn.symm _)
end Go.Proofs.Ytglijnhkdnhofaa
end

section
namespace Go.Proofs.Ytglijnhkdnhofaa
open Go Go.Pi Go.RowKit
set_option maxRecDepth 100000
set_option linter.unusedVariables false
set_option linter.unusedSimpArgs false

def f58 (x : (Int × Int) × Int) : Int := if ¬ (f97 (x.1.1, x.2) = true ∧ f97 (x.1.2, x.2) = true) then 2 else if x.1.1 ≤ x.1.2 then 0 else 9
def f58_e : Entry := { doms := [(true, (.pair (.int .i64) (.int .i64))), (false, (.int .i64))], cods := [(false, (.int .i64))], pre := fun _ => True, fn := f58, uq := false, total := true }
def f58_E : Env := [(59, f59_e), (60, f60_e), (97, f97_e)]
def f58_A : Anns := { loops := [], own := [] }
theorem f58_run (a0 : Int × Int) (a1 : Int) (K : Int → Prop) : runF Try.prog f58_E f58_A 6 Try.f58 f58_e.doms f58_e.cods (a0, a1) K =
    (br (f97 (a0.1, a1))
    (K (f59 ([(f60 ((f97 (a0.2, a1)), 2)), (f60 ((decide (a0.1 ≤ a0.2)), 9))] : List Int)))
    (K (f59 ([(f60 (false, 2)), (f60 ((decide (a0.1 ≤ a0.2)), 9))] : List Int)))) := by kernel_rfl
theorem f58_t (a0 : Int × Int) (a1 : Int) (K : Int → Prop) (hK : ∀ y : Int, y = f58 (a0, a1) → K y) : RunF Try.prog f58_E f58_A 6 Try.f58 f58_e.doms f58_e.cods (a0, a1) K := by
  refine ⟨?_⟩
  rw [f58_run a0 a1 K]
  refine br_two (fun h1 => hK _ ?_) fun h1 => hK _ ?_
  · rw [f59_cons, f59_cons, f59_nil]
    cases h2 : f97 (a0.2, a1) <;> by_cases h3 : a0.1 ≤ a0.2 <;> simp [f58, f60, h1, h2, h3]
  · rw [f59_cons]
    simp [f58, f60, h1]
theorem f58_fn : f58_e.fn = f58 := rfl
theorem f58_ok : EntryOK Try.prog 58 f58_e := by
  refine entryF progOK (EnvOK.cons f59_ok (EnvOK.cons f60_ok (EnvOK.cons f97_ok (EnvOK.nil)))) (A := f58_A) (d := 6) Try.func58 rfl rfl rfl rfl (fun _ _ => trivial) fun x hpre => ?_
  obtain ⟨a0, a1⟩ := x
  exact f58_t a0 a1 _ fun _ h => h.trans (congrFun f58_fn.symm _)
end Go.Proofs.Ytglijnhkdnhofaa
end

section
namespace Go.Proofs.Ytglijnhkdnhofaa
open Go Go.Pi Go.RowKit
set_option maxRecDepth 100000
set_option linter.unusedVariables false
set_option linter.unusedSimpArgs false

def f69 (x : Int × (Int × Int × Int) × Int × Int) : Int := rdE x.2
theorem f58_eq {r : Int × Int} {m : Int} (h : 0 ≤ m) (h2 : m ≤ 9223372036854775807) : f58 (r, m) = rngE r m := by
  unfold f58 rngE
  simp only [f97_eq h h2, decide_eq_true_eq]
def f69_e : Entry := { doms := [(false, (.int .i64)), (true, (.pair (.pair (.int .i64) (.pair (.int .i64) (.int .i64))) (.pair (.int .i64) (.int .i64))))], cods := [(false, (.int .i64))], pre := fun _ => True, fn := f69, uq := false, total := true }
def f69_E : Env := [(58, f58_e), (59, f59_e), (70, f70_e)]
def f69_A : Anns := { loops := [], own := [] }
theorem f69_run (a0 : Int) (a1 : (Int × Int × Int) × Int × Int) (K : Int → Prop) : runF Try.prog f69_E f69_A 6 Try.f69 f69_e.doms f69_e.cods (a0, a1) K =
    (K (f59 ([(f70 a1.1), (f58 (a1.2, 10000))] : List Int))) := by kernel_rfl
theorem f69_t (a0 : Int) (a1 : (Int × Int × Int) × Int × Int) (K : Int → Prop) (hK : ∀ y : Int, y = f69 (a0, a1) → K y) : RunF Try.prog f69_E f69_A 6 Try.f69 f69_e.doms f69_e.cods (a0, a1) K := by
  refine ⟨?_⟩
  rw [f69_run a0 a1 K]
  refine hK _ ?_
  have e1 : f70 a1.1 = dirE a1.1 := rfl
  have e2 : f58 (a1.2, 10000) = rngE a1.2 10000 := f58_eq (by omega) (by omega)
  rw [show f69 (a0, a1) = rdE a1 from rfl, rdE, f59_cons, f59_cons, f59_nil, e1, e2]
  by_cases h : dirE a1.1 = 0 <;> by_cases h2 : rngE a1.2 10000 = 0 <;> simp [h, h2]
theorem f69_fn : f69_e.fn = f69 := rfl
theorem f69_ok : EntryOK Try.prog 69 f69_e := by
  refine entryF progOK (EnvOK.cons f58_ok (EnvOK.cons f59_ok (EnvOK.cons f70_ok (EnvOK.nil)))) (A := f69_A) (d := 6) Try.func69 rfl rfl rfl rfl (fun _ _ => trivial) fun x hpre => ?_
  obtain ⟨a0, a1⟩ := x
  exact f69_t a0 a1 _ fun _ h => h.trans (congrFun f69_fn.symm _)
end Go.Proofs.Ytglijnhkdnhofaa
end

section
namespace Go.Proofs.Ytglijnhkdnhofaa
open Go Go.Pi Go.RowKit
set_option maxRecDepth 100000
set_option linter.unusedVariables false
set_option linter.unusedSimpArgs false

def f22 (l : List ((Int × Int × Int) × Int × Int)) : Int × Int := rdOf l
def f22_e : Entry := { doms := [(false, (.sl (.pair (.pair (.int .i64) (.pair (.int .i64) (.int .i64))) (.pair (.int .i64) (.int .i64)))))], cods := [(false, (.int .i64)), (false, (.int .i64))], pre := fun _ => True, fn := f22, uq := false, total := true }
def f22_E : Env := [(59, f59_e), (60, f60_e), (69, f69_e)]
def f22_A : Anns := { loops := [(1100586418176, { tms := [(2, .keep), (26, .keep), (27, .keep), (28, .data false (.int .i64))], obs := [], fz := [] })], own := [] }
theorem f22_run (a0 : List ((Int × Int × Int) × Int × Int)) (K : (Int × Int) → Prop) : runF Try.prog f22_E f22_A 6 Try.f22 f22_e.doms f22_e.cods a0 K =
    (br (lenOk (a0.length))
    (br (lenOk (a0.length))
    (br ((f59 ([(f60 ((decide (((a0.length) : Int) > 0)), 10)), (f60 ((decide (((a0.length) : Int) ≤ 6)), 8))] : List Int)) != 0)
    (K (0, (f59 ([(f60 ((decide (((a0.length) : Int) > 0)), 10)), (f60 ((decide (((a0.length) : Int) ≤ 6)), 8))] : List Int))))
    (br (lenOk (a0.length))
    (LoopP (V := Int × Unit) (fun again v => (fun (again1 : Int → Prop) (v1_0 : Int) =>
    br (decide (v1_0 < ((a0.length) : Int)))
    (br (decide (0 ≤ v1_0) && decide (v1_0 < ((a0.length) : Int)))
    (br ((f69 (v1_0, ((((a0.getD v1_0.toNat ((0, (0, 0)), (0, 0))).1).1, (((a0.getD v1_0.toNat ((0, (0, 0)), (0, 0))).1).2)), ((a0.getD v1_0.toNat ((0, (0, 0)), (0, 0))).2)))) != 0)
    (K (v1_0, (f69 (v1_0, ((((a0.getD v1_0.toNat ((0, (0, 0)), (0, 0))).1).1, (((a0.getD v1_0.toNat ((0, (0, 0)), (0, 0))).1).2)), ((a0.getD v1_0.toNat ((0, (0, 0)), (0, 0))).2))))))
    (again1 (IntKind.i64.wrap (v1_0 + 1))))
    False)
    (K (0, 0)))
    (fun v1_0 => again (v1_0, ())) v.1) (0, ()))
    True))
    True)
    True) := by kernel_rfl
theorem f22_t (a0 : List ((Int × Int × Int) × Int × Int)) (K : (Int × Int) → Prop) (hK : ∀ y : Int × Int, y = f22 a0 → K y) : RunF Try.prog f22_E f22_A 6 Try.f22 f22_e.doms f22_e.cods a0 K := by
  refine ⟨?_⟩
  rw [f22_run a0 K]
  rw [br_true_, lenOk_iff]
  intro hl
  refine br_weak ?_
  have e0 : f59 [f60 (decide ((a0.length : Int) > 0), 10), f60 (decide ((a0.length : Int) ≤ 6), 8)] = if a0.length = 0 then 10 else if a0.length > 6 then 8 else 0 := by
    rw [f59_cons, f59_cons, f59_nil]
    by_cases h0 : a0.length = 0
    · simp [f60, h0]
    · by_cases h1 : a0.length > 6
      · simp only [f60, if_neg h0, if_pos h1]
        rw [decide_eq_true (by omega), decide_eq_false (by omega)]; rfl
      · simp only [f60, if_neg h0, if_neg h1]
        rw [decide_eq_true (by omega), decide_eq_true (by omega)]; rfl
  rw [e0]
  refine br_two (fun h => hK _ ?_) fun h => br_weak ?_
  · have h := bne_t.1 h
    rw [f22, rdOf]
    by_cases h0 : a0.length = 0
    · rw [if_pos h0, if_pos h0]
    · by_cases h1 : a0.length > 6
      · rw [if_neg h0, if_pos h1, if_neg h0, if_pos h1]
      · rw [if_neg h0, if_neg h1] at h; exact absurd rfl h
  · have h := bne_f.1 h
    have h0 : ¬ a0.length = 0 := fun h0 => by rw [if_pos h0] at h; cases h
    have h1 : ¬ a0.length > 6 := fun h1 => by rw [if_neg h0, if_pos h1] at h; cases h
    refine each_loop (K := K) (n := a0.length) (e := fun i => rdE (a0.getD i rd0)) (hK _ (by rw [f22, rdOf, if_neg h0, if_neg h1])) (fun again i hi hI good bad fin => ?_)
    dsimp only
    refine br_if (fun hlt => ?_) fun hlt => fin (by omega)
    have hlt : i < a0.length := by omega
    refine br_must (inb (by omega) (by omega)) ?_
    rw [wr (n := (i : Int) + 1) (by omega) (by omega), Int.toNat_natCast]
    refine br_two (fun he => bad hlt (bne_t.1 he)) fun he => good hlt (bne_f.1 he)
theorem f22_fn : f22_e.fn = f22 := rfl
theorem f22_ok : EntryOK Try.prog 22 f22_e := by
  refine entryF progOK (EnvOK.cons f59_ok (EnvOK.cons f60_ok (EnvOK.cons f69_ok (EnvOK.nil)))) (A := f22_A) (d := 6) Try.func22 rfl rfl rfl rfl (fun _ _ => trivial) fun x hpre => ?_
  exact f22_t x _ fun _ h => h.trans (congrFun f22_fn.symm _)
end Go.Proofs.Ytglijnhkdnhofaa
end

section
namespace Go.Proofs.Ytglijnhkdnhofaa
open Go Go.Pi Go.RowKit
set_option maxRecDepth 100000
set_option linter.unusedVariables false
set_option linter.unusedSimpArgs false

def f71 (l : List ((Int × Int × Int) × Int × Int)) : List ((Int × Int × Int) × Int × Int) × Int := (l, (rdOf l).2)
def f71_e : Entry := { doms := [(false, (.sl (.pair (.pair (.int .i64) (.pair (.int .i64) (.int .i64))) (.pair (.int .i64) (.int .i64)))))], cods := [(false, (.sl (.pair (.pair (.int .i64) (.pair (.int .i64) (.int .i64))) (.pair (.int .i64) (.int .i64))))), (false, (.int .i64))], pre := fun _ => True, fn := f71, uq := false, total := true }
def f71_E : Env := [(22, f22_e)]
def f71_A : Anns := { loops := [], own := [] }
theorem f71_run (a0 : List ((Int × Int × Int) × Int × Int)) (K : (List ((Int × Int × Int) × Int × Int) × Int) → Prop) : runF Try.prog f71_E f71_A 6 Try.f71 f71_e.doms f71_e.cods a0 K =
    (K (a0, (f22 a0).2)) := by kernel_rfl
theorem f71_t (a0 : List ((Int × Int × Int) × Int × Int)) (K : (List ((Int × Int × Int) × Int × Int) × Int) → Prop) (hK : ∀ y : List ((Int × Int × Int) × Int × Int) × Int, y = f71 a0 → K y) : RunF Try.prog f71_E f71_A 6 Try.f71 f71_e.doms f71_e.cods a0 K := by
  refine ⟨?_⟩
  rw [f71_run a0 K]
  exact hK _ rfl
theorem f71_fn : f71_e.fn = f71 := rfl
theorem f71_ok : EntryOK Try.prog 71 f71_e := by
  refine entryF progOK (EnvOK.cons f22_ok (EnvOK.nil)) (A := f71_A) (d := 6) Try.func71 rfl rfl rfl rfl (fun _ _ => trivial) fun x hpre => ?_
  exact f71_t x _ fun _ h => h.trans (congrFun f71_fn.symm _)
end Go.Proofs.Ytglijnhkdnhofaa
end

section
namespace Go.Proofs.Ytglijnhkdnhofaa
open Go Go.Pi Go.RowKit
set_option maxRecDepth 100000
set_option linter.unusedVariables false
set_option linter.unusedSimpArgs false

def f102 (x : Int × Int × Int × Int) : Int × Int × Int := (x.1, x.2.1, x.2.2.1)
def f102_e : Entry := { doms := [(true, (.pair (.int .i64) (.pair (.int .i64) (.pair (.int .i64) (.int .i64)))))], cods := [(true, (.pair (.int .i64) (.pair (.int .i64) (.int .i64))))], pre := fun _ => True, fn := f102, uq := false, total := true }
def f102_E : Env := []
def f102_A : Anns := { loops := [], own := [] }
theorem f102_run (a0 : Int × Int × Int × Int) (K : (Int × Int × Int) → Prop) : runF Try.prog f102_E f102_A 6 Try.f102 f102_e.doms f102_e.cods a0 K =
    (K (a0.1, (a0.2.1, a0.2.2.1))) := by kernel_rfl
theorem f102_t (a0 : Int × Int × Int × Int) (K : (Int × Int × Int) → Prop) (hK : ∀ y : Int × Int × Int, y = f102 a0 → K y) : RunF Try.prog f102_E f102_A 6 Try.f102 f102_e.doms f102_e.cods a0 K := by
  refine ⟨?_⟩
  rw [f102_run a0 K]
  exact hK _ rfl
theorem f102_fn : f102_e.fn = f102 := rfl
theorem f102_ok : EntryOK Try.prog 102 f102_e := by
  refine entryF progOK (EnvOK.nil) (A := f102_A) (d := 6) Try.func102 rfl rfl rfl rfl (fun _ _ => trivial) fun x hpre => ?_
  exact f102_t x _ fun _ h => h.trans (congrFun f102_fn.symm _)
end Go.Proofs.Ytglijnhkdnhofaa
end

section
namespace Go.Proofs.Ytglijnhkdnhofaa
open Go Go.Pi Go.RowKit
set_option maxRecDepth 100000
set_option linter.unusedVariables false
set_option linter.unusedSimpArgs false

def f103 (x : (Int × Int × Int) × Int × Int × Int) : Int := w64 (dot x.1 x.2)
def f103_e : Entry := { doms := [(true, (.pair (.int .i64) (.pair (.int .i64) (.int .i64)))), (true, (.pair (.int .i64) (.pair (.int .i64) (.int .i64))))], cods := [(false, (.int .i64))], pre := fun _ => True, fn := f103, uq := false, total := true }
def f103_E : Env := []
def f103_A : Anns := { loops := [], own := [] }
theorem f103_run (a0 : Int × Int × Int) (a1 : Int × Int × Int) (K : Int → Prop) : runF Try.prog f103_E f103_A 6 Try.f103 f103_e.doms f103_e.cods (a0, a1) K =
    (K (IntKind.i64.wrap ((IntKind.i64.wrap ((IntKind.i64.wrap (a0.1 * a1.1)) + (IntKind.i64.wrap (a0.2.1 * a1.2.1)))) + (IntKind.i64.wrap (a0.2.2 * a1.2.2))))) := by kernel_rfl
theorem f103_t (a0 : Int × Int × Int) (a1 : Int × Int × Int) (K : Int → Prop) (hK : ∀ y : Int, y = f103 (a0, a1) → K y) : RunF Try.prog f103_E f103_A 6 Try.f103 f103_e.doms f103_e.cods (a0, a1) K := by
  refine ⟨?_⟩
  rw [f103_run a0 a1 K]
  exact hK _ (by simp only [f103, w64, dot, wrap_add_l, wrap_add_r])
theorem f103_fn : f103_e.fn = f103 := rfl
theorem f103_ok : EntryOK Try.prog 103 f103_e := by
  refine entryF progOK (EnvOK.nil) (A := f103_A) (d := 6) Try.func103 rfl rfl rfl rfl (fun _ _ => trivial) fun x hpre => ?_
  obtain ⟨a0, a1⟩ := x
  exact f103_t a0 a1 _ fun _ h => h.trans (congrFun f103_fn.symm _)
end Go.Proofs.Ytglijnhkdnhofaa
end

section
namespace Go.Proofs.Ytglijnhkdnhofaa
open Go Go.Pi Go.RowKit
set_option maxRecDepth 100000
set_option linter.unusedVariables false
set_option linter.unusedSimpArgs false

def f83 (x : List ((Int × Int × Int) × Int × Int) × Int × Int × Int × Int) : Bool := x.1.all (agR · x.2)
def f83_e : Entry := { doms := [(false, (.sl (.pair (.pair (.int .i64) (.pair (.int .i64) (.int .i64))) (.pair (.int .i64) (.int .i64))))), (true, (.pair (.int .i64) (.pair (.int .i64) (.pair (.int .i64) (.int .i64)))))], cods := [(false, .bool)], pre := fun _ => True, fn := f83, uq := false, total := true }
def f83_E : Env := [(61, f61_e), (102, f102_e), (103, f103_e)]
def f83_A : Anns := { loops := [(1048576, { tms := [(3, .keep), (8, .keep), (9, .keep), (10, .data false (.int .i64))], obs := [(1048576, .keep)], fz := [] })], own := [] }
theorem f83_run (a0 : List ((Int × Int × Int) × Int × Int)) (a1 : Int × Int × Int × Int) (K : Bool → Prop) : runF Try.prog f83_E f83_A 6 Try.f83 f83_e.doms f83_e.cods (a0, a1) K =
    (br (lenOk (a0.length))
    (LoopP (V := Int × Unit) (fun again v => (fun (again1 : Int → Prop) (v1_0 : Int) =>
    br (decide (v1_0 < ((a0.length) : Int)))
    (br (decide (0 ≤ v1_0) && decide (v1_0 < ((a0.length) : Int)))
    (br (!(f61 ((f103 (((f102 a1).1, ((f102 a1).2)), (((a0.getD v1_0.toNat ((0, (0, 0)), (0, 0))).1).1, (((a0.getD v1_0.toNat ((0, (0, 0)), (0, 0))).1).2)))), ((IntKind.i64.wrap (((a0.getD v1_0.toNat ((0, (0, 0)), (0, 0))).2).1 * a1.2.2.2)), (IntKind.i64.wrap (((a0.getD v1_0.toNat ((0, (0, 0)), (0, 0))).2).2 * a1.2.2.2))))))
    (K false)
    (again1 (IntKind.i64.wrap (v1_0 + 1))))
    False)
    (K true))
    (fun v1_0 => again (v1_0, ())) v.1) (0, ()))
    True) := by kernel_rfl
theorem f83_t (a0 : List ((Int × Int × Int) × Int × Int)) (a1 : Int × Int × Int × Int) (K : Bool → Prop) (hK : ∀ y : Bool, y = f83 (a0, a1) → K y) : RunF Try.prog f83_E f83_A 6 Try.f83 f83_e.doms f83_e.cods (a0, a1) K := by
  refine ⟨?_⟩
  rw [f83_run a0 a1 K]
  rw [br_true_, lenOk_iff]
  intro hl
  refine LoopP.up a0.length (fun i _ => ∀ r ∈ a0.take i.toNat, agR r a1 = true) (fun again i v h0 hn hI hag => ?_) (by omega) all_zero
  dsimp only
  refine br_if (fun hlt => br_must (inb h0 hlt) ?_) fun hlt => hK _ ?_
  · rw [wr (n := i + 1) (by omega) (by omega), f61_eq]
    generalize hx : a0.getD i.toNat ((0, 0, 0), 0, 0) = x at *
    have e : f103 (f102 a1, x.1) = w64 (dot x.1 (wpt a1)) := by rw [dot_comm]; rfl
    show br (!(decide (w64 (x.2.1 * a1.2.2.2) ≤ f103 (f102 a1, x.1) ∧ f103 (f102 a1, x.1) ≤ w64 (x.2.2 * a1.2.2.2)))) _ _
    rw [e]
    refine br_two (fun h => hK _ ?_) fun h => hag () hlt (all_step (d := ((0, 0, 0), 0, 0)) h0 hlt hI ?_)
    · rw [f83]
      refine (List.all_eq_false.2 ⟨x, ?_, ?_⟩).symm
      · rw [← hx, getD_lt (by omega)]; exact List.getElem_mem _
      · simp only [agR, decide_eq_true_eq]; exact nd_t.1 h
    · rw [hx, agR]; exact decide_eq_true (nd_f.1 h)
  · exact (List.all_eq_true.2 (all_done hlt hI)).symm
theorem f83_fn : f83_e.fn = f83 := rfl
theorem f83_ok : EntryOK Try.prog 83 f83_e := by
  refine entryF progOK (EnvOK.cons f61_ok (EnvOK.cons f102_ok (EnvOK.cons f103_ok (EnvOK.nil)))) (A := f83_A) (d := 6) Try.func83 rfl rfl rfl rfl (fun _ _ => trivial) fun x hpre => ?_
  obtain ⟨a0, a1⟩ := x
  exact f83_t a0 a1 _ fun _ h => h.trans (congrFun f83_fn.symm _)
end Go.Proofs.Ytglijnhkdnhofaa
end

section
namespace Go.Proofs.Ytglijnhkdnhofaa
open Go Go.Pi Go.RowKit
set_option maxRecDepth 100000
set_option linter.unusedVariables false
set_option linter.unusedSimpArgs false

def f76 (x : (Int × Int × Int) × Int × Int × Int) : Int × Int × Int := w3 (cross x.1 x.2)
def f76_e : Entry := { doms := [(true, (.pair (.int .i64) (.pair (.int .i64) (.int .i64)))), (true, (.pair (.int .i64) (.pair (.int .i64) (.int .i64))))], cods := [(true, (.pair (.int .i64) (.pair (.int .i64) (.int .i64))))], pre := fun _ => True, fn := f76, uq := false, total := true }
def f76_E : Env := []
def f76_A : Anns := { loops := [], own := [] }
theorem f76_run (a0 : Int × Int × Int) (a1 : Int × Int × Int) (K : (Int × Int × Int) → Prop) : runF Try.prog f76_E f76_A 6 Try.f76 f76_e.doms f76_e.cods (a0, a1) K =
    (K ((IntKind.i64.wrap ((IntKind.i64.wrap (a0.2.1 * a1.2.2)) - (IntKind.i64.wrap (a0.2.2 * a1.2.1)))), ((IntKind.i64.wrap ((IntKind.i64.wrap (a0.2.2 * a1.1)) - (IntKind.i64.wrap (a0.1 * a1.2.2)))), (IntKind.i64.wrap ((IntKind.i64.wrap (a0.1 * a1.2.1)) - (IntKind.i64.wrap (a0.2.1 * a1.1))))))) := by kernel_rfl
theorem f76_t (a0 : Int × Int × Int) (a1 : Int × Int × Int) (K : (Int × Int × Int) → Prop) (hK : ∀ y : Int × Int × Int, y = f76 (a0, a1) → K y) : RunF Try.prog f76_E f76_A 6 Try.f76 f76_e.doms f76_e.cods (a0, a1) K := by
  refine ⟨?_⟩
  rw [f76_run a0 a1 K]
  exact hK _ (by simp only [f76, w3, w64, cross, wrap_sub_l, wrap_sub_r])
theorem f76_fn : f76_e.fn = f76 := rfl
theorem f76_ok : EntryOK Try.prog 76 f76_e := by
  refine entryF progOK (EnvOK.nil) (A := f76_A) (d := 6) Try.func76 rfl rfl rfl rfl (fun _ _ => trivial) fun x hpre => ?_
  obtain ⟨a0, a1⟩ := x
  exact f76_t a0 a1 _ fun _ h => h.trans (congrFun f76_fn.symm _)
end Go.Proofs.Ytglijnhkdnhofaa
end

section
namespace Go.Proofs.Ytglijnhkdnhofaa
open Go Go.Pi Go.RowKit
set_option maxRecDepth 100000
set_option linter.unusedVariables false
set_option linter.unusedSimpArgs false

def f104 (x : (Int × Int × Int) × (Int × Int × Int) × Int × Int × Int) : Int := w64 (det x.1 x.2.1 x.2.2)
def f104_e : Entry := { doms := [(true, (.pair (.pair (.int .i64) (.pair (.int .i64) (.int .i64))) (.pair (.pair (.int .i64) (.pair (.int .i64) (.int .i64))) (.pair (.int .i64) (.pair (.int .i64) (.int .i64))))))], cods := [(false, (.int .i64))], pre := fun _ => True, fn := f104, uq := false, total := true }
def f104_E : Env := [(76, f76_e), (103, f103_e)]
def f104_A : Anns := { loops := [], own := [] }
theorem f104_run (a0 : (Int × Int × Int) × (Int × Int × Int) × Int × Int × Int) (K : Int → Prop) : runF Try.prog f104_E f104_A 6 Try.f104 f104_e.doms f104_e.cods a0 K =
    (K (f103 (a0.1, ((f76 a0.2).1, ((f76 a0.2).2))))) := by kernel_rfl
theorem f104_t (a0 : (Int × Int × Int) × (Int × Int × Int) × Int × Int × Int) (K : Int → Prop) (hK : ∀ y : Int, y = f104 a0 → K y) : RunF Try.prog f104_E f104_A 6 Try.f104 f104_e.doms f104_e.cods a0 K := by
  refine ⟨?_⟩
  rw [f104_run a0 K]
  refine hK _ ?_
  show f103 (a0.1, f76 a0.2) = _
  simp only [f103, f76, f104, det, dot_w]
theorem f104_fn : f104_e.fn = f104 := rfl
theorem f104_ok : EntryOK Try.prog 104 f104_e := by
  refine entryF progOK (EnvOK.cons f76_ok (EnvOK.cons f103_ok (EnvOK.nil))) (A := f104_A) (d := 6) Try.func104 rfl rfl rfl rfl (fun _ _ => trivial) fun x hpre => ?_
  exact f104_t x _ fun _ h => h.trans (congrFun f104_fn.symm _)
end Go.Proofs.Ytglijnhkdnhofaa
end
