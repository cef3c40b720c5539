/- What functions of the program compute, each proved once, part 1. -/
import Derived.Test.YtglijnhkdnhofaaGreatPiD
import Derived.Test.YtglijnhkdnhofaaGreatProg

section
namespace Go.Proofs.YtglijnhkdnhofaaGreat
set_option linter.unusedVariables false
set_option linter.unusedSimpArgs false
open Go Go.Pi
set_option maxRecDepth 100000
theorem progOK : ProgOK Tryz.prog := ⟨by kernel_rfl, by kernel_rfl⟩
end Go.Proofs.YtglijnhkdnhofaaGreat
end

section
namespace Go.Pi
set_option linter.unusedVariables false
theorem inb {i : Int} {n : Nat} (h0 : 0 ≤ i) (h1 : i < n) : (decide (0 ≤ i) && decide (i < (n : Int))) = true := by
  rw [decide_eq_true h0, decide_eq_true h1]; rfl
theorem not_true {b : Bool} : (!b) = true ↔ b = false := by cases b <;> simp
theorem not_false_ {b : Bool} : (!b) = false ↔ b = true := by cases b <;> simp
theorem cast_ne {a b : Nat} : ((a : Int) != (b : Int)) = true ↔ a ≠ b := by
  rw [bne_iff_ne]; omega
theorem cast_ne_f {a b : Nat} : ((a : Int) != (b : Int)) = false ↔ a = b := by
  rw [bne_eq_false_iff_eq]; omega
theorem cast_eq {a b : Nat} : ((a : Int) == (b : Int)) = true ↔ a = b := by
  rw [beq_iff_eq]; omega
theorem cast_eq_f {a b : Nat} : ((a : Int) == (b : Int)) = false ↔ a ≠ b := by
  rw [beq_eq_false_iff_ne]; omega
/-- The number and the error of the first invalid item. -/
def eachE (n : Nat) (e : Nat → Int) : Int × Int := match (List.range n).find? (fun i => e i != 0) with
  | some i => ((i : Int), e i)
  | none => (0, 0)
theorem eachE_none {n : Nat} {e : Nat → Int} (h : ∀ i, i < n → e i = 0) : eachE n e = (0, 0) := by
  unfold eachE
  rw [List.find?_eq_none.2 fun x hx => by simp [h x (List.mem_range.1 hx)]]
theorem eachE_some {n i : Nat} {e : Nat → Int} (hi : i < n) (h : ∀ j, j < i → e j = 0) (he : e i ≠ 0) : eachE n e = ((i : Int), e i) := by
  unfold eachE
  have : (List.range n).find? (fun i => e i != 0) = some i := by
    rw [List.find?_range_eq_some]
    exact ⟨by simpa using he, List.mem_range.2 hi, fun j hj => by simp [h j hj]⟩
  rw [this]
theorem eachE_zero {n : Nat} {e : Nat → Int} (h : (eachE n e).2 = 0) : ∀ i, i < n → e i = 0 := by
  unfold eachE at h
  split at h
  · rename_i i hf
    have := List.find?_some hf
    simp only [bne_iff_ne, ne_eq] at this
    exact absurd h this
  · rename_i hf
    intro i hi
    have := List.find?_eq_none.1 hf i (List.mem_range.2 hi)
    simpa using this
theorem eachE_congr {n : Nat} {e e' : Nat → Int} (h : ∀ i, i < n → e i = e' i) : eachE n e = eachE n e' := by
  by_cases hz : ∀ i, i < n → e i = 0
  · rw [eachE_none hz, eachE_none fun i hi => (h i hi).symm.trans (hz i hi)]
  · have : ∃ i, i < n ∧ e i ≠ 0 := by
      rcases Classical.em (∃ i, i < n ∧ e i ≠ 0) with h1 | h1
      · exact h1
      · exact absurd (fun i hi => Classical.byContradiction fun hn => h1 ⟨i, hi, hn⟩) hz
    obtain ⟨i, hi, hne, hmin⟩ : ∃ i, i < n ∧ e i ≠ 0 ∧ ∀ j, j < i → e j = 0 := by
      obtain ⟨i, hi, hne⟩ := this
      induction i using Nat.strongRecOn with
      | _ i ih =>
        by_cases hm : ∀ j, j < i → e j = 0
        · exact ⟨i, hi, hne, hm⟩
        · rcases Classical.em (∃ j, j < i ∧ e j ≠ 0) with ⟨j, hj, hj0⟩ | h1
          · exact ih j hj (Nat.lt_trans hj hi) hj0
          · exact absurd (fun j hj => Classical.byContradiction fun hn => h1 ⟨j, hj, hn⟩) hm
    rw [eachE_some hi hmin hne, eachE_some hi (fun j hj => (h j (Nat.lt_trans hj hi)).symm.trans (hmin j hj)) (fun e0 => hne ((h i hi).trans e0)), h i hi]
/-- A loop over items that are found valid one after the other. -/
theorem each_walk {n : Nat} {e : Nat → Int} {step : ((Int × Unit) → Prop) → (Int × Unit) → Prop}
    (h : ∀ (again : (Int × Unit) → Prop) (i : Nat), i ≤ n → (∀ j, j < i → e j = 0) → (i < n → e i = 0 → again (((i + 1 : Nat) : Int), ())) → step again ((i : Int), ())) : LoopP step (0, ()) := by
  refine LoopP.up n (fun i _ => ∀ j, j < i.toNat → e j = 0) (fun again i v hi0 hn hI hag => ?_) (by omega) (fun j hj => by simp at hj)
  obtain ⟨k, rfl⟩ := Int.eq_ofNat_of_zero_le hi0
  simp only [Int.toNat_natCast] at hI
  refine h again k (by omega) hI (fun hk he => hag () (by omega) fun j hj => ?_)
  by_cases hjk : j = k
  · rw [hjk]; exact he
  · exact hI j (by omega)
/-- A loop that looks for the first invalid item. -/
theorem each_loop {K : Int × Int → Prop} {n : Nat} {e : Nat → Int} (hK : K (eachE n e)) {step : ((Int × Unit) → Prop) → (Int × Unit) → Prop}
    (h : ∀ (again : (Int × Unit) → Prop) (i : Nat), i ≤ n → (∀ j, j < i → e j = 0) → (i < n → e i = 0 → again (((i + 1 : Nat) : Int), ())) → (i < n → e i ≠ 0 → K ((i : Int), e i)) → (i = n → K (0, 0)) → step again ((i : Int), ())) : LoopP step (0, ()) := by
  refine LoopP.up n (fun i _ => ∀ j, j < i.toNat → e j = 0) (fun again i v hi0 hn hI hag => ?_) (by omega) (fun j hj => by simp at hj)
  obtain ⟨k, rfl⟩ := Int.eq_ofNat_of_zero_le hi0
  simp only [Int.toNat_natCast] at hI
  refine h again k (by omega) hI (fun hk he => hag () (by omega) fun j hj => ?_) (fun hk he => ?_) (fun hk => ?_)
  · by_cases hjk : j = k
    · rw [hjk]; exact he
    · exact hI j (by omega)
  · have := hK
    rw [eachE_some hk hI he] at this
    exact this
  · subst hk
    have := hK
    rw [eachE_none hI] at this
    exact this
end Go.Pi
end

section
namespace Go.Pi
set_option linter.unusedVariables false
abbrev V3 := Int × Int × Int
abbrev Rd := V3 × Int × Int
abbrev WV := Int × Int × Int × Int
def dot (a b : V3) : Int := a.1 * b.1 + a.2.1 * b.2.1 + a.2.2 * b.2.2
def cross (a b : V3) : V3 := (a.2.1 * b.2.2 - a.2.2 * b.2.1, a.2.2 * b.1 - a.1 * b.2.2, a.1 * b.2.1 - a.2.1 * b.1)
def det (a b c : V3) : Int := dot a (cross b c)
def w64 (n : Int) : Int := IntKind.i64.wrap n
def w3 (a : V3) : V3 := (w64 a.1, w64 a.2.1, w64 a.2.2)
/-- Whole numbers of the machine, but the least one. -/
def Fit (n : Int) : Prop := -9223372036854775807 ≤ n ∧ n ≤ 9223372036854775807
instance (n : Int) : Decidable (Fit n) := inferInstanceAs (Decidable (_ ∧ _))
theorem w64_fit {n : Int} (h : Fit n) : w64 n = n := wr (by have := h.1; omega) (by have := h.2; omega)
theorem w64_in {n : Int} (h1 : -9223372036854775808 ≤ n) (h2 : n ≤ 9223372036854775807) : w64 n = n := wr h1 h2
theorem w64_congr {a b : Int} (h : ∃ k : Int, a = b + k * 18446744073709551616) : w64 a = w64 b := by
  obtain ⟨k, rfl⟩ := h
  exact wrap_shift b k
theorem w64_is (a : Int) : ∃ k : Int, w64 a = a + k * 18446744073709551616 := wrap_is a
theorem dot_w (a b : V3) : w64 (dot a (w3 b)) = w64 (dot a b) := by
  obtain ⟨k1, h1⟩ := w64_is b.1
  obtain ⟨k2, h2⟩ := w64_is b.2.1
  obtain ⟨k3, h3⟩ := w64_is b.2.2
  refine w64_congr ⟨a.1 * k1 + a.2.1 * k2 + a.2.2 * k3, ?_⟩
  simp only [dot, w3, h1, h2, h3]
  grind
theorem w3_eq {a : V3} (h1 : Fit a.1) (h2 : Fit a.2.1) (h3 : Fit a.2.2) : w3 a = a := by
  simp only [w3, w64_fit h1, w64_fit h2, w64_fit h3]

/-! ### sizes -/
theorem mul_le {a b A B : Int} (ha : -A ≤ a ∧ a ≤ A) (hb : -B ≤ b ∧ b ≤ B) : -(A * B) ≤ a * b ∧ a * b ≤ A * B := by
  have hA : 0 ≤ A := by omega
  have hB : 0 ≤ B := by omega
  have h1 : a.natAbs ≤ A.natAbs := by omega
  have h2 : b.natAbs ≤ B.natAbs := by omega
  have h3 : (a * b).natAbs ≤ (A * B).natAbs := by rw [Int.natAbs_mul, Int.natAbs_mul]; exact Nat.mul_le_mul h1 h2
  have h4 : 0 ≤ A * B := Int.mul_nonneg hA hB
  omega
/-- Vectors whose numbers are at most so great in size. -/
def V3.le (a : V3) (n : Int) : Prop := (-n ≤ a.1 ∧ a.1 ≤ n) ∧ (-n ≤ a.2.1 ∧ a.2.1 ≤ n) ∧ (-n ≤ a.2.2 ∧ a.2.2 ≤ n)
instance (a : V3) (n : Int) : Decidable (V3.le a n) := inferInstanceAs (Decidable (_ ∧ _ ∧ _))
theorem dot_le {a b : V3} {A B : Int} (ha : V3.le a A) (hb : V3.le b B) : -(3 * (A * B)) ≤ dot a b ∧ dot a b ≤ 3 * (A * B) := by
  have h1 := mul_le ha.1 hb.1
  have h2 := mul_le ha.2.1 hb.2.1
  have h3 := mul_le ha.2.2 hb.2.2
  simp only [dot]
  omega
theorem cross_le {a b : V3} {A B : Int} (ha : V3.le a A) (hb : V3.le b B) : V3.le (cross a b) (2 * (A * B)) := by
  have h1 := mul_le ha.2.1 hb.2.2
  have h2 := mul_le ha.2.2 hb.2.1
  have h3 := mul_le ha.2.2 hb.1
  have h4 := mul_le ha.1 hb.2.2
  have h5 := mul_le ha.1 hb.2.1
  have h6 := mul_le ha.2.1 hb.1
  simp only [cross, V3.le]
  omega
theorem det_le {a b c : V3} {A B C : Int} (ha : V3.le a A) (hb : V3.le b B) (hc : V3.le c C) : -(3 * (A * (2 * (B * C)))) ≤ det a b c ∧ det a b c ≤ 3 * (A * (2 * (B * C))) := dot_le ha (cross_le hb hc)

/-! ### the greatest common divisor -/
def gcdL (l : List Int) : Nat := l.foldl (fun g n => Nat.gcd g n.natAbs) 0
theorem gcdL_snoc (l : List Int) (n : Int) : gcdL (l ++ [n]) = Nat.gcd (gcdL l) n.natAbs := by simp [gcdL]
theorem natAbs_tmod (a b : Int) : (a.tmod b).natAbs = a.natAbs % b.natAbs := Int.natAbs_tmod a b
theorem foldl_gcd_fit {l : List Int} : ∀ {g : Nat}, g ≤ 9223372036854775807 → (∀ n ∈ l, Fit n) → l.foldl (fun g n => Nat.gcd g n.natAbs) g ≤ 9223372036854775807 := by
  induction l with
  | nil => intro g h _; exact h
  | cons n r ih =>
    intro g h hf
    refine ih ?_ fun m hm => hf m (.tail _ hm)
    have hn := hf n (.head _)
    have h1 : n.natAbs ≤ 9223372036854775807 := by have := hn.1; have := hn.2; omega
    rcases Nat.eq_zero_or_pos g with h0 | h0
    · subst h0; show Nat.gcd 0 n.natAbs ≤ _; rw [Nat.gcd_zero_left]; exact h1
    · exact Nat.le_trans (Nat.gcd_le_left _ h0) h
theorem gcdL_fit {l : List Int} (h : ∀ n ∈ l, Fit n) : gcdL l ≤ 9223372036854775807 := foldl_gcd_fit (by omega) h
theorem minmax_abs {a : Int} (h : Fit a) : minmax true a (IntKind.i64.wrap (0 - a)) = (a.natAbs : Int) := by
  rw [show IntKind.i64.wrap (0 - a) = 0 - a from w64_in (by have := h.2; omega) (by have := h.1; omega)]
  simp only [minmax]
  split <;> omega
/-- A Euclidean round. -/
theorem gcd_step (a b : Int) (hb : b ≠ 0) : Nat.gcd b.natAbs (a.tmod b).natAbs = Nat.gcd a.natAbs b.natAbs := by
  rw [natAbs_tmod, Nat.gcd_comm a.natAbs, Nat.gcd_comm b.natAbs, ← Nat.gcd_rec]
theorem tmod_fit {a b : Int} (ha : Fit a) (hb : b ≠ 0) : Fit (a.tmod b) := by
  have h1 := natAbs_tmod a b
  have h2 : a.natAbs % b.natAbs ≤ a.natAbs := Nat.mod_le _ _
  have := ha.1
  have := ha.2
  constructor <;> omega
theorem tmod_lt {a b : Int} (hb : b ≠ 0) : (a.tmod b).natAbs < b.natAbs := by
  rw [natAbs_tmod]
  exact Nat.mod_lt _ (by omega)
theorem tdiv_fit {a b : Int} (ha : Fit a) : Fit (a.tdiv b) := by
  have h1 : (a.tdiv b).natAbs = a.natAbs / b.natAbs := Int.natAbs_tdiv a b
  have h2 : a.natAbs / b.natAbs ≤ a.natAbs := Nat.div_le_self _ _
  have := ha.1
  have := ha.2
  constructor <;> omega
theorem neg_fit {a : Int} (ha : Fit a) : Fit (0 - a) := by have := ha.1; have := ha.2; constructor <;> omega
/-- A fraction in lowest terms, its second part above 0. -/
def low (n d : Int) : Int × Int := if d < 0 then (n.tdiv (-(Nat.gcd n.natAbs d.natAbs : Int)), d.tdiv (-(Nat.gcd n.natAbs d.natAbs : Int))) else (n.tdiv (Nat.gcd n.natAbs d.natAbs : Int), d.tdiv (Nat.gcd n.natAbs d.natAbs : Int))

theorem floor_eq {a b : Int} (hb : 0 < b) : (if a.tmod b < 0 then a.tdiv b - 1 else a.tdiv b) = a / b := by
  have h1 := Int.tdiv_eq_ediv (a := a) (b := b)
  have h2 := Int.tmod_eq_emod (a := a) (b := b)
  have h3 := Int.emod_nonneg a (show b ≠ 0 by omega)
  have h4 := Int.emod_lt_of_pos a hb
  have h5 : b.sign = 1 := Int.sign_eq_one_of_pos hb
  by_cases h : 0 ≤ a ∨ b ∣ a
  · rw [if_pos h] at h1 h2
    rw [if_neg (by omega), h1]; omega
  · rw [if_neg h] at h1 h2
    rw [if_pos (by omega), h1]; omega
theorem ediv_fit {a b : Int} (ha : Fit a) (hb : 0 < b) : Fit (a / b) := by
  have h1 := ha.1
  have h2 := ha.2
  constructor
  · have : -9223372036854775807 * b ≤ -9223372036854775807 * 1 := Int.mul_le_mul_of_nonpos_left (by omega) (by omega)
    exact Int.le_ediv_of_mul_le hb (by omega)
  · have : 9223372036854775807 * 1 ≤ 9223372036854775807 * b := Int.mul_le_mul_of_nonneg_left (by omega) (by omega)
    have := Int.ediv_le_of_le_mul hb (show a ≤ 9223372036854775807 * b by omega)
    exact this

/-! ### errors -/
def dirE (d : V3) : Int := if ¬ V3.le d 9 then 2 else if d = (0, 0, 0) then 11 else 0
def rngE (r : Int × Int) (m : Int) : Int := if ¬ ((-m ≤ r.1 ∧ r.1 ≤ m) ∧ -m ≤ r.2 ∧ r.2 ≤ m) then 2 else if r.1 ≤ r.2 then 0 else 9
def rdE (r : Rd) : Int := if dirE r.1 ≠ 0 then dirE r.1 else rngE r.2 10000
def rd0 : Rd := ((0, 0, 0), 0, 0)
def rdOf (l : List Rd) : Int × Int := if l.length = 0 then (0, 10) else if l.length > 6 then (0, 8) else eachE l.length fun i => rdE (l.getD i rd0)
/-- Valid readings. -/
structure RdOK (l : List Rd) : Prop where
  pos : 0 < l.length
  six : l.length ≤ 6
  dir : ∀ r ∈ l, V3.le r.1 9 ∧ r.1 ≠ (0, 0, 0)
  rng : ∀ r ∈ l, -10000 ≤ r.2.1 ∧ r.2.1 ≤ r.2.2 ∧ r.2.2 ≤ 10000
theorem rdE_zero {r : Rd} (h : rdE r = 0) : (V3.le r.1 9 ∧ r.1 ≠ (0, 0, 0)) ∧ -10000 ≤ r.2.1 ∧ r.2.1 ≤ r.2.2 ∧ r.2.2 ≤ 10000 := by
  unfold rdE at h
  split at h
  · rename_i h1; exact absurd h h1
  · rename_i h1
    have h1 : dirE r.1 = 0 := Classical.byContradiction h1
    unfold dirE at h1
    unfold rngE at h
    split at h1
    · simp at h1
    · rename_i h2
      split at h1
      · simp at h1
      · rename_i h3
        split at h
        · simp at h
        · rename_i h4
          split at h
          · rename_i h5
            have h4 := Classical.byContradiction h4
            exact ⟨⟨Classical.byContradiction h2, h3⟩, by omega, h5, by omega⟩
          · simp at h
theorem rdOf_ok {l : List Rd} (h : (rdOf l).2 = 0) : RdOK l := by
  unfold rdOf at h
  split at h
  · simp at h
  · rename_i h1
    split at h
    · simp at h
    · rename_i h2
      have hz := eachE_zero h
      have hm : ∀ r ∈ l, rdE r = 0 := fun r hr => by
        obtain ⟨i, hi, e⟩ := List.getElem_of_mem hr
        have := hz i hi
        rwa [getD_lt hi, e] at this
      exact ⟨by omega, by omega, fun r hr => (rdE_zero (hm r hr)).1, fun r hr => (rdE_zero (hm r hr)).2⟩
def wpt (v : WV) : V3 := (v.1, v.2.1, v.2.2.1)
def windE (v : WV) : Int := if ¬ ((1 ≤ v.2.2.2 ∧ v.2.2.2 ≤ 1000000000) ∧ V3.le (wpt v) 1000000000000) then 2 else if gcdL [v.2.2.2, v.1, v.2.1, v.2.2.1] = 1 then 0 else 3
theorem windE_zero {v : WV} (h : windE v = 0) : (1 ≤ v.2.2.2 ∧ v.2.2.2 ≤ 1000000000) ∧ V3.le (wpt v) 1000000000000 ∧ gcdL [v.2.2.2, v.1, v.2.1, v.2.2.1] = 1 := by
  unfold windE at h
  split at h
  · simp at h
  · rename_i h1
    have h1 := Classical.byContradiction h1
    split at h
    · rename_i h2; exact ⟨h1.1, h1.2, h2⟩
    · simp at h
theorem gcdL_four (a b c d : Int) : gcdL [a, b, c, d] = Nat.gcd a.natAbs (Nat.gcd b.natAbs (Nat.gcd c.natAbs d.natAbs)) := by
  simp only [gcdL, List.foldl_cons, List.foldl_nil, Nat.gcd_zero_left, Nat.gcd_assoc]
theorem gcdL_three (a b c : Int) : gcdL [a, b, c] = Nat.gcd a.natAbs (Nat.gcd b.natAbs c.natAbs) := by
  simp only [gcdL, List.foldl_cons, List.foldl_nil, Nat.gcd_zero_left, Nat.gcd_assoc]
theorem gcd_fit {a b : Nat} (ha : a ≤ 9223372036854775807) (hb : b ≤ 9223372036854775807) : Nat.gcd a b ≤ 9223372036854775807 := by
  rcases Nat.eq_zero_or_pos a with h0 | h0
  · subst h0; rw [Nat.gcd_zero_left]; exact hb
  · exact Nat.le_trans (Nat.gcd_le_left _ h0) ha
theorem fit_nat {a : Nat} (h : a ≤ 9223372036854775807) : Fit (a : Int) := by constructor <;> omega
theorem fit_abs {a : Int} (h : Fit a) : a.natAbs ≤ 9223372036854775807 := by have := h.1; have := h.2; omega
theorem fit_le {a b : Int} (h : -b ≤ a ∧ a ≤ b) (hb : b ≤ 9223372036854775807) : Fit a := by constructor <;> omega
/-- Does a wind agree with a reading? -/
def agR (r : Rd) (v : WV) : Bool := decide (w64 (r.2.1 * v.2.2.2) ≤ w64 (dot r.1 (wpt v)) ∧ w64 (dot r.1 (wpt v)) ≤ w64 (r.2.2 * v.2.2.2))
theorem dot_comm (a b : V3) : dot a b = dot b a := by simp only [dot, Int.mul_comm]

/-- To the next: what is not true may be left. -/
theorem br_weak {b : Bool} {x : Prop} (h : x) : br b x True := br_true_.2 fun _ => h
theorem br_must {b : Bool} {x : Prop} (hb : b = true) (h : x) : br b x False := br_false_.2 ⟨hb, h⟩
theorem br_two {b : Bool} {x y : Prop} (h1 : b = true → x) (h2 : b = false → y) : br b x y := br_both.2 ⟨h1, h2⟩
theorem br_if {p : Prop} [Decidable p] {x y : Prop} (h1 : p → x) (h2 : ¬ p → y) : br (decide p) x y := br_dec.2 ⟨h1, h2⟩
theorem ne_zero_b {n : Int} (h : n ≠ 0) : (!(decide (n = 0))) = true := by simpa using h
theorem nd_t {p : Prop} [Decidable p] : (!(decide p)) = true ↔ ¬ p := by simp
theorem nd_f {p : Prop} [Decidable p] : (!(decide p)) = false ↔ p := by simp
theorem bne_t {a b : Int} : (a != b) = true ↔ a ≠ b := bne_iff_ne
theorem bne_f {a b : Int} : (a != b) = false ↔ a = b := bne_eq_false_iff_eq
end Go.Pi
end

section
namespace Go.Proofs.YtglijnhkdnhofaaGreat
open Go Go.Pi Go.RowKit
set_option maxRecDepth 100000
set_option linter.unusedVariables false
set_option linter.unusedSimpArgs false

def f65 (x : Int × Int × Int × Int) : Int × Int × Int := (x.1, x.2.1, x.2.2.1)
def f65_e : Entry := { doms := [(true, (.pair (.int .i64) (.pair (.int .i64) (.pair (.int .i64) (.int .i64)))))], cods := [(true, (.pair (.int .i64) (.pair (.int .i64) (.int .i64))))], pre := fun _ => True, fn := f65, uq := false, total := true }
def f65_E : Env := []
def f65_A : Anns := { loops := [], own := [] }
theorem f65_run (a0 : Int × Int × Int × Int) (K : (Int × Int × Int) → Prop) : runF Tryz.prog f65_E f65_A 6 Tryz.f65 f65_e.doms f65_e.cods a0 K =
    (K (a0.1, (a0.2.1, a0.2.2.1))) := by kernel_rfl
theorem f65_t (a0 : Int × Int × Int × Int) (K : (Int × Int × Int) → Prop) (hK : ∀ y : Int × Int × Int, y = f65 a0 → K y) : RunF Tryz.prog f65_E f65_A 6 Tryz.f65 f65_e.doms f65_e.cods a0 K := by
  refine ⟨?_⟩
  rw [f65_run a0 K]
  exact hK _ rfl
theorem f65_fn : f65_e.fn = f65 := rfl
theorem f65_ok : EntryOK Tryz.prog 65 f65_e := by
  refine entryF progOK (EnvOK.nil) (A := f65_A) (d := 6) Tryz.func65 rfl rfl rfl rfl (fun _ _ => trivial) fun x hpre => ?_
  exact f65_t x _ fun _ h => h.trans (congrFun f65_fn.symm _)
end Go.Proofs.YtglijnhkdnhofaaGreat
end

section
namespace Go.Proofs.YtglijnhkdnhofaaGreat
open Go Go.Pi Go.RowKit
set_option maxRecDepth 100000
set_option linter.unusedVariables false
set_option linter.unusedSimpArgs false

def f66 (x : (Int × Int × Int) × Int × Int × Int) : Int := w64 (dot x.1 x.2)
def f66_e : Entry := { doms := [(true, (.pair (.int .i64) (.pair (.int .i64) (.int .i64)))), (true, (.pair (.int .i64) (.pair (.int .i64) (.int .i64))))], cods := [(false, (.int .i64))], pre := fun _ => True, fn := f66, uq := false, total := true }
def f66_E : Env := []
def f66_A : Anns := { loops := [], own := [] }
theorem f66_run (a0 : Int × Int × Int) (a1 : Int × Int × Int) (K : Int → Prop) : runF Tryz.prog f66_E f66_A 6 Tryz.f66 f66_e.doms f66_e.cods (a0, a1) K =
    (K (IntKind.i64.wrap ((IntKind.i64.wrap ((IntKind.i64.wrap (a0.1 * a1.1)) + (IntKind.i64.wrap (a0.2.1 * a1.2.1)))) + (IntKind.i64.wrap (a0.2.2 * a1.2.2))))) := by kernel_rfl
theorem f66_t (a0 : Int × Int × Int) (a1 : Int × Int × Int) (K : Int → Prop) (hK : ∀ y : Int, y = f66 (a0, a1) → K y) : RunF Tryz.prog f66_E f66_A 6 Tryz.f66 f66_e.doms f66_e.cods (a0, a1) K := by
  refine ⟨?_⟩
  rw [f66_run a0 a1 K]
  exact hK _ (by simp only [f66, w64, dot, wrap_add_l, wrap_add_r])
theorem f66_fn : f66_e.fn = f66 := rfl
theorem f66_ok : EntryOK Tryz.prog 66 f66_e := by
  refine entryF progOK (EnvOK.nil) (A := f66_A) (d := 6) Tryz.func66 rfl rfl rfl rfl (fun _ _ => trivial) fun x hpre => ?_
  obtain ⟨a0, a1⟩ := x
  exact f66_t a0 a1 _ fun _ h => h.trans (congrFun f66_fn.symm _)
end Go.Proofs.YtglijnhkdnhofaaGreat
end

section
namespace Go.Proofs.YtglijnhkdnhofaaGreat
open Go Go.Pi Go.RowKit
set_option maxRecDepth 100000
set_option linter.unusedVariables false
set_option linter.unusedSimpArgs false

def f84 (x : Int × Int × Int) : Bool := decide (x.2.1 ≤ x.1) && decide (x.1 ≤ x.2.2)
def f84_e : Entry := { doms := [(false, (.int .i64)), (false, (.int .i64)), (false, (.int .i64))], cods := [(false, .bool)], pre := fun _ => True, fn := f84, uq := false, total := true }
def f84_E : Env := []
def f84_A : Anns := { loops := [], own := [] }
theorem f84_run (a0 : Int) (a1 : Int) (a2 : Int) (K : Bool → Prop) : runF Tryz.prog f84_E f84_A 6 Tryz.f84 f84_e.doms f84_e.cods (a0, a1, a2) K =
    (br (decide (a1 ≤ a0))
    (K (decide (a0 ≤ a2)))
    (K false)) := by kernel_rfl
theorem f84_t (a0 : Int) (a1 : Int) (a2 : Int) (K : Bool → Prop) (hK : ∀ y : Bool, y = f84 (a0, a1, a2) → K y) : RunF Tryz.prog f84_E f84_A 6 Tryz.f84 f84_e.doms f84_e.cods (a0, a1, a2) K := by
  refine ⟨?_⟩
  rw [f84_run a0 a1 a2 K]
  rw [br_dec]
  exact ⟨fun h => hK _ (by simp [f84, h]), fun h => hK _ (by simp [f84, h])⟩
theorem f84_fn : f84_e.fn = f84 := rfl
theorem f84_ok : EntryOK Tryz.prog 84 f84_e := by
  refine entryF progOK (EnvOK.nil) (A := f84_A) (d := 6) Tryz.func84 rfl rfl rfl rfl (fun _ _ => trivial) fun x hpre => ?_
  obtain ⟨a0, a1, a2⟩ := x
  exact f84_t a0 a1 a2 _ fun _ h => h.trans (congrFun f84_fn.symm _)
theorem f84_t1 {a b c : Int} : f84 (a, b, c) = true ↔ b ≤ a ∧ a ≤ c := by simp [f84]
theorem f84_f1 {a b c : Int} : f84 (a, b, c) = false ↔ ¬ (b ≤ a ∧ a ≤ c) := by rw [← Bool.not_eq_true, f84_t1]
theorem f84_eq {a b c : Int} : f84 (a, b, c) = decide (b ≤ a ∧ a ≤ c) := by simp [f84]
end Go.Proofs.YtglijnhkdnhofaaGreat
end

section
namespace Go.Proofs.YtglijnhkdnhofaaGreat
open Go Go.Pi Go.RowKit
set_option maxRecDepth 100000
set_option linter.unusedVariables false
set_option linter.unusedSimpArgs false

def f96 (x : List ((Int × Int × Int) × Int × Int) × Int × Int × Int × Int) : Bool := x.1.all (agR · x.2)
def f96_e : Entry := { doms := [(false, (.sl (.pair (.pair (.int .i64) (.pair (.int .i64) (.int .i64))) (.pair (.int .i64) (.int .i64))))), (true, (.pair (.int .i64) (.pair (.int .i64) (.pair (.int .i64) (.int .i64)))))], cods := [(false, .bool)], pre := fun _ => True, fn := f96, uq := false, total := true }
def f96_E : Env := [(65, f65_e), (66, f66_e), (84, f84_e)]
def f96_A : Anns := { loops := [(1048576, { tms := [(3, .keep), (8, .keep), (9, .keep), (10, .data false (.int .i64))], obs := [(1048576, .keep)], fz := [] })], own := [] }
theorem f96_run (a0 : List ((Int × Int × Int) × Int × Int)) (a1 : Int × Int × Int × Int) (K : Bool → Prop) : runF Tryz.prog f96_E f96_A 6 Tryz.f96 f96_e.doms f96_e.cods (a0, a1) K =
    (br (lenOk (a0.length))
    (LoopP (V := Int × Unit) (fun again v => (fun (again1 : Int → Prop) (v1_0 : Int) =>
    br (decide (v1_0 < ((a0.length) : Int)))
    (br (decide (0 ≤ v1_0) && decide (v1_0 < ((a0.length) : Int)))
    (br (!(f84 ((f66 (((f65 a1).1, ((f65 a1).2)), (((a0.getD v1_0.toNat ((0, (0, 0)), (0, 0))).1).1, (((a0.getD v1_0.toNat ((0, (0, 0)), (0, 0))).1).2)))), ((IntKind.i64.wrap (((a0.getD v1_0.toNat ((0, (0, 0)), (0, 0))).2).1 * a1.2.2.2)), (IntKind.i64.wrap (((a0.getD v1_0.toNat ((0, (0, 0)), (0, 0))).2).2 * a1.2.2.2))))))
    (K false)
    (again1 (IntKind.i64.wrap (v1_0 + 1))))
    False)
    (K true))
    (fun v1_0 => again (v1_0, ())) v.1) (0, ()))
    True) := by kernel_rfl
theorem f96_t (a0 : List ((Int × Int × Int) × Int × Int)) (a1 : Int × Int × Int × Int) (K : Bool → Prop) (hK : ∀ y : Bool, y = f96 (a0, a1) → K y) : RunF Tryz.prog f96_E f96_A 6 Tryz.f96 f96_e.doms f96_e.cods (a0, a1) K := by
  refine ⟨?_⟩
  rw [f96_run a0 a1 K]
  rw [br_true_, lenOk_iff]
  intro hl
  refine LoopP.up a0.length (fun i _ => ∀ r ∈ a0.take i.toNat, agR r a1 = true) (fun again i v h0 hn hI hag => ?_) (by omega) all_zero
  dsimp only
  refine br_if (fun hlt => br_must (inb h0 hlt) ?_) fun hlt => hK _ ?_
  · rw [wr (n := i + 1) (by omega) (by omega), f84_eq]
    generalize hx : a0.getD i.toNat ((0, 0, 0), 0, 0) = x at *
    have e : f66 (f65 a1, x.1) = w64 (dot x.1 (wpt a1)) := by rw [dot_comm]; rfl
    show br (!(decide (w64 (x.2.1 * a1.2.2.2) ≤ f66 (f65 a1, x.1) ∧ f66 (f65 a1, x.1) ≤ w64 (x.2.2 * a1.2.2.2)))) _ _
    rw [e]
    refine br_two (fun h => hK _ ?_) fun h => hag () hlt (all_step (d := ((0, 0, 0), 0, 0)) h0 hlt hI ?_)
    · rw [f96]
      refine (List.all_eq_false.2 ⟨x, ?_, ?_⟩).symm
      · rw [← hx, getD_lt (by omega)]; exact List.getElem_mem _
      · simp only [agR, decide_eq_true_eq]; exact nd_t.1 h
    · rw [hx, agR]; exact decide_eq_true (nd_f.1 h)
  · exact (List.all_eq_true.2 (all_done hlt hI)).symm
theorem f96_fn : f96_e.fn = f96 := rfl
theorem f96_ok : EntryOK Tryz.prog 96 f96_e := by
  refine entryF progOK (EnvOK.cons f65_ok (EnvOK.cons f66_ok (EnvOK.cons f84_ok (EnvOK.nil)))) (A := f96_A) (d := 6) Tryz.func96 rfl rfl rfl rfl (fun _ _ => trivial) fun x hpre => ?_
  obtain ⟨a0, a1⟩ := x
  exact f96_t a0 a1 _ fun _ h => h.trans (congrFun f96_fn.symm _)
end Go.Proofs.YtglijnhkdnhofaaGreat
end

section
namespace Go.Proofs.YtglijnhkdnhofaaGreat
open Go Go.Pi Go.RowKit
set_option maxRecDepth 100000
set_option linter.unusedVariables false
set_option linter.unusedSimpArgs false

def f120 (x : (Int × Int × Int) × Int × Int × Int) : Int × Int × Int := w3 (cross x.1 x.2)
def f120_e : Entry := { doms := [(true, (.pair (.int .i64) (.pair (.int .i64) (.int .i64)))), (true, (.pair (.int .i64) (.pair (.int .i64) (.int .i64))))], cods := [(true, (.pair (.int .i64) (.pair (.int .i64) (.int .i64))))], pre := fun _ => True, fn := f120, uq := false, total := true }
def f120_E : Env := []
def f120_A : Anns := { loops := [], own := [] }
theorem f120_run (a0 : Int × Int × Int) (a1 : Int × Int × Int) (K : (Int × Int × Int) → Prop) : runF Tryz.prog f120_E f120_A 6 Tryz.f120 f120_e.doms f120_e.cods (a0, a1) K =
    (K ((IntKind.i64.wrap ((IntKind.i64.wrap (a0.2.1 * a1.2.2)) - (IntKind.i64.wrap (a0.2.2 * a1.2.1)))), ((IntKind.i64.wrap ((IntKind.i64.wrap (a0.2.2 * a1.1)) - (IntKind.i64.wrap (a0.1 * a1.2.2)))), (IntKind.i64.wrap ((IntKind.i64.wrap (a0.1 * a1.2.1)) - (IntKind.i64.wrap (a0.2.1 * a1.1))))))) := by kernel_rfl
theorem f120_t (a0 : Int × Int × Int) (a1 : Int × Int × Int) (K : (Int × Int × Int) → Prop) (hK : ∀ y : Int × Int × Int, y = f120 (a0, a1) → K y) : RunF Tryz.prog f120_E f120_A 6 Tryz.f120 f120_e.doms f120_e.cods (a0, a1) K := by
  refine ⟨?_⟩
  rw [f120_run a0 a1 K]
  exact hK _ (by simp only [f120, w3, w64, cross, wrap_sub_l, wrap_sub_r])
theorem f120_fn : f120_e.fn = f120 := rfl
theorem f120_ok : EntryOK Tryz.prog 120 f120_e := by
  refine entryF progOK (EnvOK.nil) (A := f120_A) (d := 6) Tryz.func120 rfl rfl rfl rfl (fun _ _ => trivial) fun x hpre => ?_
  obtain ⟨a0, a1⟩ := x
  exact f120_t a0 a1 _ fun _ h => h.trans (congrFun f120_fn.symm _)
end Go.Proofs.YtglijnhkdnhofaaGreat
end

section
namespace Go.Proofs.YtglijnhkdnhofaaGreat
open Go Go.Pi Go.RowKit
set_option maxRecDepth 100000
set_option linter.unusedVariables false
set_option linter.unusedSimpArgs false

def f109 (x : (Int × Int × Int) × (Int × Int × Int) × Int × Int × Int) : Int := w64 (det x.1 x.2.1 x.2.2)
def f109_e : Entry := { doms := [(true, (.pair (.pair (.int .i64) (.pair (.int .i64) (.int .i64))) (.pair (.pair (.int .i64) (.pair (.int .i64) (.int .i64))) (.pair (.int .i64) (.pair (.int .i64) (.int .i64))))))], cods := [(false, (.int .i64))], pre := fun _ => True, fn := f109, uq := false, total := true }
def f109_E : Env := [(66, f66_e), (120, f120_e)]
def f109_A : Anns := { loops := [], own := [] }
theorem f109_run (a0 : (Int × Int × Int) × (Int × Int × Int) × Int × Int × Int) (K : Int → Prop) : runF Tryz.prog f109_E f109_A 6 Tryz.f109 f109_e.doms f109_e.cods a0 K =
    (K (f66 (a0.1, ((f120 a0.2).1, ((f120 a0.2).2))))) := by kernel_rfl
theorem f109_t (a0 : (Int × Int × Int) × (Int × Int × Int) × Int × Int × Int) (K : Int → Prop) (hK : ∀ y : Int, y = f109 a0 → K y) : RunF Tryz.prog f109_E f109_A 6 Tryz.f109 f109_e.doms f109_e.cods a0 K := by
  refine ⟨?_⟩
  rw [f109_run a0 K]
  refine hK _ ?_
  show f66 (a0.1, f120 a0.2) = _
  simp only [f66, f120, f109, det, dot_w]
theorem f109_fn : f109_e.fn = f109 := rfl
theorem f109_ok : EntryOK Tryz.prog 109 f109_e := by
  refine entryF progOK (EnvOK.cons f66_ok (EnvOK.cons f120_ok (EnvOK.nil))) (A := f109_A) (d := 6) Tryz.func109 rfl rfl rfl rfl (fun _ _ => trivial) fun x hpre => ?_
  exact f109_t x _ fun _ h => h.trans (congrFun f109_fn.symm _)
end Go.Proofs.YtglijnhkdnhofaaGreat
end

section
namespace Go.Proofs.YtglijnhkdnhofaaGreat
open Go Go.Pi Go.RowKit
set_option maxRecDepth 100000
set_option linter.unusedVariables false
set_option linter.unusedSimpArgs false

def f126 (l : List Int) : Int := (gcdL l : Int)
def f126_pre (l : List Int) : Prop := ∀ n ∈ l, Fit n
def f126_e : Entry := { doms := [(false, (.sl (.int .i64)))], cods := [(false, (.int .i64))], pre := f126_pre, fn := f126, uq := false, total := false }
def f126_E : Env := []
def f126_A : Anns := { loops := [(1048576, { tms := [(3, .data false (.int .i64)), (7, .keep), (8, .keep), (9, .data false (.int .i64))], obs := [], fz := [] }),
  (1048578, { tms := [(3, .data false (.int .i64)), (6, .data false (.int .i64)), (7, .keep), (8, .keep), (9, .keep)], obs := [], fz := [] })], own := [] }
theorem f126_run (a0 : List Int) (K : Int → Prop) : runF Tryz.prog f126_E f126_A 6 Tryz.f126 f126_e.doms f126_e.cods a0 K =
    (br (lenOk (a0.length))
    (LoopP (V := Int × Int × Unit) (fun again v => (fun (again1 : Int → Int → Prop) (v1_0 : Int) (v1_1 : Int) =>
    br (decide (v1_1 < ((a0.length) : Int)))
    (br (decide (0 ≤ v1_1) && decide (v1_1 < ((a0.length) : Int)))
    (LoopP (V := Int × Int × Unit) (fun again v => (fun (again2 : Int → Int → Prop) (v2_0 : Int) (v2_1 : Int) =>
    br (v2_1 != 0)
    (br (!(decide (v2_1 = 0)))
    (again2 v2_1 (v2_0.tmod v2_1))
    False)
    (again1 v2_0 (IntKind.i64.wrap (v1_1 + 1))))
    (fun v2_0 v2_1 => again (v2_0, v2_1, ())) v.1 v.2.1) (v1_0, (a0.getD v1_1.toNat 0), ()))
    False)
    (K (minmax true v1_0 (IntKind.i64.wrap (0 - v1_0)))))
    (fun v1_0 v1_1 => again (v1_0, v1_1, ())) v.1 v.2.1) (0, 0, ()))
    True) := by kernel_rfl
theorem f126_t (a0 : List Int) (hpre : f126_pre a0) (K : Int → Prop) (hK : ∀ y : Int, y = f126 a0 → K y) : RunF Tryz.prog f126_E f126_A 6 Tryz.f126 f126_e.doms f126_e.cods a0 K := by
  refine ⟨?_⟩
  rw [f126_run a0 K]
  rw [br_true_, lenOk_iff]
  intro hl
  refine (LoopP.of (fun q : Int × Int × Unit => ∃ i : Nat, i ≤ a0.length ∧ q.2.1 = (i : Int) ∧ Fit q.1 ∧ q.1.natAbs = gcdL (a0.take i)) (fun q => ((a0.length : Int) - q.2.1).toNat) (fun again q hq hag => ?_) ⟨0, by omega, rfl, ⟨by simp, by simp⟩, by simp [gcdL]⟩)
  obtain ⟨g, j, u⟩ := q
  obtain ⟨i, hi, e1, qf1, hg⟩ := hq
  simp only at e1 qf1 hg
  subst e1
  dsimp only
  refine br_if (fun hlt => ?_) fun hlt => ?_
  · have hlt : i < a0.length := by omega
    refine br_must (inb (by omega) (by omega)) ?_
    have hn : Fit (a0.getD i 0) := hpre _ (by rw [getD_lt hlt]; exact List.getElem_mem _)
    rw [Int.toNat_natCast]
    refine LoopP.of (fun q : Int × Int × Unit => Fit q.1 ∧ Fit q.2.1 ∧ Nat.gcd q.1.natAbs q.2.1.natAbs = gcdL (a0.take (i + 1))) (fun q => q.2.1.natAbs) (fun again2 q hq hag2 => ?_) ⟨qf1, hn, ?_⟩
    · obtain ⟨a, b, u⟩ := q
      obtain ⟨qf1, qf2, hg⟩ := hq
      dsimp only at qf1 qf2 hg ⊢
      refine br_two (fun hb => ?_) fun hb => ?_
      · have hb := bne_t.1 hb
        exact br_must (ne_zero_b hb) (hag2 (b, a.tmod b, ()) ⟨qf2, tmod_fit qf1 hb, (gcd_step a b hb).trans hg⟩ (tmod_lt hb))
      · have hb := bne_f.1 hb
        subst hb
        rw [wr (n := (i : Int) + 1) (by omega) (by omega)]
        exact hag (a, (i : Int) + 1, ()) ⟨i + 1, by omega, by simp, qf1, by simpa using hg⟩ (by simp only; omega)
    · dsimp only
      rw [hg, List.take_add_one, List.getElem?_eq_getElem hlt, getD_lt hlt]
      simp only [Option.toList_some, gcdL_snoc]
  · refine hK _ ?_
    rw [minmax_abs qf1, hg, List.take_of_length_le (by omega)]
    rfl
theorem f126_fn : f126_e.fn = f126 := rfl
theorem f126_ok : EntryOK Tryz.prog 126 f126_e := by
  refine entryF progOK (EnvOK.nil) (A := f126_A) (d := 6) Tryz.func126 rfl rfl rfl rfl (fun h => by cases h) fun x hpre => ?_
  exact f126_t x hpre _ fun _ h => h.trans (congrFun f126_fn.symm _)
end Go.Proofs.YtglijnhkdnhofaaGreat
end

section
namespace Go.Pi
set_option linter.unusedVariables false
abbrev M3 := V3 × V3 × V3
def det3 (m : M3) : Int := det m.1 m.2.1 m.2.2
def c0 (m : M3) (v : V3) : M3 := ((v.1, m.1.2), (v.2.1, m.2.1.2), (v.2.2, m.2.2.2))
def c1 (m : M3) (v : V3) : M3 := ((m.1.1, v.1, m.1.2.2), (m.2.1.1, v.2.1, m.2.1.2.2), (m.2.2.1, v.2.2, m.2.2.2.2))
def c2 (m : M3) (v : V3) : M3 := ((m.1.1, m.1.2.1, v.1), (m.2.1.1, m.2.1.2.1, v.2.1), (m.2.2.1, m.2.2.2.1, v.2.2))
def g4 (p : V3) (d : Int) : Nat := gcdL [d, p.1, p.2.1, p.2.2]
def s4 (p : V3) (d : Int) : Int := if d < 0 then -(g4 p d : Int) else (g4 p d : Int)
/-- Three numbers over one, in lowest terms. -/
def lowV (p : V3) (d : Int) : WV := (p.1.tdiv (s4 p d), p.2.1.tdiv (s4 p d), p.2.2.tdiv (s4 p d), d.tdiv (s4 p d))
theorem s4_abs (p : V3) (d : Int) : (s4 p d).natAbs = g4 p d := by unfold s4; split <;> omega
theorem g4_dvd (p : V3) (d : Int) : (g4 p d ∣ d.natAbs) ∧ (g4 p d ∣ p.1.natAbs) ∧ (g4 p d ∣ p.2.1.natAbs) ∧ (g4 p d ∣ p.2.2.natAbs) := by
  unfold g4
  rw [gcdL_four]
  refine ⟨Nat.gcd_dvd_left _ _, Nat.dvd_trans (Nat.gcd_dvd_right _ _) (Nat.gcd_dvd_left _ _), Nat.dvd_trans (Nat.gcd_dvd_right _ _) (Nat.dvd_trans (Nat.gcd_dvd_right _ _) (Nat.gcd_dvd_left _ _)), Nat.dvd_trans (Nat.gcd_dvd_right _ _) (Nat.dvd_trans (Nat.gcd_dvd_right _ _) (Nat.gcd_dvd_right _ _))⟩
theorem g4_pos {p : V3} {d : Int} (h : d ≠ 0) : 0 < g4 p d := by
  unfold g4; rw [gcdL_four]; exact Nat.gcd_pos_of_pos_left _ (by omega)
theorem s4_ne {p : V3} {d : Int} (h : d ≠ 0) : s4 p d ≠ 0 := by have := s4_abs p d; have := g4_pos (p := p) h; omega
theorem s4_dvd {p : V3} {d n : Int} (h : g4 p d ∣ n.natAbs) : s4 p d ∣ n := by rw [← Int.natAbs_dvd_natAbs, s4_abs]; exact h
/-- Of a wind in lowest terms. -/
structure WOK (v : WV) : Prop where
  den : 0 < v.2.2.2
  low : gcdL [v.2.2.2, v.1, v.2.1, v.2.2.1] = 1
theorem lowV_ok {p : V3} {d : Int} (h : d ≠ 0) : WOK (lowV p d) := by
  have hne := s4_ne (p := p) h
  have hp := g4_pos (p := p) h
  obtain ⟨h0, h1, h2, h3⟩ := g4_dvd p d
  refine ⟨?_, ?_⟩
  · show 0 < d.tdiv (s4 p d)
    obtain ⟨k, hk⟩ := s4_dvd (p := p) h0
    have e : d.tdiv (s4 p d) = k := by
      have h9 := Int.mul_tdiv_cancel_left k hne
      rw [← hk] at h9
      exact h9
    rw [e]
    rcases Int.lt_trichotomy k 0 with hk0 | hk0 | hk0
    · exfalso
      unfold s4 at hk
      split at hk
      · rename_i hd
        have : 0 ≤ -(g4 p d : Int) * k := Int.mul_nonneg_of_nonpos_of_nonpos (by omega) (by omega)
        omega
      · rename_i hd
        have : (g4 p d : Int) * k ≤ 0 := Int.mul_nonpos_of_nonneg_of_nonpos (by omega) (by omega)
        omega
    · rw [hk0, Int.mul_zero] at hk; exact absurd hk h
    · exact hk0
  · show gcdL [d.tdiv (s4 p d), p.1.tdiv (s4 p d), p.2.1.tdiv (s4 p d), p.2.2.tdiv (s4 p d)] = 1
    rw [gcdL_four]
    have ea : ∀ n : Int, (n.tdiv (s4 p d)).natAbs = n.natAbs / g4 p d := fun n => by rw [← s4_abs p d]; exact Int.natAbs_tdiv n _
    simp only [ea]
    rw [Nat.gcd_div h2 h3, Nat.gcd_div h1 (Nat.dvd_gcd h2 h3), Nat.gcd_div h0 (Nat.dvd_gcd h1 (Nat.dvd_gcd h2 h3))]
    rw [← gcdL_four]
    exact Nat.div_self hp
theorem lowV_mul (p : V3) (d : Int) (h : d ≠ 0) : p.1 * (lowV p d).2.2.2 = (lowV p d).1 * d ∧ p.2.1 * (lowV p d).2.2.2 = (lowV p d).2.1 * d ∧ p.2.2 * (lowV p d).2.2.2 = (lowV p d).2.2.1 * d := by
  obtain ⟨h0, h1, h2, h3⟩ := g4_dvd p d
  have key : ∀ n : Int, g4 p d ∣ n.natAbs → n * d.tdiv (s4 p d) = n.tdiv (s4 p d) * d := fun n hn => by
    have e1 := Int.mul_tdiv_cancel' (s4_dvd (p := p) h0)
    have e2 := Int.mul_tdiv_cancel' (s4_dvd (p := p) hn)
    generalize d.tdiv (s4 p d) = x at *
    generalize n.tdiv (s4 p d) = y at *
    generalize s4 p d = s at *
    rw [← e1, ← e2]
    grind
  exact ⟨key _ h1, key _ h2, key _ h3⟩
theorem tdiv_size {n d m : Int} (h : -m ≤ n ∧ n ≤ m) : -m ≤ n.tdiv d ∧ n.tdiv d ≤ m := by
  have h1 : (n.tdiv d).natAbs = n.natAbs / d.natAbs := Int.natAbs_tdiv n d
  have h2 : n.natAbs / d.natAbs ≤ n.natAbs := Nat.div_le_self _ _
  omega
theorem lowV_le {p : V3} {d P D : Int} (hp : V3.le p P) (hd : -D ≤ d ∧ d ≤ D) : V3.le (wpt (lowV p d)) P ∧ (lowV p d).2.2.2 ≤ D :=
  ⟨⟨tdiv_size hp.1, tdiv_size hp.2.1, tdiv_size hp.2.2⟩, (tdiv_size hd).2⟩
/-- Winds in lowest terms with the same quotients are the same. -/
theorem WOK.eq {v w : WV} (hv : WOK v) (hw : WOK w) (h1 : v.1 * w.2.2.2 = w.1 * v.2.2.2) (h2 : v.2.1 * w.2.2.2 = w.2.1 * v.2.2.2) (h3 : v.2.2.1 * w.2.2.2 = w.2.2.1 * v.2.2.2) : v = w := by
  have key : ∀ {v w : WV}, WOK v → v.1 * w.2.2.2 = w.1 * v.2.2.2 → v.2.1 * w.2.2.2 = w.2.1 * v.2.2.2 → v.2.2.1 * w.2.2.2 = w.2.2.1 * v.2.2.2 → v.2.2.2.natAbs ∣ w.2.2.2.natAbs := fun {v w} hv h1 h2 h3 => by
    have hl := hv.low
    rw [gcdL_four] at hl
    have e : ∀ a b : Int, a * w.2.2.2 = b * v.2.2.2 → v.2.2.2.natAbs ∣ a.natAbs * w.2.2.2.natAbs := fun a b h => by
      rw [← Int.natAbs_mul, h, Int.natAbs_mul]; exact Nat.dvd_mul_left _ _
    have d3 := e _ _ h3
    have d2 := e _ _ h2
    have d1 := e _ _ h1
    have q1 := Nat.dvd_gcd d2 d3
    rw [Nat.gcd_mul_right] at q1
    have q2 := Nat.dvd_gcd d1 q1
    rw [Nat.gcd_mul_right] at q2
    have q3 := Nat.dvd_gcd (Nat.dvd_mul_right v.2.2.2.natAbs w.2.2.2.natAbs) q2
    rw [Nat.gcd_mul_right, hl, Nat.one_mul] at q3
    exact q3
  have hd : v.2.2.2 = w.2.2.2 := by
    have a := key hv h1 h2 h3
    have b := key hw h1.symm h2.symm h3.symm
    have c := Nat.dvd_antisymm a b
    have := hv.den
    have := hw.den
    omega
  have hne : w.2.2.2 ≠ 0 := by have := hw.den; omega
  obtain ⟨x, y, z, d⟩ := v
  obtain ⟨x', y', z', d'⟩ := w
  simp only at hd h1 h2 h3 hne
  subst hd
  rw [Int.eq_of_mul_eq_mul_right hne h1, Int.eq_of_mul_eq_mul_right hne h2, Int.eq_of_mul_eq_mul_right hne h3]

/-! ### the order -/
def firstN (a b c : Int) : Int := if a ≠ 0 then a else if b ≠ 0 then b else c
def ordC (a b : WV) : Int := firstN (a.1 * b.2.2.2 - b.1 * a.2.2.2) (a.2.1 * b.2.2.2 - b.2.1 * a.2.2.2) (a.2.2.1 * b.2.2.2 - b.2.2.1 * a.2.2.2)
/-- Quotients compared. -/
theorem q_lt {a b c p q r : Int} (hp : 0 < p) (hq : 0 < q) (hr : 0 < r) (h1 : a * q < b * p) (h2 : b * r ≤ c * q) : a * r < c * p := by
  have e1 : a * q * r < b * p * r := Int.mul_lt_mul_of_pos_right h1 hr
  have e2 : b * r * p ≤ c * q * p := Int.mul_le_mul_of_nonneg_right h2 (by omega)
  have e3 : (a * r) * q < (c * p) * q := by grind
  exact Int.lt_of_mul_lt_mul_right e3 (by omega)
theorem q_lt' {a b c p q r : Int} (hp : 0 < p) (hq : 0 < q) (hr : 0 < r) (h1 : a * q ≤ b * p) (h2 : b * r < c * q) : a * r < c * p := by
  have e1 : a * q * r ≤ b * p * r := Int.mul_le_mul_of_nonneg_right h1 (by omega)
  have e2 : b * r * p < c * q * p := Int.mul_lt_mul_of_pos_right h2 hp
  have e3 : (a * r) * q < (c * p) * q := by grind
  exact Int.lt_of_mul_lt_mul_right e3 (by omega)
theorem q_le {a b c p q r : Int} (hp : 0 < p) (hq : 0 < q) (hr : 0 < r) (h1 : a * q ≤ b * p) (h2 : b * r ≤ c * q) : a * r ≤ c * p := by
  have e1 : a * q * r ≤ b * p * r := Int.mul_le_mul_of_nonneg_right h1 (by omega)
  have e2 : b * r * p ≤ c * q * p := Int.mul_le_mul_of_nonneg_right h2 (by omega)
  have e3 : (a * r) * q ≤ (c * p) * q := by grind
  exact Int.le_of_mul_le_mul_right e3 (by omega)
def wlt (a b : WV) : Prop := ordC a b < 0
theorem wlt_iff {a b : WV} : wlt a b ↔ a.1 * b.2.2.2 < b.1 * a.2.2.2 ∨ (a.1 * b.2.2.2 = b.1 * a.2.2.2 ∧ (a.2.1 * b.2.2.2 < b.2.1 * a.2.2.2 ∨ (a.2.1 * b.2.2.2 = b.2.1 * a.2.2.2 ∧ a.2.2.1 * b.2.2.2 < b.2.2.1 * a.2.2.2))) := by
  unfold wlt ordC firstN
  split
  · omega
  · split <;> omega
theorem wlt_irrefl (a : WV) : ¬ wlt a a := by rw [wlt_iff]; omega
theorem wlt_trans {a b c : WV} (ha : 0 < a.2.2.2) (hb : 0 < b.2.2.2) (hc : 0 < c.2.2.2) (h1 : wlt a b) (h2 : wlt b c) : wlt a c := by
  rw [wlt_iff] at h1 h2 ⊢
  have le : ∀ {x y z : Int}, x * b.2.2.2 = y * a.2.2.2 → y * c.2.2.2 = z * b.2.2.2 → x * c.2.2.2 = z * a.2.2.2 := fun {x y z} e1 e2 =>
    Int.le_antisymm (q_le (b := y) ha hb hc (by omega) (by omega)) (q_le (b := y) hc hb ha (by omega) (by omega))
  rcases h1 with h1 | ⟨e1, h1⟩
  · rcases h2 with h2 | ⟨e2, _⟩
    · exact .inl (q_lt ha hb hc h1 (by omega))
    · exact .inl (q_lt ha hb hc h1 (by omega))
  · rcases h2 with h2 | ⟨e2, h2⟩
    · exact .inl (q_lt' ha hb hc (by omega) h2)
    · refine .inr ⟨le e1 e2, ?_⟩
      rcases h1 with h1 | ⟨e3, h1⟩
      · rcases h2 with h2 | ⟨e4, _⟩
        · exact .inl (q_lt ha hb hc h1 (by omega))
        · exact .inl (q_lt ha hb hc h1 (by omega))
      · rcases h2 with h2 | ⟨e4, h2⟩
        · exact .inl (q_lt' ha hb hc (by omega) h2)
        · exact .inr ⟨le e3 e4, q_lt ha hb hc h1 (by omega)⟩
theorem wlt_total {a b : WV} (ha : WOK a) (hb : WOK b) (h1 : ¬ wlt a b) (h2 : ¬ wlt b a) : a = b := by
  rw [wlt_iff] at h1 h2
  refine ha.eq hb ?_ ?_ ?_ <;> omega

/-! ### ascending winds -/
def insW (l : List WV) (v : WV) : List WV := match l with
  | [] => [v]
  | w :: r => if ordC w v < 0 then w :: insW r v else if w = v then w :: r else v :: w :: r
def sortW (l : List WV) : List WV := l.foldl insW []
def Asc (l : List WV) : Prop := l.Pairwise wlt
theorem insW_mem {v x : WV} : ∀ {l : List WV}, x ∈ insW l v ↔ x ∈ l ∨ x = v
  | [] => by simp [insW]
  | w :: r => by
    unfold insW
    split
    · simp only [List.mem_cons, insW_mem (l := r)]
      constructor
      · rintro (h | h | h)
        · exact .inl (.inl h)
        · exact .inl (.inr h)
        · exact .inr h
      · rintro ((h | h) | h)
        · exact .inl h
        · exact .inr (.inl h)
        · exact .inr (.inr h)
    · split
      · rename_i e
        subst e
        simp only [List.mem_cons]
        constructor
        · exact .inl
        · rintro (h | h)
          · exact h
          · exact .inl h
      · simp only [List.mem_cons]
        constructor
        · rintro (h | h)
          · exact .inr h
          · exact .inl h
        · rintro (h | h)
          · exact .inr h
          · exact .inl h
theorem insW_asc {v : WV} (hv : WOK v) : ∀ {l : List WV}, (∀ w ∈ l, WOK w) → Asc l → Asc (insW l v)
  | [], _, _ => by simp [insW, Asc]
  | w :: r, hl, ha => by
    have ha' := List.pairwise_cons.1 ha
    have hw := hl w (.head _)
    unfold insW
    split
    · rename_i h
      refine List.pairwise_cons.2 ⟨fun x hx => ?_, insW_asc hv (fun x hx => hl x (.tail _ hx)) ha'.2⟩
      rcases insW_mem.1 hx with hx | rfl
      · exact ha'.1 x hx
      · exact h
    · rename_i h
      split
      · exact ha
      · rename_i hne
        have hlt : wlt v w := Classical.byContradiction fun h2 => hne (wlt_total hw hv h h2)
        refine List.pairwise_cons.2 ⟨fun x hx => ?_, ha⟩
        rcases List.mem_cons.1 hx with rfl | hx
        · exact hlt
        · exact wlt_trans hv.den hw.den (hl x (.tail _ hx)).den hlt (ha'.1 x hx)
theorem foldW_mem {x : WV} : ∀ {l acc : List WV}, x ∈ l.foldl insW acc ↔ x ∈ acc ∨ x ∈ l
  | [], acc => by simp
  | v :: r, acc => by
    rw [List.foldl_cons, foldW_mem, insW_mem, List.mem_cons, or_assoc]
theorem foldW_asc : ∀ {l acc : List WV}, (∀ w ∈ acc, WOK w) → (∀ w ∈ l, WOK w) → Asc acc → Asc (l.foldl insW acc)
  | [], _, _, _, h => h
  | v :: r, acc, ha, hl, h => by
    rw [List.foldl_cons]
    refine foldW_asc (fun w hw => ?_) (fun w hw => hl w (.tail _ hw)) (insW_asc (hl v (.head _)) ha h)
    rcases insW_mem.1 hw with hw | rfl
    · exact ha w hw
    · exact hl _ (.head _)
/-- Ascending winds are told by what is among them. -/
theorem asc_eq : ∀ {a b : List WV}, (∀ w ∈ a, WOK w) → (∀ w ∈ b, WOK w) → Asc a → Asc b → (∀ x, x ∈ a ↔ x ∈ b) → a = b
  | [], [], _, _, _, _, _ => rfl
  | [], y :: s, _, _, _, _, h => absurd ((h y).2 (.head _)) (by simp)
  | x :: r, [], _, _, _, _, h => absurd ((h x).1 (.head _)) (by simp)
  | x :: r, y :: s, ha, hb, pa, pb, h => by
    have pa' := List.pairwise_cons.1 pa
    have pb' := List.pairwise_cons.1 pb
    have hx := ha x (.head _)
    have hy := hb y (.head _)
    have e : x = y := by
      rcases List.mem_cons.1 ((h x).1 (.head _)) with e | h1
      · exact e
      · rcases List.mem_cons.1 ((h y).2 (.head _)) with e | h2
        · exact e.symm
        · exact absurd (wlt_trans hx.den hy.den hx.den (pa'.1 y h2) (pb'.1 x h1)) (wlt_irrefl x)
    subst e
    have hn : ∀ z, z ∈ r → z ≠ x := fun z hz e => by subst e; exact wlt_irrefl _ (pa'.1 _ hz)
    have hm : ∀ z, z ∈ s → z ≠ x := fun z hz e => by subst e; exact wlt_irrefl _ (pb'.1 _ hz)
    rw [asc_eq (fun w hw => ha w (.tail _ hw)) (fun w hw => hb w (.tail _ hw)) pa'.2 pb'.2 fun z => ⟨fun hz => ?_, fun hz => ?_⟩]
    · rcases List.mem_cons.1 ((h z).1 (.tail _ hz)) with e | h1
      · exact absurd e (hn z hz)
      · exact h1
    · rcases List.mem_cons.1 ((h z).2 (.tail _ hz)) with e | h1
      · exact absurd e (hm z hz)
      · exact h1
theorem sortW_asc {l : List WV} (h : ∀ w ∈ l, WOK w) : Asc (sortW l) := foldW_asc (fun w hw => by cases hw) h List.Pairwise.nil
theorem sortW_mem {l : List WV} {x : WV} : x ∈ sortW l ↔ x ∈ l := by unfold sortW; rw [foldW_mem]; simp
theorem sortW_ok {l : List WV} (h : ∀ w ∈ l, WOK w) : ∀ w ∈ sortW l, WOK w := fun w hw => h w (sortW_mem.1 hw)
/-- A sorted order of winds that are all different is that one. -/
theorem sortW_eq {xs ys : List WV} (h : ∀ w ∈ xs, WOK w) (hn : xs.Nodup) (hp : ys.Perm xs) (hs : ys.Pairwise (fun a b => ¬ ordC b a < 0)) : ys = sortW xs := by
  have hy : ∀ w ∈ ys, WOK w := fun w hw => h w (hp.mem_iff.1 hw)
  have hyn : ys.Nodup := hp.nodup_iff.2 hn
  refine asc_eq hy (sortW_ok h) ?_ (sortW_asc h) fun x => by rw [sortW_mem, hp.mem_iff]
  have hboth := hs.and hyn
  refine List.Pairwise.imp_of_mem ?_ hboth
  intro a b ma mb hab
  exact Classical.byContradiction fun h1 => hab.2 (wlt_total (hy a ma) (hy b mb) h1 hab.1)

/-! ### solved out of three equations, as the machine does -/
def solP (x : M3 × V3) : V3 := (w64 (det3 (c0 x.1 x.2)), w64 (det3 (c1 x.1 x.2)), w64 (det3 (c2 x.1 x.2)))
def solD (x : M3 × V3) (by_ : Int) : Int := w64 (by_ * w64 (det3 x.1))
end Go.Pi
end

section
namespace Go.Proofs.YtglijnhkdnhofaaGreat
open Go Go.Pi Go.RowKit
set_option maxRecDepth 100000
set_option linter.unusedVariables false
set_option linter.unusedSimpArgs false

def f108 (x : (((Int × Int × Int) × (Int × Int × Int) × Int × Int × Int) × Int × Int × Int) × Int) : Int × Int × Int × Int := lowV (solP x.1) (solD x.1 x.2)
def f108_pre (x : (((Int × Int × Int) × (Int × Int × Int) × Int × Int × Int) × Int × Int × Int) × Int) : Prop := Fit (solD x.1 x.2) ∧ (Fit (solP x.1).1 ∧ Fit (solP x.1).2.1 ∧ Fit (solP x.1).2.2) ∧ solD x.1 x.2 ≠ 0
def f108_e : Entry := { doms := [(true, (.pair (.pair (.pair (.int .i64) (.pair (.int .i64) (.int .i64))) (.pair (.pair (.int .i64) (.pair (.int .i64) (.int .i64))) (.pair (.int .i64) (.pair (.int .i64) (.int .i64))))) (.pair (.int .i64) (.pair (.int .i64) (.int .i64))))), (false, (.int .i64))], cods := [(true, (.pair (.int .i64) (.pair (.int .i64) (.pair (.int .i64) (.int .i64)))))], pre := f108_pre, fn := f108, uq := false, total := false }
def f108_E : Env := [(109, f109_e), (126, f126_e)]
def f108_A : Anns := { loops := [], own := [1152921504607901698, 1152921504608950274, 1152921504609998850], unroll := 4 }
theorem f108_run (a0 : ((Int × Int × Int) × (Int × Int × Int) × Int × Int × Int) × Int × Int × Int) (a1 : Int) (K : (Int × Int × Int × Int) → Prop) : runF Tryz.prog f108_E f108_A 6 Tryz.f108 f108_e.doms f108_e.cods (a0, a1) K =
    (f126_pre ([(IntKind.i64.wrap (a1 * (f109 a0.1))), (f109 ((a0.2.1, a0.1.1.2), ((a0.2.2.1, a0.1.2.1.2), (a0.2.2.2, a0.1.2.2.2)))), (f109 ((a0.1.1.1, (a0.2.1, a0.1.1.2.2)), ((a0.1.2.1.1, (a0.2.2.1, a0.1.2.1.2.2)), (a0.1.2.2.1, (a0.2.2.2, a0.1.2.2.2.2))))), (f109 ((a0.1.1.1, (a0.1.1.2.1, a0.2.1)), ((a0.1.2.1.1, (a0.1.2.1.2.1, a0.2.2.1)), (a0.1.2.2.1, (a0.1.2.2.2.1, a0.2.2.2)))))] : List Int) ∧
    br (decide ((IntKind.i64.wrap (a1 * (f109 a0.1))) < 0))
    (br (!(decide ((IntKind.i64.wrap (0 - (f126 ([(IntKind.i64.wrap (a1 * (f109 a0.1))), (f109 ((a0.2.1, a0.1.1.2), ((a0.2.2.1, a0.1.2.1.2), (a0.2.2.2, a0.1.2.2.2)))), (f109 ((a0.1.1.1, (a0.2.1, a0.1.1.2.2)), ((a0.1.2.1.1, (a0.2.2.1, a0.1.2.1.2.2)), (a0.1.2.2.1, (a0.2.2.2, a0.1.2.2.2.2))))), (f109 ((a0.1.1.1, (a0.1.1.2.1, a0.2.1)), ((a0.1.2.1.1, (a0.1.2.1.2.1, a0.2.2.1)), (a0.1.2.2.1, (a0.1.2.2.2.1, a0.2.2.2)))))] : List Int)))) = 0)))
    (br (!(decide ((IntKind.i64.wrap (0 - (f126 ([(IntKind.i64.wrap (a1 * (f109 a0.1))), (f109 ((a0.2.1, a0.1.1.2), ((a0.2.2.1, a0.1.2.1.2), (a0.2.2.2, a0.1.2.2.2)))), (f109 ((a0.1.1.1, (a0.2.1, a0.1.1.2.2)), ((a0.1.2.1.1, (a0.2.2.1, a0.1.2.1.2.2)), (a0.1.2.2.1, (a0.2.2.2, a0.1.2.2.2.2))))), (f109 ((a0.1.1.1, (a0.1.1.2.1, a0.2.1)), ((a0.1.2.1.1, (a0.1.2.1.2.1, a0.2.2.1)), (a0.1.2.2.1, (a0.1.2.2.2.1, a0.2.2.2)))))] : List Int)))) = 0)))
    (br (!(decide ((IntKind.i64.wrap (0 - (f126 ([(IntKind.i64.wrap (a1 * (f109 a0.1))), (f109 ((a0.2.1, a0.1.1.2), ((a0.2.2.1, a0.1.2.1.2), (a0.2.2.2, a0.1.2.2.2)))), (f109 ((a0.1.1.1, (a0.2.1, a0.1.1.2.2)), ((a0.1.2.1.1, (a0.2.2.1, a0.1.2.1.2.2)), (a0.1.2.2.1, (a0.2.2.2, a0.1.2.2.2.2))))), (f109 ((a0.1.1.1, (a0.1.1.2.1, a0.2.1)), ((a0.1.2.1.1, (a0.1.2.1.2.1, a0.2.2.1)), (a0.1.2.2.1, (a0.1.2.2.2.1, a0.2.2.2)))))] : List Int)))) = 0)))
    (br (!(decide ((IntKind.i64.wrap (0 - (f126 ([(IntKind.i64.wrap (a1 * (f109 a0.1))), (f109 ((a0.2.1, a0.1.1.2), ((a0.2.2.1, a0.1.2.1.2), (a0.2.2.2, a0.1.2.2.2)))), (f109 ((a0.1.1.1, (a0.2.1, a0.1.1.2.2)), ((a0.1.2.1.1, (a0.2.2.1, a0.1.2.1.2.2)), (a0.1.2.2.1, (a0.2.2.2, a0.1.2.2.2.2))))), (f109 ((a0.1.1.1, (a0.1.1.2.1, a0.2.1)), ((a0.1.2.1.1, (a0.1.2.1.2.1, a0.2.2.1)), (a0.1.2.2.1, (a0.1.2.2.2.1, a0.2.2.2)))))] : List Int)))) = 0)))
    (K ((IntKind.i64.wrap ((f109 ((a0.2.1, a0.1.1.2), ((a0.2.2.1, a0.1.2.1.2), (a0.2.2.2, a0.1.2.2.2)))).tdiv (IntKind.i64.wrap (0 - (f126 ([(IntKind.i64.wrap (a1 * (f109 a0.1))), (f109 ((a0.2.1, a0.1.1.2), ((a0.2.2.1, a0.1.2.1.2), (a0.2.2.2, a0.1.2.2.2)))), (f109 ((a0.1.1.1, (a0.2.1, a0.1.1.2.2)), ((a0.1.2.1.1, (a0.2.2.1, a0.1.2.1.2.2)), (a0.1.2.2.1, (a0.2.2.2, a0.1.2.2.2.2))))), (f109 ((a0.1.1.1, (a0.1.1.2.1, a0.2.1)), ((a0.1.2.1.1, (a0.1.2.1.2.1, a0.2.2.1)), (a0.1.2.2.1, (a0.1.2.2.2.1, a0.2.2.2)))))] : List Int)))))), ((IntKind.i64.wrap ((f109 ((a0.1.1.1, (a0.2.1, a0.1.1.2.2)), ((a0.1.2.1.1, (a0.2.2.1, a0.1.2.1.2.2)), (a0.1.2.2.1, (a0.2.2.2, a0.1.2.2.2.2))))).tdiv (IntKind.i64.wrap (0 - (f126 ([(IntKind.i64.wrap (a1 * (f109 a0.1))), (f109 ((a0.2.1, a0.1.1.2), ((a0.2.2.1, a0.1.2.1.2), (a0.2.2.2, a0.1.2.2.2)))), (f109 ((a0.1.1.1, (a0.2.1, a0.1.1.2.2)), ((a0.1.2.1.1, (a0.2.2.1, a0.1.2.1.2.2)), (a0.1.2.2.1, (a0.2.2.2, a0.1.2.2.2.2))))), (f109 ((a0.1.1.1, (a0.1.1.2.1, a0.2.1)), ((a0.1.2.1.1, (a0.1.2.1.2.1, a0.2.2.1)), (a0.1.2.2.1, (a0.1.2.2.2.1, a0.2.2.2)))))] : List Int)))))), ((IntKind.i64.wrap ((f109 ((a0.1.1.1, (a0.1.1.2.1, a0.2.1)), ((a0.1.2.1.1, (a0.1.2.1.2.1, a0.2.2.1)), (a0.1.2.2.1, (a0.1.2.2.2.1, a0.2.2.2))))).tdiv (IntKind.i64.wrap (0 - (f126 ([(IntKind.i64.wrap (a1 * (f109 a0.1))), (f109 ((a0.2.1, a0.1.1.2), ((a0.2.2.1, a0.1.2.1.2), (a0.2.2.2, a0.1.2.2.2)))), (f109 ((a0.1.1.1, (a0.2.1, a0.1.1.2.2)), ((a0.1.2.1.1, (a0.2.2.1, a0.1.2.1.2.2)), (a0.1.2.2.1, (a0.2.2.2, a0.1.2.2.2.2))))), (f109 ((a0.1.1.1, (a0.1.1.2.1, a0.2.1)), ((a0.1.2.1.1, (a0.1.2.1.2.1, a0.2.2.1)), (a0.1.2.2.1, (a0.1.2.2.2.1, a0.2.2.2)))))] : List Int)))))), (IntKind.i64.wrap ((IntKind.i64.wrap (a1 * (f109 a0.1))).tdiv (IntKind.i64.wrap (0 - (f126 ([(IntKind.i64.wrap (a1 * (f109 a0.1))), (f109 ((a0.2.1, a0.1.1.2), ((a0.2.2.1, a0.1.2.1.2), (a0.2.2.2, a0.1.2.2.2)))), (f109 ((a0.1.1.1, (a0.2.1, a0.1.1.2.2)), ((a0.1.2.1.1, (a0.2.2.1, a0.1.2.1.2.2)), (a0.1.2.2.1, (a0.2.2.2, a0.1.2.2.2.2))))), (f109 ((a0.1.1.1, (a0.1.1.2.1, a0.2.1)), ((a0.1.2.1.1, (a0.1.2.1.2.1, a0.2.2.1)), (a0.1.2.2.1, (a0.1.2.2.2.1, a0.2.2.2)))))] : List Int))))))))))
    False)
    False)
    False)
    False)
    (br (!(decide ((f126 ([(IntKind.i64.wrap (a1 * (f109 a0.1))), (f109 ((a0.2.1, a0.1.1.2), ((a0.2.2.1, a0.1.2.1.2), (a0.2.2.2, a0.1.2.2.2)))), (f109 ((a0.1.1.1, (a0.2.1, a0.1.1.2.2)), ((a0.1.2.1.1, (a0.2.2.1, a0.1.2.1.2.2)), (a0.1.2.2.1, (a0.2.2.2, a0.1.2.2.2.2))))), (f109 ((a0.1.1.1, (a0.1.1.2.1, a0.2.1)), ((a0.1.2.1.1, (a0.1.2.1.2.1, a0.2.2.1)), (a0.1.2.2.1, (a0.1.2.2.2.1, a0.2.2.2)))))] : List Int)) = 0)))
    (br (!(decide ((f126 ([(IntKind.i64.wrap (a1 * (f109 a0.1))), (f109 ((a0.2.1, a0.1.1.2), ((a0.2.2.1, a0.1.2.1.2), (a0.2.2.2, a0.1.2.2.2)))), (f109 ((a0.1.1.1, (a0.2.1, a0.1.1.2.2)), ((a0.1.2.1.1, (a0.2.2.1, a0.1.2.1.2.2)), (a0.1.2.2.1, (a0.2.2.2, a0.1.2.2.2.2))))), (f109 ((a0.1.1.1, (a0.1.1.2.1, a0.2.1)), ((a0.1.2.1.1, (a0.1.2.1.2.1, a0.2.2.1)), (a0.1.2.2.1, (a0.1.2.2.2.1, a0.2.2.2)))))] : List Int)) = 0)))
    (br (!(decide ((f126 ([(IntKind.i64.wrap (a1 * (f109 a0.1))), (f109 ((a0.2.1, a0.1.1.2), ((a0.2.2.1, a0.1.2.1.2), (a0.2.2.2, a0.1.2.2.2)))), (f109 ((a0.1.1.1, (a0.2.1, a0.1.1.2.2)), ((a0.1.2.1.1, (a0.2.2.1, a0.1.2.1.2.2)), (a0.1.2.2.1, (a0.2.2.2, a0.1.2.2.2.2))))), (f109 ((a0.1.1.1, (a0.1.1.2.1, a0.2.1)), ((a0.1.2.1.1, (a0.1.2.1.2.1, a0.2.2.1)), (a0.1.2.2.1, (a0.1.2.2.2.1, a0.2.2.2)))))] : List Int)) = 0)))
    (br (!(decide ((f126 ([(IntKind.i64.wrap (a1 * (f109 a0.1))), (f109 ((a0.2.1, a0.1.1.2), ((a0.2.2.1, a0.1.2.1.2), (a0.2.2.2, a0.1.2.2.2)))), (f109 ((a0.1.1.1, (a0.2.1, a0.1.1.2.2)), ((a0.1.2.1.1, (a0.2.2.1, a0.1.2.1.2.2)), (a0.1.2.2.1, (a0.2.2.2, a0.1.2.2.2.2))))), (f109 ((a0.1.1.1, (a0.1.1.2.1, a0.2.1)), ((a0.1.2.1.1, (a0.1.2.1.2.1, a0.2.2.1)), (a0.1.2.2.1, (a0.1.2.2.2.1, a0.2.2.2)))))] : List Int)) = 0)))
    (K ((IntKind.i64.wrap ((f109 ((a0.2.1, a0.1.1.2), ((a0.2.2.1, a0.1.2.1.2), (a0.2.2.2, a0.1.2.2.2)))).tdiv (f126 ([(IntKind.i64.wrap (a1 * (f109 a0.1))), (f109 ((a0.2.1, a0.1.1.2), ((a0.2.2.1, a0.1.2.1.2), (a0.2.2.2, a0.1.2.2.2)))), (f109 ((a0.1.1.1, (a0.2.1, a0.1.1.2.2)), ((a0.1.2.1.1, (a0.2.2.1, a0.1.2.1.2.2)), (a0.1.2.2.1, (a0.2.2.2, a0.1.2.2.2.2))))), (f109 ((a0.1.1.1, (a0.1.1.2.1, a0.2.1)), ((a0.1.2.1.1, (a0.1.2.1.2.1, a0.2.2.1)), (a0.1.2.2.1, (a0.1.2.2.2.1, a0.2.2.2)))))] : List Int)))), ((IntKind.i64.wrap ((f109 ((a0.1.1.1, (a0.2.1, a0.1.1.2.2)), ((a0.1.2.1.1, (a0.2.2.1, a0.1.2.1.2.2)), (a0.1.2.2.1, (a0.2.2.2, a0.1.2.2.2.2))))).tdiv (f126 ([(IntKind.i64.wrap (a1 * (f109 a0.1))), (f109 ((a0.2.1, a0.1.1.2), ((a0.2.2.1, a0.1.2.1.2), (a0.2.2.2, a0.1.2.2.2)))), (f109 ((a0.1.1.1, (a0.2.1, a0.1.1.2.2)), ((a0.1.2.1.1, (a0.2.2.1, a0.1.2.1.2.2)), (a0.1.2.2.1, (a0.2.2.2, a0.1.2.2.2.2))))), (f109 ((a0.1.1.1, (a0.1.1.2.1, a0.2.1)), ((a0.1.2.1.1, (a0.1.2.1.2.1, a0.2.2.1)), (a0.1.2.2.1, (a0.1.2.2.2.1, a0.2.2.2)))))] : List Int)))), ((IntKind.i64.wrap ((f109 ((a0.1.1.1, (a0.1.1.2.1, a0.2.1)), ((a0.1.2.1.1, (a0.1.2.1.2.1, a0.2.2.1)), (a0.1.2.2.1, (a0.1.2.2.2.1, a0.2.2.2))))).tdiv (f126 ([(IntKind.i64.wrap (a1 * (f109 a0.1))), (f109 ((a0.2.1, a0.1.1.2), ((a0.2.2.1, a0.1.2.1.2), (a0.2.2.2, a0.1.2.2.2)))), (f109 ((a0.1.1.1, (a0.2.1, a0.1.1.2.2)), ((a0.1.2.1.1, (a0.2.2.1, a0.1.2.1.2.2)), (a0.1.2.2.1, (a0.2.2.2, a0.1.2.2.2.2))))), (f109 ((a0.1.1.1, (a0.1.1.2.1, a0.2.1)), ((a0.1.2.1.1, (a0.1.2.1.2.1, a0.2.2.1)), (a0.1.2.2.1, (a0.1.2.2.2.1, a0.2.2.2)))))] : List Int)))), (IntKind.i64.wrap ((IntKind.i64.wrap (a1 * (f109 a0.1))).tdiv (f126 ([(IntKind.i64.wrap (a1 * (f109 a0.1))), (f109 ((a0.2.1, a0.1.1.2), ((a0.2.2.1, a0.1.2.1.2), (a0.2.2.2, a0.1.2.2.2)))), (f109 ((a0.1.1.1, (a0.2.1, a0.1.1.2.2)), ((a0.1.2.1.1, (a0.2.2.1, a0.1.2.1.2.2)), (a0.1.2.2.1, (a0.2.2.2, a0.1.2.2.2.2))))), (f109 ((a0.1.1.1, (a0.1.1.2.1, a0.2.1)), ((a0.1.2.1.1, (a0.1.2.1.2.1, a0.2.2.1)), (a0.1.2.2.1, (a0.1.2.2.2.1, a0.2.2.2)))))] : List Int))))))))
    False)
    False)
    False)
    False)) := by kernel_rfl
theorem f108_t (a0 : ((Int × Int × Int) × (Int × Int × Int) × Int × Int × Int) × Int × Int × Int) (a1 : Int) (hpre : f108_pre (a0, a1)) (K : (Int × Int × Int × Int) → Prop) (hK : ∀ y : Int × Int × Int × Int, y = f108 (a0, a1) → K y) : RunF Tryz.prog f108_E f108_A 6 Tryz.f108 f108_e.doms f108_e.cods (a0, a1) K := by
  refine ⟨?_⟩
  rw [f108_run a0 a1 K]
  obtain ⟨hd, ⟨h1, h2, h3⟩, hne⟩ := hpre
  dsimp only at hd h1 h2 h3 hne
  have e0 : IntKind.i64.wrap (a1 * f109 a0.1) = solD a0 a1 := rfl
  have e1 : f109 ((a0.2.1, a0.1.1.2), (a0.2.2.1, a0.1.2.1.2), a0.2.2.2, a0.1.2.2.2) = (solP a0).1 := rfl
  have e2 : f109 ((a0.1.1.1, a0.2.1, a0.1.1.2.2), (a0.1.2.1.1, a0.2.2.1, a0.1.2.1.2.2), a0.1.2.2.1, a0.2.2.2, a0.1.2.2.2.2) = (solP a0).2.1 := rfl
  have e3 : f109 ((a0.1.1.1, a0.1.1.2.1, a0.2.1), (a0.1.2.1.1, a0.1.2.1.2.1, a0.2.2.1), a0.1.2.2.1, a0.1.2.2.2.1, a0.2.2.2) = (solP a0).2.2 := rfl
  rw [e0, e1, e2, e3]
  have hp : f126_pre [solD a0 a1, (solP a0).1, (solP a0).2.1, (solP a0).2.2] := fun n hn => by
    simp only [List.mem_cons, List.not_mem_nil, or_false] at hn
    rcases hn with rfl | rfl | rfl | rfl <;> assumption
  have hg : f126 [solD a0 a1, (solP a0).1, (solP a0).2.1, (solP a0).2.2] = (g4 (solP a0) (solD a0 a1) : Int) := rfl
  have hle : g4 (solP a0) (solD a0 a1) ≤ 9223372036854775807 := gcdL_fit hp
  have hpos := g4_pos (p := solP a0) hne
  have hng : IntKind.i64.wrap (0 - (g4 (solP a0) (solD a0 a1) : Int)) = -(g4 (solP a0) (solD a0 a1) : Int) := by rw [wr (by omega) (by omega)]; omega
  have hw : ∀ n m : Int, Fit n → IntKind.i64.wrap (n.tdiv m) = n.tdiv m := fun n m h => w64_fit (tdiv_fit h)
  have ef : f108 (a0, a1) = lowV (solP a0) (solD a0 a1) := rfl
  rw [hg, hng]
  refine ⟨hp, br_if (fun h => ?_) fun h => ?_⟩
  · have hn := ne_zero_b (show -(g4 (solP a0) (solD a0 a1) : Int) ≠ 0 by omega)
    refine br_must hn (br_must hn (br_must hn (br_must hn (hK _ ?_))))
    rw [hw _ _ h1, hw _ _ h2, hw _ _ h3, hw _ _ hd, ef]
    simp only [lowV, s4, if_pos h]
  · have hn := ne_zero_b (show (g4 (solP a0) (solD a0 a1) : Int) ≠ 0 by omega)
    refine br_must hn (br_must hn (br_must hn (br_must hn (hK _ ?_))))
    rw [hw _ _ h1, hw _ _ h2, hw _ _ h3, hw _ _ hd, ef]
    simp only [lowV, s4, if_neg h]
theorem f108_fn : f108_e.fn = f108 := rfl
theorem f108_ok : EntryOK Tryz.prog 108 f108_e := by
  refine entryF progOK (EnvOK.cons f109_ok (EnvOK.cons f126_ok (EnvOK.nil))) (A := f108_A) (d := 6) Tryz.func108 rfl rfl rfl rfl (fun h => by cases h) fun x hpre => ?_
  obtain ⟨a0, a1⟩ := x
  exact f108_t a0 a1 hpre _ fun _ h => h.trans (congrFun f108_fn.symm _)
end Go.Proofs.YtglijnhkdnhofaaGreat
end
