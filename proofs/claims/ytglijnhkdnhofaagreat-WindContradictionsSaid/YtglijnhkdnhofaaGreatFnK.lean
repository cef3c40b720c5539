/- What functions of the program compute, each proved once, part 11. -/
import Derived.Test.YtglijnhkdnhofaaGreatFnJ

section
namespace Go.Pi
set_option linter.unusedVariables false
def cnt (f : Nat → Int) : Nat → Nat
  | 0 => 0
  | n + 1 => cnt f n + if f n = 0 then 0 else 1
theorem cnt_le {f g : Nat → Int} : ∀ {n : Nat}, (∀ i, i < n → f i = 0 → g i = 0) → cnt g n ≤ cnt f n
  | 0, _ => Nat.le_refl _
  | n + 1, h => by
    have h1 := cnt_le (n := n) fun i hi => h i (by omega)
    have h2 := h n (by omega)
    rw [cnt, cnt]
    by_cases e : f n = 0
    · rw [if_pos e, if_pos (h2 e)]; exact h1
    · rw [if_neg e]; split <;> omega
theorem cnt_lt {f g : Nat → Int} {j : Nat} (hf : f j ≠ 0) (hg : g j = 0) : ∀ {n : Nat}, j < n → (∀ i, i < n → f i = 0 → g i = 0) → cnt g n < cnt f n
  | n + 1, hj, h => by
    have h2 := h n (by omega)
    rw [cnt, cnt]
    by_cases e : j = n
    · subst e
      have h1 := cnt_le (n := j) fun i hi => h i (by omega)
      rw [if_neg hf, if_pos hg]; omega
    · have h1 := cnt_lt hf hg (n := n) (by omega) fun i hi => h i (by omega)
      by_cases e : f n = 0
      · rw [if_pos e, if_pos (h2 e)]; exact h1
      · rw [if_neg e]; split <;> omega
theorem min_cert {l : List Rd} {f : Nat → Int} (h : Cert l f) : ∃ g, Cert l g ∧ ∀ k, Cert l k → cnt g l.length ≤ cnt k l.length := by
  obtain ⟨n, hn⟩ : ∃ n, cnt f l.length = n := ⟨_, rfl⟩
  induction n using Nat.strongRecOn generalizing f with
  | _ n ih =>
    by_cases hm : ∀ k, Cert l k → cnt f l.length ≤ cnt k l.length
    · exact ⟨f, h, hm⟩
    · obtain ⟨k, hk, hlt⟩ : ∃ k, Cert l k ∧ ¬ cnt f l.length ≤ cnt k l.length := Classical.byContradiction fun hh => hm fun k hk => Classical.byContradiction fun hc => hh ⟨k, hk, hc⟩
      exact ih (cnt k l.length) (by omega) hk rfl
theorem mx_pos {r : Rd} (hr : r.2.1 ≤ r.2.2) {x : Int} (hx : 0 ≤ x) : mx r x = x * r.2.2 := by
  have := Int.mul_le_mul_of_nonneg_left hr hx
  unfold mx; omega
theorem mx_neg {r : Rd} (hr : r.2.1 ≤ r.2.2) {x : Int} (hx : x ≤ 0) : mx r x = x * r.2.1 := by
  have := Int.mul_le_mul_of_nonpos_left hx hr
  unfold mx; omega
theorem mx_both {r : Rd} (hr : r.2.1 ≤ r.2.2) {x y : Int} (h : 0 ≤ x * y) : mx r (x + y) = mx r x + mx r y := by
  rcases Int.lt_trichotomy x 0 with hx | hx | hx
  · have hy : y ≤ 0 := Classical.byContradiction fun hh => by
      have := Int.mul_neg_of_neg_of_pos hx (show 0 < y by omega)
      omega
    rw [mx_neg hr (by omega), mx_neg hr (by omega), mx_neg hr hy]; grind
  · subst hx
    have e : mx r 0 = 0 := by simp [mx]
    rw [e, Int.zero_add, Int.zero_add]
  · have hy : 0 ≤ y := Classical.byContradiction fun hh => by
      have := Int.mul_neg_of_pos_of_neg hx (show y < 0 by omega)
      omega
    rw [mx_pos hr (by omega), mx_pos hr (by omega), mx_pos hr hy]; grind
def ab (x : Int) : Int := (x.natAbs : Int)
theorem ab_nn (x : Int) : 0 ≤ ab x := by unfold ab; omega
theorem ab_pos {x : Int} (h : x ≠ 0) : 0 < ab x := by unfold ab; omega
theorem ab_opp {x y : Int} (h : x * y < 0) : ab y * x + ab x * y = 0 := by
  rcases Int.lt_trichotomy x 0 with hx | hx | hx
  · have hy : 0 < y := Classical.byContradiction fun hh => by
      have := Int.mul_nonneg_of_nonpos_of_nonpos (show x ≤ 0 by omega) (show y ≤ 0 by omega)
      omega
    rw [show ab y = y by unfold ab; omega, show ab x = -x by unfold ab; omega]; grind
  · subst hx; simp at h
  · have hy : y < 0 := Classical.byContradiction fun hh => by
      have := Int.mul_nonneg (show 0 ≤ x by omega) (show 0 ≤ y by omega)
      omega
    rw [show ab y = -y by unfold ab; omega, show ab x = x by unfold ab; omega]; grind
theorem ab_same {x y : Int} (h : 0 < x * y) : ab y * x = ab x * y := by
  rcases Int.lt_trichotomy x 0 with hx | hx | hx
  · have hy : y < 0 := Classical.byContradiction fun hh => by
      have := Int.mul_nonpos_of_nonpos_of_nonneg (show x ≤ 0 by omega) (show 0 ≤ y by omega)
      omega
    rw [show ab y = -y by unfold ab; omega, show ab x = -x by unfold ab; omega]; grind
  · subst hx; simp at h
  · have hy : 0 < y := Classical.byContradiction fun hh => by
      have := Int.mul_nonpos_of_nonneg_of_nonpos (show 0 ≤ x by omega) (show y ≤ 0 by omega)
      omega
    rw [show ab y = y by unfold ab; omega, show ab x = x by unfold ab; omega]; grind
theorem ab_mul (x y : Int) : ab (x * y) = ab x * ab y := by unfold ab; rw [Int.natAbs_mul]; push_cast; rfl
theorem ab_sq (x : Int) : ab x * ab x = x * x := by
  unfold ab
  rcases Int.le_total 0 x with h | h
  · rw [show (x.natAbs : Int) = x by omega]
  · rw [show (x.natAbs : Int) = -x by omega]; grind
/-- Of the fewest factors there is one choice alone. -/
theorem min_one {l : List Rd} (hl : ∀ r ∈ l, r.2.1 ≤ r.2.2) {f : Nat → Int} (hf : Cert l f) (hm : ∀ k, Cert l k → cnt f l.length ≤ cnt k l.length) {g : Nat → Int} (hz : cmb l g = z3) (hs : ∀ i, i < l.length → f i = 0 → g i = 0) :
    ∀ i j, i < l.length → j < l.length → f i * g j = f j * g i := by
  intro i j hi hj
  refine Classical.byContradiction fun hne => ?_
  have hr : ∀ k, k < l.length → (l.getD k rd0).2.1 ≤ (l.getD k rd0).2.2 := fun k hk => hl _ (getD_mem hk)
  have fj : f j ≠ 0 := fun hh => hne (by rw [hh, hs j hj hh]; simp)
  have fi : f i ≠ 0 := fun hh => hne (by rw [hh, hs i hi hh]; simp)
  have lin0 : ∀ (a b : Nat → Int) (m n : Int), cmb l a = z3 → cmb l b = z3 → cmb l (fun k => m * a k + n * b k) = z3 := fun a b m n ha hb => by
    rw [cmb_lin, ha, hb]; simp [add3, mul3]
  obtain ⟨h, hcz, hh0, hhj, hhi⟩ : ∃ h : Nat → Int, cmb l h = z3 ∧ (∀ k, k < l.length → f k = 0 → h k = 0) ∧ h j = 0 ∧ f i * h i < 0 := by
    have base : f i * (f j * g i + -g j * f i) ≠ 0 := fun hh => by
      rcases Int.mul_eq_zero.1 hh with e | e
      · exact fi e
      · exact hne (by grind)
    by_cases hc : f i * (f j * g i + -g j * f i) < 0
    · refine ⟨fun k => f j * g k + -g j * f k, lin0 g f _ _ hz hf.zero, fun k hk e => ?_, by grind, hc⟩
      show f j * g k + -g j * f k = 0
      rw [e, hs k hk e]; simp
    · refine ⟨fun k => -f j * g k + g j * f k, lin0 g f _ _ hz hf.zero, fun k hk e => ?_, by grind, ?_⟩
      · show -f j * g k + g j * f k = 0
        rw [e, hs k hk e]; simp
      · show f i * (-f j * g i + g j * f i) < 0
        have : f i * (-f j * g i + g j * f i) = -(f i * (f j * g i + -g j * f i)) := by grind
        omega
  -- the first coordinate that vanishes
  obtain ⟨a, ha, hmin⟩ := most (fun k => -ab (f k)) (fun k => ab (h k)) ((List.range l.length).filter fun k => decide (f k * h k < 0))
    (List.ne_nil_of_mem (List.mem_filter.2 ⟨List.mem_range.2 hi, decide_eq_true hhi⟩)) fun k hk => ab_pos fun e => by
      have := of_decide_eq_true (List.mem_filter.1 hk).2
      rw [e] at this; simp at this
  have han := List.mem_range.1 (List.mem_filter.1 ha).1
  have haf := of_decide_eq_true (List.mem_filter.1 ha).2
  have fa : f a ≠ 0 := fun e => by rw [e] at haf; simp at haf
  have hha : h a ≠ 0 := fun e => by rw [e] at haf; simp at haf
  obtain ⟨u, eu⟩ : ∃ u : Nat → Int, u = fun k => ab (h a) * f k + ab (f a) * h k := ⟨_, rfl⟩
  have ua : u a = 0 := by rw [eu]; exact ab_opp haf
  have uj : u j ≠ 0 := by
    rw [eu]
    show ab (h a) * f j + ab (f a) * h j ≠ 0
    rw [hhj, Int.mul_zero, Int.add_zero]
    exact fun e => by
      rcases Int.mul_eq_zero.1 e with e | e
      · have := ab_pos hha; omega
      · exact fj e
  have us : ∀ k, k < l.length → f k = 0 → u k = 0 := fun k hk e => by
    rw [eu]
    show ab (h a) * f k + ab (f a) * h k = 0
    rw [e, hh0 k hk e]; simp
  have uc : cmb l u = z3 := by rw [eu]; exact lin0 f h _ _ hf.zero hcz
  have uf : ∀ k, k < l.length → 0 ≤ f k * u k := fun k hk => by
    rw [eu]
    show 0 ≤ f k * (ab (h a) * f k + ab (f a) * h k)
    have e1 : f k * (ab (h a) * f k + ab (f a) * h k) = ab (h a) * (f k * f k) + ab (f a) * (f k * h k) := by grind
    rw [e1]
    by_cases hc : f k * h k < 0
    · have := hmin k (List.mem_filter.2 ⟨List.mem_range.2 hk, decide_eq_true hc⟩)
      have e2 : f k * h k = -(ab (f k) * ab (h k)) := by
        rw [← ab_mul]; unfold ab; omega
      rw [e2, ← ab_sq]
      have h1 : 0 ≤ ab (f k) * (ab (f k) * ab (h a) - ab (f a) * ab (h k)) := Int.mul_nonneg (ab_nn _) (by
        have e3 : -ab (f k) * ab (h a) = -(ab (f k) * ab (h a)) := by grind
        have e4 : -ab (f a) * ab (h k) = -(ab (f a) * ab (h k)) := by grind
        omega)
      have e5 : ab (h a) * (ab (f k) * ab (f k)) + ab (f a) * -(ab (f k) * ab (h k)) = ab (f k) * (ab (f k) * ab (h a) - ab (f a) * ab (h k)) := by grind
      omega
    · have h1 : 0 ≤ ab (h a) * (f k * f k) := Int.mul_nonneg (ab_nn _) (by rcases Int.le_total 0 (f k) with q | q; exact Int.mul_nonneg q q; exact Int.mul_nonneg_of_nonpos_of_nonpos q q)
      have h2 : 0 ≤ ab (f a) * (f k * h k) := Int.mul_nonneg (ab_nn _) (by omega)
      omega
  have un : ¬ hiF l u < 0 := fun hn => by
    have h1 := hm u ⟨uc, hn⟩
    have h2 := cnt_lt fa ua han us
    omega
  -- what is left of the factors
  obtain ⟨b, hb, hmin2⟩ := most (fun k => -ab (f k)) (fun k => ab (u k)) ((List.range l.length).filter fun k => decide (u k ≠ 0))
    (List.ne_nil_of_mem (List.mem_filter.2 ⟨List.mem_range.2 hj, decide_eq_true uj⟩)) fun k hk => ab_pos (of_decide_eq_true (List.mem_filter.1 hk).2)
  have hbn := List.mem_range.1 (List.mem_filter.1 hb).1
  have ub : u b ≠ 0 := of_decide_eq_true (List.mem_filter.1 hb).2
  have fb : f b ≠ 0 := fun e => ub (us b hbn e)
  have fub : 0 < f b * u b := by
    have := uf b hbn
    have : f b * u b ≠ 0 := fun e => by
      rcases Int.mul_eq_zero.1 e with e | e
      · exact fb e
      · exact ub e
    omega
  obtain ⟨w, ew⟩ : ∃ w : Nat → Int, w = fun k => ab (u b) * f k + -ab (f b) * u k := ⟨_, rfl⟩
  have wb : w b = 0 := by
    rw [ew]
    show ab (u b) * f b + -ab (f b) * u b = 0
    have := ab_same fub
    grind
  have ws : ∀ k, k < l.length → f k = 0 → w k = 0 := fun k hk e => by
    rw [ew]
    show ab (u b) * f k + -ab (f b) * u k = 0
    rw [e, us k hk e]; simp
  have wc : cmb l w = z3 := by rw [ew]; exact lin0 f u _ _ hf.zero uc
  have wu : ∀ k, k < l.length → 0 ≤ w k * (ab (f b) * u k) := fun k hk => by
    rw [ew]
    show 0 ≤ (ab (u b) * f k + -ab (f b) * u k) * (ab (f b) * u k)
    by_cases hu : u k = 0
    · rw [hu]; simp
    · have h1 := hmin2 k (List.mem_filter.2 ⟨List.mem_range.2 hk, decide_eq_true hu⟩)
      have h2 := uf k hk
      have e2 : f k * u k = ab (f k) * ab (u k) := by rw [← ab_mul]; unfold ab; omega
      have e1 : (ab (u b) * f k + -ab (f b) * u k) * (ab (f b) * u k) = ab (f b) * (ab (u b) * (f k * u k) - ab (f b) * (u k * u k)) := by grind
      rw [e1, e2, ← ab_sq (u k)]
      have e3 : ab (u b) * (ab (f k) * ab (u k)) - ab (f b) * (ab (u k) * ab (u k)) = ab (u k) * (ab (f k) * ab (u b) - ab (f b) * ab (u k)) := by grind
      rw [e3]
      have e4 : -ab (f k) * ab (u b) = -(ab (f k) * ab (u b)) := by grind
      have e5 : -ab (f b) * ab (u k) = -(ab (f b) * ab (u k)) := by grind
      exact Int.mul_nonneg (ab_nn _) (Int.mul_nonneg (ab_nn _) (by omega))
  have e : ab (u b) * hiF l f = hiF l w + ab (f b) * hiF l u := by
    unfold hiF
    rw [← sR_mul, ← sR_mul, ← sR_add]
    refine sR_congr fun k hk => ?_
    rw [← mx_mul (ab_nn _), ← mx_mul (ab_nn _), ← mx_both (hr k hk) (wu k hk)]
    congr 1
    rw [ew]
    show ab (u b) * f k = ab (u b) * f k + -ab (f b) * u k + ab (f b) * u k
    grind
  have h1 : ab (u b) * hiF l f < 0 := Int.mul_neg_of_pos_of_neg (ab_pos ub) hf.neg
  have h2 : 0 ≤ ab (f b) * hiF l u := Int.mul_nonneg (ab_nn _) (by omega)
  have h3 := hm w ⟨wc, by omega⟩
  have h4 := cnt_lt fb wb hbn ws
  omega
end Go.Pi
end

section
namespace Go.Pi
set_option linter.unusedVariables false
/-! ### the sums of ranges -/
def totL : List Rd → List Int → Int × Int
  | r :: m, f :: fs => (mn r f + (totL m fs).1, mx r f + (totL m fs).2)
  | _, _ => (0, 0)
def apart (r : Int × Int) : Bool := !(decide (r.1 ≤ 0 ∧ 0 ≤ r.2))
def dirs (m : List Rd) : List V3 := m.map (·.1)
/-- The factors by which readings contradict each other. -/
def T (m : List Rd) : Option (List Int) := if (relL (dirs m)).2 = true ∧ apart (totL m (relL (dirs m)).1) = true then some (relL (dirs m)).1 else none
theorem T_some {m : List Rd} {f : List Int} (h : T m = some f) : IsRel (dirs m) f ∧ apart (totL m f) = true ∧ relL (dirs m) = (f, true) := by
  unfold T at h
  split at h
  · rename_i hc
    obtain rfl := Option.some.inj h
    refine ⟨relL_is hc.1, hc.2, ?_⟩
    rw [← hc.1]
  · cases h
theorem T_of {m : List Rd} {f : List Int} (hv : Vs (dirs m)) (h : IsRel (dirs m) f) (ha : apart (totL m f) = true) : T m = some f := by
  have e := relL_of hv h
  unfold T
  rw [e, if_pos ⟨rfl, ha⟩]
theorem mn_le {r : Rd} {p : V3} {q f : Int} (hq : 0 < q) (h : r.2.1 * q ≤ dot r.1 p ∧ dot r.1 p ≤ r.2.2 * q) : mn r f * q ≤ f * dot r.1 p ∧ f * dot r.1 p ≤ mx r f * q := by
  unfold mn mx
  have key : ∀ a b : Int, min a b * q = min (a * q) (b * q) ∧ max a b * q = max (a * q) (b * q) := fun a b => by
    rcases Int.le_total a b with h | h
    · have := Int.mul_le_mul_of_nonneg_right h (show 0 ≤ q by omega)
      rw [Int.min_eq_left h, Int.max_eq_right h, Int.min_eq_left this, Int.max_eq_right this]; exact ⟨rfl, rfl⟩
    · have := Int.mul_le_mul_of_nonneg_right h (show 0 ≤ q by omega)
      rw [Int.min_eq_right h, Int.max_eq_left h, Int.min_eq_right this, Int.max_eq_left this]; exact ⟨rfl, rfl⟩
  rw [(key _ _).1, (key _ _).2]
  have e1 : f * r.2.1 * q = f * (r.2.1 * q) := by grind
  have e2 : f * r.2.2 * q = f * (r.2.2 * q) := by grind
  rcases Int.le_total 0 f with hf | hf
  · have h1 := Int.mul_le_mul_of_nonneg_left h.1 hf
    have h2 := Int.mul_le_mul_of_nonneg_left h.2 hf
    omega
  · have h1 := Int.mul_le_mul_of_nonpos_left hf h.1
    have h2 := Int.mul_le_mul_of_nonpos_left hf h.2
    omega
theorem tot_dot {p : V3} {q : Int} (hq : 0 < q) : ∀ {m : List Rd} {f : List Int}, agQ m p q → (totL m f).1 * q ≤ dot (comb f (dirs m)) p ∧ dot (comb f (dirs m)) p ≤ (totL m f).2 * q
  | [], f, _ => by
    have : comb f (dirs []) = (0, 0, 0) := by cases f <;> rfl
    rw [this]; simp [totL, dot]
  | r :: m, [], _ => by simp [totL, comb, dot]
  | r :: m, f :: fs, ha => by
    have ih := tot_dot hq (m := m) (f := fs) fun s hs => ha s (.tail _ hs)
    have h1 := mn_le (f := f) hq (ha r (.head _))
    have e : dot (comb (f :: fs) (dirs (r :: m))) p = f * dot r.1 p + dot (comb fs (dirs m)) p := by
      simp only [dirs, List.map_cons, comb, dot]; grind
    rw [e, totL]
    dsimp only
    rw [Int.add_mul, Int.add_mul]
    omega
/-- Whatever contradicts is agreed to by no point. -/
theorem T_no {m : List Rd} {f : List Int} (h : T m = some f) {p : V3} {q : Int} (hq : 0 < q) : ¬ agQ m p q := fun ha => by
  obtain ⟨hr, hp, _⟩ := T_some h
  have ht := tot_dot (f := f) hq ha
  rw [hr.zero] at ht
  have e : dot z3 p = 0 := by simp [dot]
  rw [e] at ht
  unfold apart at hp
  simp only [Bool.not_eq_true', decide_eq_false_iff_not] at hp
  refine hp ⟨?_, ?_⟩
  · exact Classical.byContradiction fun hh => by
      have := Int.mul_pos (show 0 < (totL m f).1 by omega) hq
      omega
  · exact Classical.byContradiction fun hh => by
      have := Int.mul_neg_of_neg_of_pos (show (totL m f).2 < 0 by omega) hq
      omega
/-! ### lists of places -/
theorem comb_map (f : Nat → Int) (d : Nat → V3) : ∀ s : List Nat, comb (s.map f) (s.map d) = ((s.map fun i => f i * (d i).1).sum, (s.map fun i => f i * (d i).2.1).sum, (s.map fun i => f i * (d i).2.2).sum)
  | [] => rfl
  | i :: s => by rw [List.map_cons, List.map_cons, comb, comb_map f d s]; simp only [List.map_cons, List.sum_cons]
theorem tot_map (f : Nat → Int) (d : Nat → Rd) : ∀ s : List Nat, totL (s.map d) (s.map f) = ((s.map fun i => mn (d i) (f i)).sum, (s.map fun i => mx (d i) (f i)).sum)
  | [] => rfl
  | i :: s => by rw [List.map_cons, List.map_cons, totL, tot_map f d s]; simp only [List.map_cons, List.sum_cons]
theorem sum_range (F : Nat → Int) : ∀ n, ((List.range n).map F).sum = sR F n
  | 0 => rfl
  | n + 1 => by rw [List.range_succ, List.map_append, List.sum_append, sum_range F n, sR]; simp
theorem sum_filter (F : Nat → Int) (p : Nat → Bool) : ∀ s : List Nat, (∀ i ∈ s, p i = false → F i = 0) → ((s.filter p).map F).sum = (s.map F).sum
  | [], _ => rfl
  | i :: s, h => by
    have ih := sum_filter F p s fun k hk => h k (.tail _ hk)
    rw [List.filter_cons]
    cases hp : p i with
    | true => simp only [if_true, List.map_cons, List.sum_cons, ih]
    | false =>
      have := h i (.head _) hp
      simp only [Bool.false_eq_true, if_false, List.map_cons, List.sum_cons, ih, this, Int.zero_add]
/-- A list as the values at places. -/
theorem as_places : ∀ (s : List Nat) (g : List Int), s.Nodup → g.length = s.length → ∃ f : Nat → Int, s.map f = g ∧ ∀ i, i ∉ s → f i = 0
  | [], g, _, h => ⟨fun _ => 0, by rw [List.length_eq_zero_iff.1 h]; rfl, fun _ _ => rfl⟩
  | i :: s, [], _, h => by simp at h
  | i :: s, x :: g, hn, h => by
    have hn' := List.nodup_cons.1 hn
    obtain ⟨f, h1, h2⟩ := as_places s g hn'.2 (by simpa using h)
    refine ⟨fun k => if k = i then x else f k, ?_, fun k hk => ?_⟩
    · rw [List.map_cons, if_pos rfl, ← h1]
      congr 1
      exact List.map_congr_left fun k hk => if_neg fun e => by subst e; exact hn'.1 hk
    · show (if k = i then x else f k) = 0
      rw [if_neg fun e => hk (by rw [e]; exact .head _)]
      exact h2 k fun hh => hk (.tail _ hh)
theorem prp_map {f g : Nat → Int} {s : List Nat} (h : ∀ i ∈ s, ∀ j ∈ s, f i * g j = f j * g i) : Prp (s.map f) (s.map g) := fun i j => by
  have e : ∀ (k : Nat → Int) i, (s.map k).getD i 0 = if h : i < s.length then k s[i] else 0 := fun k i => by
    rw [List.getD_eq_getElem?_getD, List.getElem?_map]
    by_cases hi : i < s.length
    · rw [dif_pos hi, List.getElem?_eq_getElem hi]; rfl
    · rw [dif_neg hi, List.getElem?_eq_none (by omega)]; rfl
  rw [e, e, e, e]
  by_cases hi : i < s.length
  · by_cases hj : j < s.length
    · rw [dif_pos hi, dif_pos hj, dif_pos hj, dif_pos hi]
      exact h _ (List.getElem_mem _) _ (List.getElem_mem _)
    · rw [dif_neg hj, dif_neg hj]; simp
  · rw [dif_neg hi, dif_neg hi]; simp
/-- Four vectors always have a relation. -/
theorem four_rel {a b c d : V3} (ha : a ≠ z3) (hb : b ≠ z3) : ∃ g : List Int, g.length = 4 ∧ comb g [a, b, c, d] = z3 ∧ gcdL g ≠ 0 := by
  by_cases h : gcdL (raw4 a b c d) = 0
  · obtain ⟨d1, d2, d3, d4⟩ := gcd4.1 h
    have d4 : det a b c = 0 := by omega
    by_cases ab : cross a b = z3
    · obtain ⟨p, q, hp, hq, p1, p2, p3⟩ := par_rel ha hb ab
      exact ⟨[p, q, 0, 0], rfl, (comb4 _ _ _ _ _ _ _ _).2 ⟨by omega, by omega, by omega⟩, fun hh => hp (gcd4.1 hh).1⟩
    · obtain ⟨s, t, u, hu, s1, s2, s3⟩ := flat_rel d4 ab
      exact ⟨[s, t, u, 0], rfl, (comb4 _ _ _ _ _ _ _ _).2 ⟨by omega, by omega, by omega⟩, fun hh => hu (gcd4.1 hh).2.2.1⟩
  · exact ⟨raw4 a b c d, rfl, (raw4_ok a b c d).zero, h⟩
theorem sgL_mul_tot {s : Int} : ∀ {m : List Rd} {f : List Int}, totL m (f.map (s * ·)) = if 0 ≤ s then (s * (totL m f).1, s * (totL m f).2) else (s * (totL m f).2, s * (totL m f).1)
  | [], f => by cases f <;> simp [totL]
  | r :: m, [] => by simp [totL]
  | r :: m, f :: fs => by
    have ih := sgL_mul_tot (s := s) (m := m) (f := fs)
    rw [List.map_cons, totL, ih, totL]
    have e1 : s * f * r.2.1 = s * (f * r.2.1) := by grind
    have e2 : s * f * r.2.2 = s * (f * r.2.2) := by grind
    by_cases hs : 0 ≤ s
    · rw [if_pos hs, if_pos hs]
      have k1 : mn r (s * f) = s * mn r f := by
        unfold mn; rw [e1, e2]
        rcases Int.le_total (f * r.2.1) (f * r.2.2) with h | h
        · have := Int.mul_le_mul_of_nonneg_left h hs
          rw [Int.min_eq_left h, Int.min_eq_left this]
        · have := Int.mul_le_mul_of_nonneg_left h hs
          rw [Int.min_eq_right h, Int.min_eq_right this]
      rw [k1, mx_mul hs]
      simp only [Prod.mk.injEq]
      exact ⟨by grind, by grind⟩
    · rw [if_neg hs, if_neg hs]
      have k1 : mn r (s * f) = s * mx r f ∧ mx r (s * f) = s * mn r f := by
        unfold mn mx; rw [e1, e2]
        rcases Int.le_total (f * r.2.1) (f * r.2.2) with h | h
        · have := Int.mul_le_mul_of_nonpos_left (show s ≤ 0 by omega) h
          rw [Int.min_eq_right this, Int.max_eq_right h, Int.max_eq_left this, Int.min_eq_left h]; exact ⟨rfl, rfl⟩
        · have := Int.mul_le_mul_of_nonpos_left (show s ≤ 0 by omega) h
          rw [Int.min_eq_left this, Int.max_eq_left h, Int.max_eq_right this, Int.min_eq_right h]; exact ⟨rfl, rfl⟩
      rw [k1.1, k1.2]
      simp only [Prod.mk.injEq]
      exact ⟨by grind, by grind⟩
def pick3 (l : List Rd) (s : List Nat) : List Rd := s.map fun i => l.getD i rd0
/-- Ascending places of a list. -/
def Asc3 (n : Nat) (s : List Nat) : Prop := s.Pairwise (· < ·) ∧ ∀ i ∈ s, i < n
/-- Where no point agrees a few readings contradict. -/
theorem T_found {l : List Rd} (hl : ∀ r ∈ l, r.2.1 ≤ r.2.2) (hd : ∀ r ∈ l, r.1 ≠ z3) (hno : ¬ ∃ p q, 0 < q ∧ agQ l p q) : ∃ s f, Asc3 l.length s ∧ 2 ≤ s.length ∧ s.length ≤ 4 ∧ T (pick3 l s) = some f := by
  obtain ⟨f0, hf0⟩ := (farkas hl).resolve_left hno
  obtain ⟨f, hf, hm⟩ := min_cert hf0
  have one := fun g => min_one hl hf hm (g := g)
  obtain ⟨s, es⟩ : ∃ s, s = (List.range l.length).filter fun i => decide (f i ≠ 0) := ⟨_, rfl⟩
  have hs : ∀ i, i ∈ s ↔ i < l.length ∧ f i ≠ 0 := fun i => by rw [es, List.mem_filter, List.mem_range]; simp
  have hasc : s.Pairwise (· < ·) := by rw [es]; exact List.Pairwise.filter _ List.pairwise_lt_range
  have hnd : s.Nodup := List.Pairwise.imp (fun h => by omega) hasc
  have sums : ∀ F : Nat → Int, (∀ i, i < l.length → f i = 0 → F i = 0) → (s.map F).sum = sR F l.length := fun F h => by
    rw [← sum_range, es]
    exact sum_filter F _ _ fun i hi hp => h i (List.mem_range.1 hi) (by simpa using hp)
  have ed : dirs (pick3 l s) = s.map fun i => (l.getD i rd0).1 := by unfold dirs pick3; rw [List.map_map]; rfl
  have cz : ∀ g : Nat → Int, (∀ i, i < l.length → f i = 0 → g i = 0) → comb (s.map g) (dirs (pick3 l s)) = cmb l g := fun g h => by
    rw [ed, comb_map, sums, sums, sums]
    · rfl
    · exact fun i hi e => by rw [h i hi e, Int.zero_mul]
    · exact fun i hi e => by rw [h i hi e, Int.zero_mul]
    · exact fun i hi e => by rw [h i hi e, Int.zero_mul]
  have ht : (totL (pick3 l s) (s.map f)).2 < 0 := by
    unfold pick3
    rw [tot_map]
    show (s.map fun i => mx (l.getD i rd0) (f i)).sum < 0
    rw [sums _ fun i hi e => by rw [e]; simp [mx]]
    exact hf.neg
  have huniq : ∀ g : List Int, g.length = (dirs (pick3 l s)).length → comb g (dirs (pick3 l s)) = z3 → Prp (s.map f) g := fun g hg hz => by
    obtain ⟨k, rfl, hk⟩ := as_places s g hnd (by rw [hg, ed, List.length_map])
    have hk' : ∀ i, i < l.length → f i = 0 → k i = 0 := fun i hi e => hk i fun hh => ((hs i).1 hh).2 e
    rw [cz k hk'] at hz
    exact prp_map fun i hi j hj => one k hz hk' i j ((hs i).1 hi).1 ((hs j).1 hj).1
  have hlen : (dirs (pick3 l s)).length = s.length := by rw [ed, List.length_map]
  have hvn : ∀ v ∈ dirs (pick3 l s), v ≠ z3 := fun v hv => by
    rw [ed] at hv
    obtain ⟨i, hi, rfl⟩ := List.mem_map.1 hv
    exact hd _ (getD_mem ((hs i).1 hi).1)
  have hfn : ∀ x ∈ s.map f, x ≠ 0 := fun x hx => by
    obtain ⟨i, hi, rfl⟩ := List.mem_map.1 hx
    exact ((hs i).1 hi).2
  have hzero : comb (s.map f) (dirs (pick3 l s)) = z3 := by rw [cz f fun i _ e => e]; exact hf.zero
  have h0 : s ≠ [] := fun e => by
    rw [e] at ht
    exact absurd (show (0 : Int) < 0 from ht) (by decide)
  have h2 : 2 ≤ s.length := by
    match hsl : s, h0 with
    | [i], _ =>
      exfalso
      have hzero : comb [f i] [(l.getD i rd0).1] = z3 := hzero
      simp only [comb, Prod.mk.injEq, Int.add_zero] at hzero
      have h1 := smul_z (hvn _ (by simp [dirs, pick3])) hzero.1 hzero.2.1 hzero.2.2
      exact hfn _ (by simp) h1
    | i :: j :: r, _ => simp
  have h4 : s.length ≤ 4 := by
    refine Classical.byContradiction fun hh => ?_
    match hsl : s, (show 5 ≤ s.length by omega) with
    | a :: b :: c :: d :: e :: r, _ =>
      have hda := hvn (l.getD a rd0).1 (by simp [dirs, pick3])
      have hdb := hvn (l.getD b rd0).1 (by simp [dirs, pick3])
      obtain ⟨g, hg, hz, hne⟩ := four_rel (c := (l.getD c rd0).1) (d := (l.getD d rd0).1) hda hdb
      obtain ⟨x, y, z, w, rfl⟩ := len4 hg
      have hp := huniq (x :: y :: z :: w :: 0 :: r.map fun _ => 0) (by simp [dirs, pick3]) (by
        have zr : ∀ t : List Nat, comb (t.map fun _ => (0 : Int)) (t.map fun i => (l.getD i rd0).1) = z3 := fun t => by
          rw [comb_map]
          have : ∀ F : Nat → Int, (t.map fun i => 0 * F i).sum = 0 := fun F => by
            induction t with
            | nil => rfl
            | cons i t ih => rw [List.map_cons, List.sum_cons, ih]; omega
          rw [this, this, this]
        have e1 : dirs (pick3 l (a :: b :: c :: d :: e :: r)) = (l.getD a rd0).1 :: (l.getD b rd0).1 :: (l.getD c rd0).1 :: (l.getD d rd0).1 :: (l.getD e rd0).1 :: r.map fun i => (l.getD i rd0).1 := by
          simp [dirs, pick3]
        rw [e1]
        obtain ⟨k1, k2, k3⟩ := (comb4 _ _ _ _ _ _ _ _).1 hz
        simp only [comb, zr r, Prod.mk.injEq]
        exact ⟨by omega, by omega, by omega⟩)
      have fe := hfn (f e) (by simp)
      have q : ∀ {n : Nat} {v : Int}, (x :: y :: z :: w :: 0 :: r.map fun _ => (0 : Int)).getD n 0 = v → f e * v = 0 := fun {n v} hv => by
        have := hp 4 n
        rw [hv] at this
        simpa using this
      have q' : ∀ {n : Nat} {v : Int}, (x :: y :: z :: w :: 0 :: r.map fun _ => (0 : Int)).getD n 0 = v → v = 0 := fun hv => (Int.mul_eq_zero.1 (q hv)).resolve_left fe
      exact hne (gcd4.2 ⟨q' (n := 0) rfl, q' (n := 1) rfl, q' (n := 2) rfl, q' (n := 3) rfl⟩)
  have hg : gcdL (s.map f) ≠ 0 := fun hh => by
    obtain ⟨i, r, e⟩ := List.exists_cons_of_ne_nil h0
    exact hfn (f i) (by rw [e]; simp) (gcdL_zero.1 hh _ (by rw [e]; simp))
  have hrel := isRel_nrm (l := dirs (pick3 l s)) (by rw [hlen, List.length_map]) hzero hg huniq
  refine ⟨s, nrm (s.map f), ⟨hasc, fun i hi => ((hs i).1 hi).1⟩, h2, h4, T_of ⟨by omega, by omega, hvn⟩ hrel ?_⟩
  have e := sgL_mul_tot (s := sgL (s.map f)) (m := pick3 l s) (f := nrm (s.map f))
  rw [nrm_mul] at e
  unfold apart
  simp only [Bool.not_eq_true', decide_eq_false_iff_not]
  rintro ⟨k1, k2⟩
  by_cases hsg : 0 ≤ sgL (s.map f)
  · rw [if_pos hsg] at e
    rw [e] at ht
    have := Int.mul_nonneg hsg k2
    dsimp only at ht
    omega
  · rw [if_neg hsg] at e
    rw [e] at ht
    have := Int.mul_nonneg_of_nonpos_of_nonpos (show sgL (s.map f) ≤ 0 by omega) k1
    dsimp only at ht
    omega
end Go.Pi
end

section
namespace Go.Pi
set_option linter.unusedVariables false
/-! ### a factor 0 may be left out -/
theorem getD_erase (l : List Int) (i k : Nat) : (l.eraseIdx i).getD k 0 = l.getD (if k < i then k else k + 1) 0 := by
  rw [List.getD_eq_getElem?_getD, List.getD_eq_getElem?_getD, List.getElem?_eraseIdx]
  split <;> rfl
theorem prp_erase {f g : List Int} (h : Prp f g) (i : Nat) : Prp (f.eraseIdx i) (g.eraseIdx i) := fun j k => by
  rw [getD_erase, getD_erase, getD_erase, getD_erase]
  exact h _ _
theorem comb_erase : ∀ {f : List Int} {l : List V3} {i : Nat}, f.getD i 0 = 0 → comb (f.eraseIdx i) (l.eraseIdx i) = comb f l
  | [], l, i, _ => by simp [comb]
  | f :: fs, [], i, _ => by cases i <;> simp [comb]
  | f :: fs, v :: vs, 0, h => by
    have h : f = 0 := h
    subst h
    simp [comb]
  | f :: fs, v :: vs, i + 1, h => by
    rw [List.getD_cons_succ] at h
    rw [List.eraseIdx_cons_succ, List.eraseIdx_cons_succ, comb, comb, comb_erase h]
theorem tot_erase : ∀ {m : List Rd} {f : List Int} {i : Nat}, f.getD i 0 = 0 → totL (m.eraseIdx i) (f.eraseIdx i) = totL m f
  | [], f, i, _ => by simp [totL]
  | r :: m, [], i, _ => by cases i <;> simp [totL]
  | r :: m, f :: fs, 0, h => by
    have h : f = 0 := h
    subst h
    simp [totL, mn, mx]
  | r :: m, f :: fs, i + 1, h => by
    rw [List.getD_cons_succ] at h
    rw [List.eraseIdx_cons_succ, List.eraseIdx_cons_succ, totL, totL, tot_erase h]
theorem gcd_erase : ∀ {f : List Int} {i : Nat}, f.getD i 0 = 0 → gcdL (f.eraseIdx i) = gcdL f
  | [], i, _ => by simp
  | f :: fs, 0, h => by
    have h : f = 0 := h
    subst h
    rw [List.eraseIdx_cons_zero, gcdL_cons]; simp
  | f :: fs, i + 1, h => by
    rw [List.getD_cons_succ] at h
    rw [List.eraseIdx_cons_succ, gcdL_cons, gcdL_cons, gcd_erase h]
theorem fst_erase : ∀ {f : List Int} {i : Nat}, f.getD i 0 = 0 → fstN (f.eraseIdx i) = fstN f
  | [], i, _ => by simp
  | f :: fs, 0, h => by
    have h : f = 0 := h
    subst h
    rw [List.eraseIdx_cons_zero]
    unfold fstN
    rw [List.find?_cons]; simp
  | f :: fs, i + 1, h => by
    rw [List.getD_cons_succ] at h
    have ih := fst_erase h
    rw [List.eraseIdx_cons_succ]
    unfold fstN at ih ⊢
    rw [List.find?_cons, List.find?_cons]
    cases (f != 0) with
    | true => rfl
    | false => exact ih
theorem ins_at : ∀ (g : List Int) (i : Nat), i ≤ g.length → ((g.take i ++ 0 :: g.drop i).eraseIdx i = g ∧ (g.take i ++ 0 :: g.drop i).getD i 0 = 0) ∧ (g.take i ++ 0 :: g.drop i).length = g.length + 1 := fun g i hi => by
  have hl : (g.take i).length = i := by rw [List.length_take]; omega
  refine ⟨⟨?_, ?_⟩, ?_⟩
  · rw [List.eraseIdx_append_of_length_le (by omega), hl, Nat.sub_self, List.eraseIdx_cons_zero, List.take_append_drop]
  · rw [List.getD_eq_getElem?_getD, List.getElem?_append_right (by omega), hl, Nat.sub_self]; rfl
  · simp; omega
theorem rel_erase {l : List V3} {f : List Int} {i : Nat} (h : IsRel l f) (hi : i < l.length) (h0 : f.getD i 0 = 0) : IsRel (l.eraseIdx i) (f.eraseIdx i) := by
  have hl := h.len
  refine ⟨?_, by rw [comb_erase h0]; exact h.zero, by rw [gcd_erase h0]; exact h.gcd, by rw [fst_erase h0]; exact h.pos, fun g hg hz => ?_⟩
  · rw [List.length_eraseIdx, List.length_eraseIdx, hl]
  · rw [List.length_eraseIdx, if_pos hi] at hg
    obtain ⟨⟨k1, k2⟩, k3⟩ := ins_at g i (by omega)
    generalize g.take i ++ 0 :: g.drop i = g' at *
    subst k1
    rw [comb_erase k2] at hz
    exact prp_erase (h.one g' (by omega) hz) i
theorem map_erase {α β : Type} (f : α → β) : ∀ (l : List α) (i : Nat), (l.eraseIdx i).map f = (l.map f).eraseIdx i
  | [], i => by simp
  | a :: l, 0 => rfl
  | a :: l, i + 1 => by rw [List.eraseIdx_cons_succ, List.map_cons, List.map_cons, List.eraseIdx_cons_succ, map_erase f l i]
theorem dirs_erase (m : List Rd) (i : Nat) : dirs (m.eraseIdx i) = (dirs m).eraseIdx i := by
  unfold dirs
  exact map_erase _ _ _
theorem T_erase {m : List Rd} {f : List Int} {i : Nat} (hm : 3 ≤ m.length) (h4 : m.length ≤ 4) (hv : ∀ r ∈ m, r.1 ≠ z3) (h : T m = some f) (hi : i < m.length) (h0 : f.getD i 0 = 0) : T (m.eraseIdx i) = some (f.eraseIdx i) := by
  obtain ⟨hr, ha, _⟩ := T_some h
  have hl : (dirs m).length = m.length := by unfold dirs; rw [List.length_map]
  have hle : (dirs (m.eraseIdx i)).length = m.length - 1 := by rw [dirs_erase, List.length_eraseIdx, if_pos (by omega), hl]
  refine T_of ⟨by omega, by omega, fun v hv' => ?_⟩ ?_ ?_
  · obtain ⟨r, hr', rfl⟩ := List.mem_map.1 hv'
    exact hv r (List.mem_of_mem_eraseIdx hr')
  · rw [dirs_erase]; exact rel_erase hr (by omega) h0
  · rw [tot_erase h0]; exact ha
theorem T_len {m : List Rd} {f : List Int} (h : T m = some f) : f.length = m.length := by
  have := (T_some h).1.len
  unfold dirs at this
  rwa [List.length_map] at this
/-- Two readings contradict each other by factors other than 0. -/
theorem T_two {a b : Rd} {f : List Int} (ha : a.1 ≠ z3) (hb : b.1 ≠ z3) (h : T [a, b] = some f) : ∀ x ∈ f, x ≠ 0 := by
  obtain ⟨hr, _, _⟩ := T_some h
  obtain ⟨x, y, rfl⟩ := len2 hr.len
  obtain ⟨e1, e2, e3⟩ := (comb2 x y a.1 b.1).1 hr.zero
  have hne := fun hh => hr.ne (gcd2.2 hh)
  intro v hv hv0
  subst hv0
  simp only [List.mem_cons, List.not_mem_nil, or_false] at hv
  rcases hv with hv | hv
  · subst hv
    exact hne ⟨rfl, smul_z hb (by omega) (by omega) (by omega)⟩
  · subst hv
    exact hne ⟨smul_z ha (by omega) (by omega) (by omega), rfl⟩

/-! ### the first one -/
def fR {α : Type} (m n : Nat) (g : Nat → Option α) : Option α := (List.range' m (n - m)).findSome? g
theorem fR_none {α : Type} {m n : Nat} {g : Nat → Option α} : fR m n g = none ↔ ∀ i, m ≤ i → i < n → g i = none := by
  unfold fR
  rw [List.findSome?_eq_none_iff]
  constructor
  · exact fun h i h1 h2 => h i (List.mem_range'_1.2 ⟨h1, by omega⟩)
  · intro h i hi
    have := List.mem_range'_1.1 hi
    exact h i this.1 (by omega)
theorem fR_some {α : Type} {m n : Nat} {g : Nat → Option α} {x : α} (h : fR m n g = some x) : ∃ i, m ≤ i ∧ i < n ∧ g i = some x ∧ ∀ j, m ≤ j → j < i → g j = none := by
  unfold fR at h
  obtain ⟨k, hk⟩ : ∃ k, k = n - m := ⟨_, rfl⟩
  rw [← hk] at h
  have hle : k = 0 ∨ n = m + k := by omega
  clear hk
  induction k generalizing m with
  | zero => simp at h
  | succ k ih =>
    have hn : n = m + (k + 1) := by omega
    rw [List.range'_succ, List.findSome?_cons] at h
    cases hg : g m with
    | some y =>
      rw [hg] at h
      exact ⟨m, by omega, by omega, by rw [hg]; exact h, fun j _ _ => by omega⟩
    | none =>
      rw [hg] at h
      obtain ⟨i, h1, h2, h3, h4⟩ := ih (m := m + 1) h (by omega)
      refine ⟨i, by omega, h2, h3, fun j h5 h6 => ?_⟩
      by_cases e : j = m
      · subst e; exact hg
      · exact h4 j (by omega) h6
abbrev Fnd := List Nat × List Int
def tS (l : List Rd) (s : List Nat) : Option Fnd := (T (pick3 l s)).map fun f => (s, f)
def con2 (l : List Rd) : Option Fnd := fR 0 l.length fun i => fR (i + 1) l.length fun j => tS l [i, j]
def con3 (l : List Rd) : Option Fnd := fR 0 l.length fun i => fR (i + 1) l.length fun j => fR (j + 1) l.length fun k => tS l [i, j, k]
def con4 (l : List Rd) : Option Fnd := fR 0 l.length fun i => fR (i + 1) l.length fun j => fR (j + 1) l.length fun k => fR (k + 1) l.length fun h => tS l [i, j, k, h]
def conL (l : List Rd) : Option Fnd := match con2 l with
  | some x => some x
  | none => match con3 l with
    | some x => some x
    | none => con4 l
/-- Is a list before another one? -/
def lexN : List Nat → List Nat → Prop
  | a :: r, b :: t => a < b ∨ a = b ∧ lexN r t
  | _, _ => False
theorem tS_some {l : List Rd} {s : List Nat} {x : Fnd} (h : tS l s = some x) : x.1 = s ∧ T (pick3 l s) = some x.2 := by
  unfold tS at h
  obtain ⟨f, hf, rfl⟩ := Option.map_eq_some_iff.1 h
  exact ⟨rfl, hf⟩
theorem tS_none {l : List Rd} {s : List Nat} : tS l s = none ↔ T (pick3 l s) = none := by unfold tS; exact Option.map_eq_none_iff
theorem asc2 {n : Nat} {s : List Nat} (h : Asc3 n s) (hl : s.length = 2) : ∃ i j, s = [i, j] ∧ i < j ∧ j < n := by
  match s, hl with
  | [i, j], _ =>
    have := h.1
    simp at this
    exact ⟨i, j, rfl, this, h.2 j (by simp)⟩
theorem asc3 {n : Nat} {s : List Nat} (h : Asc3 n s) (hl : s.length = 3) : ∃ i j k, s = [i, j, k] ∧ i < j ∧ j < k ∧ k < n := by
  match s, hl with
  | [i, j, k], _ =>
    have := h.1
    simp at this
    exact ⟨i, j, k, rfl, by omega, by omega, h.2 k (by simp)⟩
theorem asc4 {n : Nat} {s : List Nat} (h : Asc3 n s) (hl : s.length = 4) : ∃ i j k m, s = [i, j, k, m] ∧ i < j ∧ j < k ∧ k < m ∧ m < n := by
  match s, hl with
  | [i, j, k, m], _ =>
    have := h.1
    simp at this
    exact ⟨i, j, k, m, rfl, by omega, by omega, by omega, h.2 m (by simp)⟩
theorem con2_none {l : List Rd} (h : con2 l = none) {s : List Nat} (hs : Asc3 l.length s) (hl : s.length = 2) : T (pick3 l s) = none := by
  obtain ⟨i, j, rfl, h1, h2⟩ := asc2 hs hl
  exact tS_none.1 (fR_none.1 (fR_none.1 h i (by omega) (by omega)) j (by omega) h2)
theorem con3_none {l : List Rd} (h : con3 l = none) {s : List Nat} (hs : Asc3 l.length s) (hl : s.length = 3) : T (pick3 l s) = none := by
  obtain ⟨i, j, k, rfl, h1, h2, h3⟩ := asc3 hs hl
  exact tS_none.1 (fR_none.1 (fR_none.1 (fR_none.1 h i (by omega) (by omega)) j (by omega) (by omega)) k (by omega) h3)
theorem con4_none {l : List Rd} (h : con4 l = none) {s : List Nat} (hs : Asc3 l.length s) (hl : s.length = 4) : T (pick3 l s) = none := by
  obtain ⟨i, j, k, m, rfl, h1, h2, h3, h4⟩ := asc4 hs hl
  exact tS_none.1 (fR_none.1 (fR_none.1 (fR_none.1 (fR_none.1 h i (by omega) (by omega)) j (by omega) (by omega)) k (by omega) (by omega)) m (by omega) h4)
theorem con2_some {l : List Rd} {x : Fnd} (h : con2 l = some x) : Asc3 l.length x.1 ∧ x.1.length = 2 ∧ T (pick3 l x.1) = some x.2 ∧ ∀ s, Asc3 l.length s → s.length = 2 → lexN s x.1 → T (pick3 l s) = none := by
  obtain ⟨i, _, hi, h, m1⟩ := fR_some h
  obtain ⟨j, hj0, hj, h, m2⟩ := fR_some h
  obtain ⟨e, ht⟩ := tS_some h
  rw [e]
  refine ⟨⟨by simp; omega, fun a ha => by simp at ha; omega⟩, rfl, ht, fun s hs hl hx => ?_⟩
  obtain ⟨i', j', rfl, h1, h2⟩ := asc2 hs hl
  rcases hx with hx | ⟨rfl, hx | ⟨rfl, hx⟩⟩
  · exact tS_none.1 (fR_none.1 (m1 i' (by omega) hx) j' (by omega) h2)
  · exact tS_none.1 (m2 j' (by omega) hx)
  · cases hx
theorem con3_some {l : List Rd} {x : Fnd} (h : con3 l = some x) : Asc3 l.length x.1 ∧ x.1.length = 3 ∧ T (pick3 l x.1) = some x.2 ∧ ∀ s, Asc3 l.length s → s.length = 3 → lexN s x.1 → T (pick3 l s) = none := by
  obtain ⟨i, _, hi, h, m1⟩ := fR_some h
  obtain ⟨j, hj0, hj, h, m2⟩ := fR_some h
  obtain ⟨k, hk0, hk, h, m3⟩ := fR_some h
  obtain ⟨e, ht⟩ := tS_some h
  rw [e]
  refine ⟨⟨by simp; omega, fun a ha => by simp at ha; omega⟩, rfl, ht, fun s hs hl hx => ?_⟩
  obtain ⟨i', j', k', rfl, h1, h2, h3⟩ := asc3 hs hl
  rcases hx with hx | ⟨rfl, hx | ⟨rfl, hx | ⟨rfl, hx⟩⟩⟩
  · exact tS_none.1 (fR_none.1 (fR_none.1 (m1 i' (by omega) hx) j' (by omega) (by omega)) k' (by omega) h3)
  · exact tS_none.1 (fR_none.1 (m2 j' (by omega) hx) k' (by omega) h3)
  · exact tS_none.1 (m3 k' (by omega) hx)
  · cases hx
theorem con4_some {l : List Rd} {x : Fnd} (h : con4 l = some x) : Asc3 l.length x.1 ∧ x.1.length = 4 ∧ T (pick3 l x.1) = some x.2 ∧ ∀ s, Asc3 l.length s → s.length = 4 → lexN s x.1 → T (pick3 l s) = none := by
  obtain ⟨i, _, hi, h, m1⟩ := fR_some h
  obtain ⟨j, hj0, hj, h, m2⟩ := fR_some h
  obtain ⟨k, hk0, hk, h, m3⟩ := fR_some h
  obtain ⟨q, hq0, hq, h, m4⟩ := fR_some h
  obtain ⟨e, ht⟩ := tS_some h
  rw [e]
  refine ⟨⟨by simp; omega, fun a ha => by simp at ha; omega⟩, rfl, ht, fun s hs hl hx => ?_⟩
  obtain ⟨i', j', k', q', rfl, h1, h2, h3, h4⟩ := asc4 hs hl
  rcases hx with hx | ⟨rfl, hx | ⟨rfl, hx | ⟨rfl, hx | ⟨rfl, hx⟩⟩⟩⟩
  · exact tS_none.1 (fR_none.1 (fR_none.1 (fR_none.1 (m1 i' (by omega) hx) j' (by omega) (by omega)) k' (by omega) (by omega)) q' (by omega) h4)
  · exact tS_none.1 (fR_none.1 (fR_none.1 (m2 j' (by omega) hx) k' (by omega) (by omega)) q' (by omega) h4)
  · exact tS_none.1 (fR_none.1 (m3 k' (by omega) hx) q' (by omega) h4)
  · exact tS_none.1 (m4 q' (by omega) hx)
  · cases hx
/-- What the first contradiction is. -/
structure Con (l : List Rd) (x : Fnd) : Prop where
  asc : Asc3 l.length x.1
  lo : 2 ≤ x.1.length
  hi : x.1.length ≤ 4
  t : T (pick3 l x.1) = some x.2
  fewer : ∀ s, Asc3 l.length s → 2 ≤ s.length → s.length < x.1.length → T (pick3 l s) = none
  lex : ∀ s, Asc3 l.length s → s.length = x.1.length → lexN s x.1 → T (pick3 l s) = none
theorem conL_some {l : List Rd} {x : Fnd} (h : conL l = some x) : Con l x := by
  unfold conL at h
  cases h2 : con2 l with
  | some y =>
    rw [h2] at h
    obtain rfl := Option.some.inj h
    obtain ⟨a, b, c, d⟩ := con2_some h2
    exact ⟨a, by omega, by omega, c, fun s _ h1 h3 => by omega, fun s hs hl hx => d s hs (by omega) hx⟩
  | none =>
    rw [h2] at h
    dsimp only at h
    cases h3 : con3 l with
    | some y =>
      rw [h3] at h
      obtain rfl := Option.some.inj h
      obtain ⟨a, b, c, d⟩ := con3_some h3
      exact ⟨a, by omega, by omega, c, fun s hs h1 h5 => con2_none h2 hs (by omega), fun s hs hl hx => d s hs (by omega) hx⟩
    | none =>
      rw [h3] at h
      dsimp only at h
      obtain ⟨a, b, c, d⟩ := con4_some h
      refine ⟨a, by omega, by omega, c, fun s hs h1 h5 => ?_, fun s hs hl hx => d s hs (by omega) hx⟩
      rcases (show s.length = 2 ∨ s.length = 3 by omega) with e | e
      · exact con2_none h2 hs e
      · exact con3_none h3 hs e
theorem conL_none {l : List Rd} (h : conL l = none) {s : List Nat} (hs : Asc3 l.length s) (h1 : 2 ≤ s.length) (h4 : s.length ≤ 4) : T (pick3 l s) = none := by
  unfold conL at h
  cases h2 : con2 l with
  | some y => rw [h2] at h; cases h
  | none =>
    rw [h2] at h
    dsimp only at h
    cases h3 : con3 l with
    | some y => rw [h3] at h; cases h
    | none =>
      rw [h3] at h
      dsimp only at h
      rcases (show s.length = 2 ∨ s.length = 3 ∨ s.length = 4 by omega) with e | e | e
      · exact con2_none h2 hs e
      · exact con3_none h3 hs e
      · exact con4_none h hs e
theorem pick3_len (l : List Rd) (s : List Nat) : (pick3 l s).length = s.length := by unfold pick3; rw [List.length_map]
theorem asc_erase {n : Nat} {s : List Nat} (h : Asc3 n s) (i : Nat) : Asc3 n (s.eraseIdx i) := ⟨h.1.sublist (List.eraseIdx_sublist _ _), fun k hk => h.2 k (List.mem_of_mem_eraseIdx hk)⟩
theorem pick3_erase (l : List Rd) (s : List Nat) (i : Nat) : pick3 l (s.eraseIdx i) = (pick3 l s).eraseIdx i := by unfold pick3; exact map_erase _ _ _
theorem pick3_mem {l : List Rd} {s : List Nat} (h : Asc3 l.length s) : ∀ r ∈ pick3 l s, r ∈ l := fun r hr => by
  obtain ⟨i, hi, rfl⟩ := List.mem_map.1 hr
  exact getD_mem (h.2 i hi)
/-- No factor of the first contradiction is 0. -/
theorem Con.ne {l : List Rd} {x : Fnd} (hd : ∀ r ∈ l, r.1 ≠ z3) (h : Con l x) : ∀ i, i < x.1.length → x.2.getD i 0 ≠ 0 := by
  intro i hi h0
  have hl := pick3_len l x.1
  have hlen := T_len h.t
  by_cases h2 : x.1.length = 2
  · obtain ⟨a, b, e, h1, h3⟩ := asc2 h.asc h2
    have ht := h.t
    rw [e] at ht
    have hm := pick3_mem h.asc
    rw [e] at hm
    have := T_two (hd _ (hm (l.getD a rd0) (by simp [pick3]))) (hd _ (hm (l.getD b rd0) (by simp [pick3]))) ht (x.2.getD i 0) (by rw [getD_lt (by omega)]; exact List.getElem_mem _)
    exact this h0
  · have hlo := h.lo
    have ht := T_erase (by omega) (by have := h.hi; omega) (fun r hr => hd r (pick3_mem h.asc r hr)) h.t (by omega) h0
    rw [← pick3_erase] at ht
    rw [h.fewer _ (asc_erase h.asc i) (by rw [List.length_eraseIdx, if_pos hi]; omega) (by rw [List.length_eraseIdx, if_pos hi]; omega)] at ht
    cases ht
/-- Without one of its readings nothing contradicts. -/
theorem Con.less {l : List Rd} {x : Fnd} (h : Con l x) {i : Nat} (hi : i < x.1.length) : conL (pick3 l (x.1.eraseIdx i)) = none := by
  cases hc : conL (pick3 l (x.1.eraseIdx i)) with
  | none => rfl
  | some y =>
    have hy := conL_some hc
    obtain ⟨s, es⟩ : ∃ s, s = x.1.eraseIdx i := ⟨_, rfl⟩
    rw [← es] at hc hy
    have hsl : s.length = x.1.length - 1 := by rw [es, List.length_eraseIdx, if_pos hi]
    have hs : Asc3 l.length s := es ▸ asc_erase h.asc i
    have e : pick3 (pick3 l s) y.1 = pick3 l (y.1.map fun k => s.getD k 0) := by
      unfold pick3
      rw [List.map_map]
      refine List.map_congr_left fun k hk => ?_
      have hk := hy.asc.2 k hk
      rw [pick3_len] at hk
      show (s.map fun i => l.getD i rd0).getD k rd0 = l.getD (s.getD k 0) rd0
      rw [getD_lt (by rw [List.length_map]; exact hk), List.getElem_map, getD_lt hk]
    have ht := hy.t
    rw [e] at ht
    have hb := hy.asc.2
    rw [pick3_len] at hb
    have hlen : y.1.length ≤ s.length := by
      have : ∀ (n : Nat) (t : List Nat), Asc3 n t → t.length ≤ n := by
        intro n
        induction n with
        | zero =>
          intro t ht
          match t, ht with
          | [], _ => exact Nat.le_refl _
          | a :: r, ht => have := ht.2 a (.head _); omega
        | succ n ih =>
          intro t ht
          match t, ht with
          | [], _ => simp
          | a :: r, ht =>
            have hp := List.pairwise_cons.1 ht.1
            have : Asc3 n (r.map (· - 1)) := ⟨by
              rw [List.pairwise_map]
              refine hp.2.imp_of_mem fun {b c} hb hc hbc => ?_
              have := hp.1 b hb
              omega, fun k hk => by
              obtain ⟨b, hb, rfl⟩ := List.mem_map.1 hk
              have h1 := ht.2 b (.tail _ hb)
              have h2 := hp.1 b hb
              omega⟩
            have := ih _ this
            rw [List.length_map] at this
            simp; omega
      have h2 := this _ _ hy.asc
      rwa [pick3_len] at h2
    have hasc : Asc3 l.length (y.1.map fun k => s.getD k 0) := by
      constructor
      · rw [List.pairwise_map]
        refine hy.asc.1.imp_of_mem fun {a b} ha hb' hab => ?_
        have h1 := hb a ha
        have h2 := hb b hb'
        rw [getD_lt h1, getD_lt h2]
        exact List.pairwise_iff_getElem.1 hs.1 a b h1 h2 hab
      · intro k hk
        obtain ⟨a, ha, rfl⟩ := List.mem_map.1 hk
        have h1 := hb a ha
        rw [getD_lt h1]
        exact hs.2 _ (List.getElem_mem _)
    have hlo := hy.lo
    rw [h.fewer _ hasc (by rw [List.length_map]; omega) (by rw [List.length_map]; omega)] at ht
    cases ht
end Go.Pi
end
