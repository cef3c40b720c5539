/- What functions of the program compute, each proved once, part 8. -/
import Derived.Test.YtglijnhkdnhofaaFnG

section
namespace Go.Pi
set_option linter.unusedVariables false
/-! ### sums -/
def sR (F : Nat → Int) : Nat → Int
  | 0 => 0
  | n + 1 => sR F n + F n
theorem sR_congr {F G : Nat → Int} : ∀ {n : Nat}, (∀ i, i < n → F i = G i) → sR F n = sR G n
  | 0, _ => rfl
  | n + 1, h => by rw [sR, sR, sR_congr fun i hi => h i (by omega), h n (by omega)]
theorem sR_add (F G : Nat → Int) : ∀ n, sR (fun i => F i + G i) n = sR F n + sR G n
  | 0 => rfl
  | n + 1 => by rw [sR, sR, sR, sR_add F G n]; omega
theorem sR_mul (c : Int) (F : Nat → Int) : ∀ n, sR (fun i => c * F i) n = c * sR F n
  | 0 => by simp [sR]
  | n + 1 => by rw [sR, sR, sR_mul c F n]; grind
theorem sR_le {F G : Nat → Int} : ∀ {n : Nat}, (∀ i, i < n → F i ≤ G i) → sR F n ≤ sR G n
  | 0, _ => Int.le_refl _
  | n + 1, h => by
    have h1 := sR_le (n := n) fun i hi => h i (by omega)
    have h2 := h n (by omega)
    rw [sR, sR]; omega
theorem sR_one (F : Nat → Int) {j : Nat} : ∀ {n : Nat}, j < n → (∀ i, i < n → i ≠ j → F i = 0) → sR F n = F j
  | n + 1, hj, h => by
    rw [sR]
    by_cases e : j = n
    · subst e
      have : sR F j = 0 := by
        rw [sR_congr (G := fun _ => 0) fun i hi => h i (by omega) (by omega)]
        have := sR_mul 0 (fun _ => 0) j
        simpa using this
      omega
    · rw [sR_one F (n := n) (by omega) fun i hi hne => h i (by omega) hne, h n (by omega) (by omega)]; omega
/-! ### what follows from readings -/
def mx (r : Rd) (f : Int) : Int := max (f * r.2.1) (f * r.2.2)
def mn (r : Rd) (f : Int) : Int := min (f * r.2.1) (f * r.2.2)
def cmb (l : List Rd) (f : Nat → Int) : V3 := (sR (fun i => f i * (l.getD i rd0).1.1) l.length, sR (fun i => f i * (l.getD i rd0).1.2.1) l.length, sR (fun i => f i * (l.getD i rd0).1.2.2) l.length)
def hiF (l : List Rd) (f : Nat → Int) : Int := sR (fun i => mx (l.getD i rd0) (f i)) l.length
def add3 (a b : V3) : V3 := (a.1 + b.1, a.2.1 + b.2.1, a.2.2 + b.2.2)
def mul3 (c : Int) (a : V3) : V3 := (c * a.1, c * a.2.1, c * a.2.2)
theorem cmb_lin (l : List Rd) (f g : Nat → Int) (m n : Int) : cmb l (fun i => m * f i + n * g i) = add3 (mul3 m (cmb l f)) (mul3 n (cmb l g)) := by
  have key : ∀ D : Nat → Int, sR (fun i => (m * f i + n * g i) * D i) l.length = m * sR (fun i => f i * D i) l.length + n * sR (fun i => g i * D i) l.length := fun D => by
    rw [← sR_mul, ← sR_mul, ← sR_add]
    exact sR_congr fun i _ => by grind
  simp only [cmb, add3, mul3, key]
theorem mx_mul {r : Rd} {m f : Int} (hm : 0 ≤ m) : mx r (m * f) = m * mx r f := by
  unfold mx
  rw [Int.mul_assoc, Int.mul_assoc]
  rcases Int.le_total (f * r.2.1) (f * r.2.2) with h | h
  · have := Int.mul_le_mul_of_nonneg_left h hm
    rw [Int.max_eq_right h, Int.max_eq_right this]
  · have := Int.mul_le_mul_of_nonneg_left h hm
    rw [Int.max_eq_left h, Int.max_eq_left this]
theorem mx_add (r : Rd) (f g : Int) : mx r (f + g) ≤ mx r f + mx r g := by
  unfold mx
  have e1 : (f + g) * r.2.1 = f * r.2.1 + g * r.2.1 := by grind
  have e2 : (f + g) * r.2.2 = f * r.2.2 + g * r.2.2 := by grind
  omega
theorem hiF_lin (l : List Rd) (f g : Nat → Int) {m n : Int} (hm : 0 ≤ m) (hn : 0 ≤ n) : hiF l (fun i => m * f i + n * g i) ≤ m * hiF l f + n * hiF l g := by
  unfold hiF
  rw [← sR_mul, ← sR_mul, ← sR_add]
  refine sR_le fun i _ => ?_
  have := mx_add (l.getD i rd0) (m * f i) (n * g i)
  rw [mx_mul hm, mx_mul hn] at this
  exact this
abbrev Iq := V3 × Int
def Der (l : List Rd) (i : Iq) : Prop := ∃ f, cmb l f = i.1 ∧ hiF l f ≤ i.2
def comI (m : Int) (i : Iq) (n : Int) (j : Iq) : Iq := (add3 (mul3 m i.1) (mul3 n j.1), m * i.2 + n * j.2)
theorem Der.com {l : List Rd} {i j : Iq} (hi : Der l i) (hj : Der l j) {m n : Int} (hm : 0 ≤ m) (hn : 0 ≤ n) : Der l (comI m i n j) := by
  obtain ⟨f, f1, f2⟩ := hi
  obtain ⟨g, g1, g2⟩ := hj
  refine ⟨fun k => m * f k + n * g k, by rw [cmb_lin, f1, g1]; rfl, ?_⟩
  have h1 := hiF_lin l f g hm hn
  have h2 := Int.mul_le_mul_of_nonneg_left f2 hm
  have h3 := Int.mul_le_mul_of_nonneg_left g2 hn
  show _ ≤ m * i.2 + n * j.2
  omega
/-! ### a coordinate less -/
def satI (L : List Iq) (x : V3) (q : Int) : Prop := ∀ i ∈ L, dot i.1 x ≤ i.2 * q
structure Lin (c : V3 → Int) : Prop where
  lin : ∀ (m n : Int) (a b : V3), c (add3 (mul3 m a) (mul3 n b)) = m * c a + n * c b
theorem most {α : Type} (n m : α → Int) : ∀ l : List α, l ≠ [] → (∀ a ∈ l, 0 < m a) → ∃ a ∈ l, ∀ b ∈ l, n b * m a ≤ n a * m b
  | [], h, _ => absurd rfl h
  | a :: l, _, hm => by
    have ha := hm a (.head _)
    by_cases hl : l = []
    · subst hl
      exact ⟨a, .head _, fun b hb => by simp at hb; subst hb; exact Int.le_refl _⟩
    · obtain ⟨c, hc, hb⟩ := most n m l hl fun b hb => hm b (.tail _ hb)
      have hcm := hm c (.tail _ hc)
      rcases Int.le_total (n a * m c) (n c * m a) with h | h
      · refine ⟨c, .tail _ hc, fun b hb' => ?_⟩
        rcases List.mem_cons.1 hb' with rfl | hb'
        · exact h
        · exact hb b hb'
      · refine ⟨a, .head _, fun b hb' => ?_⟩
        rcases List.mem_cons.1 hb' with rfl | hb'
        · exact Int.le_refl _
        · exact q_le (hm b (.tail _ hb')) hcm ha (hb b hb') h
theorem dot_com (m n : Int) (a b x : V3) : dot (add3 (mul3 m a) (mul3 n b)) x = m * dot a x + n * dot b x := by simp only [dot, add3, mul3]; grind
theorem elim {c : V3 → Int} {e : V3} (hc : Lin c) (he : ∀ (a x : V3) (s t : Int), dot a (add3 (mul3 s x) (mul3 t e)) = s * dot a x + t * c a) {P : Iq → Prop}
    (hP : ∀ {i j : Iq}, P i → P j → ∀ {m n : Int}, 0 ≤ m → 0 ≤ n → P (comI m i n j)) (L : List Iq) (hL : ∀ i ∈ L, P i) :
    ∃ L' : List Iq, (∀ i ∈ L', P i ∧ c i.1 = 0) ∧ (∀ c2 : V3 → Int, Lin c2 → (∀ i ∈ L, c2 i.1 = 0) → ∀ i ∈ L', c2 i.1 = 0) ∧ ∀ x q, 0 < q → satI L' x q → ∃ x' q', 0 < q' ∧ satI L x' q' := by
  refine ⟨L.filter (fun i => decide (c i.1 = 0)) ++ (L.filter (fun i => decide (0 < c i.1))).flatMap fun i => (L.filter (fun j => decide (c j.1 < 0))).map fun j => comI (-c j.1) i (c i.1) j, fun k hk => ?_, fun c2 h2 hz k hk => ?_, fun x q hq hs => ?_⟩
  · rcases List.mem_append.1 hk with hk | hk
    · have := List.mem_filter.1 hk
      exact ⟨hL k this.1, of_decide_eq_true this.2⟩
    · obtain ⟨i, hi, hk⟩ := List.mem_flatMap.1 hk
      obtain ⟨j, hj, rfl⟩ := List.mem_map.1 hk
      have hi := List.mem_filter.1 hi
      have hj := List.mem_filter.1 hj
      have h1 := of_decide_eq_true hi.2
      have h2 := of_decide_eq_true hj.2
      refine ⟨hP (hL i hi.1) (hL j hj.1) (by omega) (by omega), ?_⟩
      show c (add3 (mul3 _ _) (mul3 _ _)) = 0
      rw [hc.lin]; grind
  · rcases List.mem_append.1 hk with hk | hk
    · exact hz k (List.mem_filter.1 hk).1
    · obtain ⟨i, hi, hk⟩ := List.mem_flatMap.1 hk
      obtain ⟨j, hj, rfl⟩ := List.mem_map.1 hk
      have hi := hz i (List.mem_filter.1 hi).1
      have hj := hz j (List.mem_filter.1 hj).1
      show c2 (add3 (mul3 _ _) (mul3 _ _)) = 0
      rw [h2.lin, hi, hj]; omega
  · have z : ∀ i ∈ L, c i.1 = 0 → dot i.1 x ≤ i.2 * q := fun i hi h => hs i (List.mem_append_left _ (List.mem_filter.2 ⟨hi, decide_eq_true h⟩))
    have pn : ∀ i ∈ L, ∀ j ∈ L, 0 < c i.1 → c j.1 < 0 → -c j.1 * dot i.1 x + c i.1 * dot j.1 x ≤ (-c j.1 * i.2 + c i.1 * j.2) * q := fun i hi j hj h1 h2 => by
      have := hs (comI (-c j.1) i (c i.1) j) (List.mem_append_right _ (List.mem_flatMap.2 ⟨i, List.mem_filter.2 ⟨hi, decide_eq_true h1⟩, List.mem_map.2 ⟨j, List.mem_filter.2 ⟨hj, decide_eq_true h2⟩, rfl⟩⟩))
      unfold comI at this
      dsimp only at this
      rwa [dot_com] at this
    by_cases hn : L.filter (fun j => decide (c j.1 < 0)) = []
    · by_cases hp : L.filter (fun j => decide (0 < c j.1)) = []
      · refine ⟨x, q, hq, fun i hi => z i hi ?_⟩
        have h1 : ¬ c i.1 < 0 := fun h => by
          have := List.mem_filter (p := fun j : Iq => decide (c j.1 < 0)).2 ⟨hi, decide_eq_true h⟩
          rw [hn] at this; cases this
        have h2 : ¬ 0 < c i.1 := fun h => by
          have := List.mem_filter (p := fun j : Iq => decide (0 < c j.1)).2 ⟨hi, decide_eq_true h⟩
          rw [hp] at this; cases this
        omega
      · obtain ⟨i, hi, hb⟩ := most (fun i : Iq => dot i.1 x - i.2 * q) (fun i => c i.1) _ hp fun a ha => of_decide_eq_true (List.mem_filter.1 ha).2
        have hi := List.mem_filter.1 hi
        have hci := of_decide_eq_true hi.2
        refine ⟨add3 (mul3 (c i.1) x) (mul3 (i.2 * q - dot i.1 x) e), c i.1 * q, Int.mul_pos hci hq, fun k hk => ?_⟩
        rw [he]
        rcases Int.lt_trichotomy (c k.1) 0 with h | h | h
        · have := List.mem_filter (p := fun j : Iq => decide (c j.1 < 0)).2 ⟨hk, decide_eq_true h⟩
          rw [hn] at this; cases this
        · have h1 := Int.mul_le_mul_of_nonneg_left (z k hk h) (show 0 ≤ c i.1 by omega)
          rw [h]
          have e2 : k.2 * (c i.1 * q) = c i.1 * (k.2 * q) := by grind
          omega
        · have h1 := hb k (List.mem_filter.2 ⟨hk, decide_eq_true h⟩)
          have e2 : c i.1 * dot k.1 x + (i.2 * q - dot i.1 x) * c k.1 - k.2 * (c i.1 * q) = (dot k.1 x - k.2 * q) * c i.1 - (dot i.1 x - i.2 * q) * c k.1 := by grind
          omega
    · obtain ⟨j, hj, hb⟩ := most (fun j : Iq => dot j.1 x - j.2 * q) (fun j => -c j.1) _ hn fun a ha => by have := of_decide_eq_true (List.mem_filter.1 ha).2; omega
      have hj := List.mem_filter.1 hj
      have hcj := of_decide_eq_true hj.2
      refine ⟨add3 (mul3 (-c j.1) x) (mul3 (dot j.1 x - j.2 * q) e), -c j.1 * q, Int.mul_pos (by omega) hq, fun k hk => ?_⟩
      rw [he]
      rcases Int.lt_trichotomy (c k.1) 0 with h | h | h
      · have h1 := hb k (List.mem_filter.2 ⟨hk, decide_eq_true h⟩)
        have e2 : -c j.1 * dot k.1 x + (dot j.1 x - j.2 * q) * c k.1 - k.2 * (-c j.1 * q) = (dot k.1 x - k.2 * q) * -c j.1 - (dot j.1 x - j.2 * q) * -c k.1 := by grind
        omega
      · have h1 := Int.mul_le_mul_of_nonneg_left (z k hk h) (show 0 ≤ -c j.1 by omega)
        rw [h]
        have e2 : k.2 * (-c j.1 * q) = -c j.1 * (k.2 * q) := by grind
        omega
      · have h1 := pn k hk j hj.1 h hcj
        have e2 : -c j.1 * dot k.1 x + (dot j.1 x - j.2 * q) * c k.1 - k.2 * (-c j.1 * q) = (-c j.1 * dot k.1 x + c k.1 * dot j.1 x) - (-c j.1 * k.2 + c k.1 * j.2) * q := by grind
        omega
/-- Factors that rule out every point. -/
structure Cert (l : List Rd) (f : Nat → Int) : Prop where
  zero : cmb l f = z3
  neg : hiF l f < 0
theorem farkas {l : List Rd} (hl : ∀ r ∈ l, r.2.1 ≤ r.2.2) : (∃ p q, 0 < q ∧ agQ l p q) ∨ ∃ f, Cert l f := by
  obtain ⟨L, eL⟩ : ∃ L : List Iq, L = l.map (fun r => (r.1, r.2.2)) ++ l.map (fun r => (neg3 r.1, -r.2.1)) := ⟨_, rfl⟩
  have unit : ∀ (k : Nat) (s : Int), k < l.length → cmb l (fun i => if i = k then s else 0) = mul3 s (l.getD k rd0).1 ∧ hiF l (fun i => if i = k then s else 0) = mx (l.getD k rd0) s := fun k s hk => by
    constructor
    · simp only [cmb, mul3, Prod.mk.injEq]
      refine ⟨?_, ?_, ?_⟩
      · rw [sR_one _ hk fun i _ hne => by rw [if_neg hne, Int.zero_mul], if_pos rfl]
      · rw [sR_one _ hk fun i _ hne => by rw [if_neg hne, Int.zero_mul], if_pos rfl]
      · rw [sR_one _ hk fun i _ hne => by rw [if_neg hne, Int.zero_mul], if_pos rfl]
    · unfold hiF
      rw [sR_one _ hk fun i _ hne => by show mx _ (if i = k then s else 0) = 0; rw [if_neg hne]; simp [mx]]
      show mx _ (if k = k then s else 0) = _
      rw [if_pos rfl]
  have hD : ∀ i ∈ L, Der l i := fun i hi => by
    rw [eL] at hi
    rcases List.mem_append.1 hi with hi | hi
    · obtain ⟨r, hr, rfl⟩ := List.mem_map.1 hi
      obtain ⟨k, hk, e⟩ := List.getElem_of_mem hr
      have eg : l.getD k rd0 = r := by rw [getD_lt hk, e]
      have hu := unit k 1 hk
      rw [eg] at hu
      have := hl r hr
      refine ⟨_, hu.1.trans ?_, by rw [hu.2]; unfold mx; dsimp only; omega⟩
      simp [mul3]
    · obtain ⟨r, hr, rfl⟩ := List.mem_map.1 hi
      obtain ⟨k, hk, e⟩ := List.getElem_of_mem hr
      have eg : l.getD k rd0 = r := by rw [getD_lt hk, e]
      have hu := unit k (-1) hk
      rw [eg] at hu
      have := hl r hr
      refine ⟨_, hu.1.trans ?_, by rw [hu.2]; unfold mx; dsimp only; omega⟩
      simp [mul3, neg3]
  have l1 : Lin (fun a : V3 => a.1) := ⟨fun m n a b => rfl⟩
  have l2 : Lin (fun a : V3 => a.2.1) := ⟨fun m n a b => rfl⟩
  have l3 : Lin (fun a : V3 => a.2.2) := ⟨fun m n a b => rfl⟩
  have hcom : ∀ {i j : Iq}, Der l i → Der l j → ∀ {m n : Int}, 0 ≤ m → 0 ≤ n → Der l (comI m i n j) := fun hi hj _ _ hm hn => hi.com hj hm hn
  obtain ⟨L1, a1, _, s1⟩ := elim (e := (1, 0, 0)) l1 (fun a x s t => by simp only [dot, add3, mul3]; grind) hcom L hD
  obtain ⟨L2, a2, k2, s2⟩ := elim (e := (0, 1, 0)) l2 (fun a x s t => by simp only [dot, add3, mul3]; grind) hcom L1 fun i hi => (a1 i hi).1
  obtain ⟨L3, a3, k3, s3⟩ := elim (e := (0, 0, 1)) l3 (fun a x s t => by simp only [dot, add3, mul3]; grind) hcom L2 fun i hi => (a2 i hi).1
  have z1 := k3 _ l1 (k2 _ l1 fun i hi => (a1 i hi).2)
  have z2 := k3 _ l2 fun i hi => (a2 i hi).2
  have z3' : ∀ i ∈ L3, i.1 = z3 := fun i hi => by
    have h1 := z1 i hi
    have h2 := z2 i hi
    have h3 := (a3 i hi).2
    obtain ⟨⟨x, y, z⟩, b⟩ := i
    simp only at h1 h2 h3
    rw [h1, h2, h3]
  by_cases hb : ∀ i ∈ L3, 0 ≤ i.2
  · left
    obtain ⟨x2, q2, p2, t2⟩ := s3 z3 1 (by omega) fun i hi => by
      rw [z3' i hi]
      have := hb i hi
      simp [dot]; omega
    obtain ⟨x1, q1, p1, t1⟩ := s2 x2 q2 p2 t2
    obtain ⟨x, q, p, t⟩ := s1 x1 q1 p1 t1
    refine ⟨x, q, p, fun r hr => ?_⟩
    have h1 := t (r.1, r.2.2) (by rw [eL]; exact List.mem_append_left _ (List.mem_map.2 ⟨r, hr, rfl⟩))
    have h2 := t (neg3 r.1, -r.2.1) (by rw [eL]; exact List.mem_append_right _ (List.mem_map.2 ⟨r, hr, rfl⟩))
    dsimp only at h1 h2
    have e : dot (neg3 r.1) x = -dot r.1 x := by simp only [dot, neg3]; grind
    have e2 : -r.2.1 * q = -(r.2.1 * q) := by grind
    omega
  · right
    obtain ⟨i, hi, hn⟩ : ∃ i ∈ L3, ¬ 0 ≤ i.2 := Classical.byContradiction fun hh => hb fun i hi => Classical.byContradiction fun h => hh ⟨i, hi, h⟩
    obtain ⟨f, f1, f2⟩ := (a3 i hi).1
    exact ⟨f, by rw [f1, z3' i hi], by omega⟩
end Go.Pi
end

section
namespace Go.Pi
set_option linter.unusedVariables false
def cnt (f : Nat → Int) : Nat → Nat
  | 0 => 0
  | n + 1 => cnt f n + if f n = 0 then 0 else 1
theorem cnt_le {f g : Nat → Int} : ∀ {n : Nat}, (∀ i, i < n → f i = 0 → g i = 0) → cnt g n ≤ cnt f n
  | 0, _ => Nat.le_refl _
  | n + 1, h => by
    have h1 := cnt_le (n := n) fun i hi => h i (by omega)
    have h2 := h n (by omega)
    rw [cnt, cnt]
    by_cases e : f n = 0
    · rw [if_pos e, if_pos (h2 e)]; exact h1
    · rw [if_neg e]; split <;> omega
theorem cnt_lt {f g : Nat → Int} {j : Nat} (hf : f j ≠ 0) (hg : g j = 0) : ∀ {n : Nat}, j < n → (∀ i, i < n → f i = 0 → g i = 0) → cnt g n < cnt f n
  | n + 1, hj, h => by
    have h2 := h n (by omega)
    rw [cnt, cnt]
    by_cases e : j = n
    · subst e
      have h1 := cnt_le (n := j) fun i hi => h i (by omega)
      rw [if_neg hf, if_pos hg]; omega
    · have h1 := cnt_lt hf hg (n := n) (by omega) fun i hi => h i (by omega)
      by_cases e : f n = 0
      · rw [if_pos e, if_pos (h2 e)]; exact h1
      · rw [if_neg e]; split <;> omega
theorem min_cert {l : List Rd} {f : Nat → Int} (h : Cert l f) : ∃ g, Cert l g ∧ ∀ k, Cert l k → cnt g l.length ≤ cnt k l.length := by
  obtain ⟨n, hn⟩ : ∃ n, cnt f l.length = n := ⟨_, rfl⟩
  induction n using Nat.strongRecOn generalizing f with
  | _ n ih =>
    by_cases hm : ∀ k, Cert l k → cnt f l.length ≤ cnt k l.length
    · exact ⟨f, h, hm⟩
    · obtain ⟨k, hk, hlt⟩ : ∃ k, Cert l k ∧ ¬ cnt f l.length ≤ cnt k l.length := Classical.byContradiction fun hh => hm fun k hk => Classical.byContradiction fun hc => hh ⟨k, hk, hc⟩
      exact ih (cnt k l.length) (by omega) hk rfl
theorem mx_pos {r : Rd} (hr : r.2.1 ≤ r.2.2) {x : Int} (hx : 0 ≤ x) : mx r x = x * r.2.2 := by
  have := Int.mul_le_mul_of_nonneg_left hr hx
  unfold mx; omega
theorem mx_neg {r : Rd} (hr : r.2.1 ≤ r.2.2) {x : Int} (hx : x ≤ 0) : mx r x = x * r.2.1 := by
  have := Int.mul_le_mul_of_nonpos_left hx hr
  unfold mx; omega
theorem mx_both {r : Rd} (hr : r.2.1 ≤ r.2.2) {x y : Int} (h : 0 ≤ x * y) : mx r (x + y) = mx r x + mx r y := by
  rcases Int.lt_trichotomy x 0 with hx | hx | hx
  · have hy : y ≤ 0 := Classical.byContradiction fun hh => by
      have := Int.mul_neg_of_neg_of_pos hx (show 0 < y by omega)
      omega
    rw [mx_neg hr (by omega), mx_neg hr (by omega), mx_neg hr hy]; grind
  · subst hx
    have e : mx r 0 = 0 := by simp [mx]
    rw [e, Int.zero_add, Int.zero_add]
  · have hy : 0 ≤ y := Classical.byContradiction fun hh => by
      have := Int.mul_neg_of_pos_of_neg hx (show y < 0 by omega)
      omega
    rw [mx_pos hr (by omega), mx_pos hr (by omega), mx_pos hr hy]; grind
def ab (x : Int) : Int := (x.natAbs : Int)
theorem ab_nn (x : Int) : 0 ≤ ab x := by unfold ab; omega
theorem ab_pos {x : Int} (h : x ≠ 0) : 0 < ab x := by unfold ab; omega
theorem ab_opp {x y : Int} (h : x * y < 0) : ab y * x + ab x * y = 0 := by
  rcases Int.lt_trichotomy x 0 with hx | hx | hx
  · have hy : 0 < y := Classical.byContradiction fun hh => by
      have := Int.mul_nonneg_of_nonpos_of_nonpos (show x ≤ 0 by omega) (show y ≤ 0 by omega)
      omega
    rw [show ab y = y by unfold ab; omega, show ab x = -x by unfold ab; omega]; grind
  · subst hx; simp at h
  · have hy : y < 0 := Classical.byContradiction fun hh => by
      have := Int.mul_nonneg (show 0 ≤ x by omega) (show 0 ≤ y by omega)
      omega
    rw [show ab y = -y by unfold ab; omega, show ab x = x by unfold ab; omega]; grind
theorem ab_same {x y : Int} (h : 0 < x * y) : ab y * x = ab x * y := by
  rcases Int.lt_trichotomy x 0 with hx | hx | hx
  · have hy : y < 0 := Classical.byContradiction fun hh => by
      have := Int.mul_nonpos_of_nonpos_of_nonneg (show x ≤ 0 by omega) (show 0 ≤ y by omega)
      omega
    rw [show ab y = -y by unfold ab; omega, show ab x = -x by unfold ab; omega]; grind
  · subst hx; simp at h
  · have hy : 0 < y := Classical.byContradiction fun hh => by
      have := Int.mul_nonpos_of_nonneg_of_nonpos (show 0 ≤ x by omega) (show y ≤ 0 by omega)
      omega
    rw [show ab y = y by unfold ab; omega, show ab x = x by unfold ab; omega]; grind
theorem ab_mul (x y : Int) : ab (x * y) = ab x * ab y := by unfold ab; rw [Int.natAbs_mul]; push_cast; rfl
theorem ab_sq (x : Int) : ab x * ab x = x * x := by
  unfold ab
  rcases Int.le_total 0 x with h | h
  · rw [show (x.natAbs : Int) = x by omega]
  · rw [show (x.natAbs : Int) = -x by omega]; grind
/-- Of the fewest factors there is one choice alone. -/
theorem min_one {l : List Rd} (hl : ∀ r ∈ l, r.2.1 ≤ r.2.2) {f : Nat → Int} (hf : Cert l f) (hm : ∀ k, Cert l k → cnt f l.length ≤ cnt k l.length) {g : Nat → Int} (hz : cmb l g = z3) (hs : ∀ i, i < l.length → f i = 0 → g i = 0) :
    ∀ i j, i < l.length → j < l.length → f i * g j = f j * g i := by
  intro i j hi hj
  refine Classical.byContradiction fun hne => ?_
  have hr : ∀ k, k < l.length → (l.getD k rd0).2.1 ≤ (l.getD k rd0).2.2 := fun k hk => hl _ (getD_mem hk)
  have fj : f j ≠ 0 := fun hh => hne (by rw [hh, hs j hj hh]; simp)
  have fi : f i ≠ 0 := fun hh => hne (by rw [hh, hs i hi hh]; simp)
  have lin0 : ∀ (a b : Nat → Int) (m n : Int), cmb l a = z3 → cmb l b = z3 → cmb l (fun k => m * a k + n * b k) = z3 := fun a b m n ha hb => by
    rw [cmb_lin, ha, hb]; simp [add3, mul3]
  obtain ⟨h, hcz, hh0, hhj, hhi⟩ : ∃ h : Nat → Int, cmb l h = z3 ∧ (∀ k, k < l.length → f k = 0 → h k = 0) ∧ h j = 0 ∧ f i * h i < 0 := by
    have base : f i * (f j * g i + -g j * f i) ≠ 0 := fun hh => by
      rcases Int.mul_eq_zero.1 hh with e | e
      · exact fi e
      · exact hne (by grind)
    by_cases hc : f i * (f j * g i + -g j * f i) < 0
    · refine ⟨fun k => f j * g k + -g j * f k, lin0 g f _ _ hz hf.zero, fun k hk e => ?_, by grind, hc⟩
      show f j * g k + -g j * f k = 0
      rw [e, hs k hk e]; simp
    · refine ⟨fun k => -f j * g k + g j * f k, lin0 g f _ _ hz hf.zero, fun k hk e => ?_, by grind, ?_⟩
      · show -f j * g k + g j * f k = 0
        rw [e, hs k hk e]; simp
      · show f i * (-f j * g i + g j * f i) < 0
        have : f i * (-f j * g i + g j * f i) = -(f i * (f j * g i + -g j * f i)) := by grind
        omega
  -- the first coordinate that vanishes
  obtain ⟨a, ha, hmin⟩ := most (fun k => -ab (f k)) (fun k => ab (h k)) ((List.range l.length).filter fun k => decide (f k * h k < 0))
    (List.ne_nil_of_mem (List.mem_filter.2 ⟨List.mem_range.2 hi, decide_eq_true hhi⟩)) fun k hk => ab_pos fun e => by
      have := of_decide_eq_true (List.mem_filter.1 hk).2
      rw [e] at this; simp at this
  have han := List.mem_range.1 (List.mem_filter.1 ha).1
  have haf := of_decide_eq_true (List.mem_filter.1 ha).2
  have fa : f a ≠ 0 := fun e => by rw [e] at haf; simp at haf
  have hha : h a ≠ 0 := fun e => by rw [e] at haf; simp at haf
  obtain ⟨u, eu⟩ : ∃ u : Nat → Int, u = fun k => ab (h a) * f k + ab (f a) * h k := ⟨_, rfl⟩
  have ua : u a = 0 := by rw [eu]; exact ab_opp haf
  have uj : u j ≠ 0 := by
    rw [eu]
    show ab (h a) * f j + ab (f a) * h j ≠ 0
    rw [hhj, Int.mul_zero, Int.add_zero]
    exact fun e => by
      rcases Int.mul_eq_zero.1 e with e | e
      · have := ab_pos hha; omega
      · exact fj e
  have us : ∀ k, k < l.length → f k = 0 → u k = 0 := fun k hk e => by
    rw [eu]
    show ab (h a) * f k + ab (f a) * h k = 0
    rw [e, hh0 k hk e]; simp
  have uc : cmb l u = z3 := by rw [eu]; exact lin0 f h _ _ hf.zero hcz
  have uf : ∀ k, k < l.length → 0 ≤ f k * u k := fun k hk => by
    rw [eu]
    show 0 ≤ f k * (ab (h a) * f k + ab (f a) * h k)
    have e1 : f k * (ab (h a) * f k + ab (f a) * h k) = ab (h a) * (f k * f k) + ab (f a) * (f k * h k) := by grind
    rw [e1]
    by_cases hc : f k * h k < 0
    · have := hmin k (List.mem_filter.2 ⟨List.mem_range.2 hk, decide_eq_true hc⟩)
      have e2 : f k * h k = -(ab (f k) * ab (h k)) := by
        rw [← ab_mul]; unfold ab; omega
      rw [e2, ← ab_sq]
      have h1 : 0 ≤ ab (f k) * (ab (f k) * ab (h a) - ab (f a) * ab (h k)) := Int.mul_nonneg (ab_nn _) (by
        have e3 : -ab (f k) * ab (h a) = -(ab (f k) * ab (h a)) := by grind
        have e4 : -ab (f a) * ab (h k) = -(ab (f a) * ab (h k)) := by grind
        omega)
      have e5 : ab (h a) * (ab (f k) * ab (f k)) + ab (f a) * -(ab (f k) * ab (h k)) = ab (f k) * (ab (f k) * ab (h a) - ab (f a) * ab (h k)) := by grind
      omega
    · have h1 : 0 ≤ ab (h a) * (f k * f k) := Int.mul_nonneg (ab_nn _) (by rcases Int.le_total 0 (f k) with q | q; exact Int.mul_nonneg q q; exact Int.mul_nonneg_of_nonpos_of_nonpos q q)
      have h2 : 0 ≤ ab (f a) * (f k * h k) := Int.mul_nonneg (ab_nn _) (by omega)
      omega
  have un : ¬ hiF l u < 0 := fun hn => by
    have h1 := hm u ⟨uc, hn⟩
    have h2 := cnt_lt fa ua han us
    omega
  -- what is left of the factors
  obtain ⟨b, hb, hmin2⟩ := most (fun k => -ab (f k)) (fun k => ab (u k)) ((List.range l.length).filter fun k => decide (u k ≠ 0))
    (List.ne_nil_of_mem (List.mem_filter.2 ⟨List.mem_range.2 hj, decide_eq_true uj⟩)) fun k hk => ab_pos (of_decide_eq_true (List.mem_filter.1 hk).2)
  have hbn := List.mem_range.1 (List.mem_filter.1 hb).1
  have ub : u b ≠ 0 := of_decide_eq_true (List.mem_filter.1 hb).2
  have fb : f b ≠ 0 := fun e => ub (us b hbn e)
  have fub : 0 < f b * u b := by
    have := uf b hbn
    have : f b * u b ≠ 0 := fun e => by
      rcases Int.mul_eq_zero.1 e with e | e
      · exact fb e
      · exact ub e
    omega
  obtain ⟨w, ew⟩ : ∃ w : Nat → Int, w = fun k => ab (u b) * f k + -ab (f b) * u k := ⟨_, rfl⟩
  have wb : w b = 0 := by
    rw [ew]
    show ab (u b) * f b + -ab (f b) * u b = 0
    have := ab_same fub
    grind
  have ws : ∀ k, k < l.length → f k = 0 → w k = 0 := fun k hk e => by
    rw [ew]
    show ab (u b) * f k + -ab (f b) * u k = 0
    rw [e, us k hk e]; simp
  have wc : cmb l w = z3 := by rw [ew]; exact lin0 f u _ _ hf.zero uc
  have wu : ∀ k, k < l.length → 0 ≤ w k * (ab (f b) * u k) := fun k hk => by
    rw [ew]
    show 0 ≤ (ab (u b) * f k + -ab (f b) * u k) * (ab (f b) * u k)
    by_cases hu : u k = 0
    · rw [hu]; simp
    · have h1 := hmin2 k (List.mem_filter.2 ⟨List.mem_range.2 hk, decide_eq_true hu⟩)
      have h2 := uf k hk
      have e2 : f k * u k = ab (f k) * ab (u k) := by rw [← ab_mul]; unfold ab; omega
      have e1 : (ab (u b) * f k + -ab (f b) * u k) * (ab (f b) * u k) = ab (f b) * (ab (u b) * (f k * u k) - ab (f b) * (u k * u k)) := by grind
      rw [e1, e2, ← ab_sq (u k)]
      have e3 : ab (u b) * (ab (f k) * ab (u k)) - ab (f b) * (ab (u k) * ab (u k)) = ab (u k) * (ab (f k) * ab (u b) - ab (f b) * ab (u k)) := by grind
      rw [e3]
      have e4 : -ab (f k) * ab (u b) = -(ab (f k) * ab (u b)) := by grind
      have e5 : -ab (f b) * ab (u k) = -(ab (f b) * ab (u k)) := by grind
      exact Int.mul_nonneg (ab_nn _) (Int.mul_nonneg (ab_nn _) (by omega))
  have e : ab (u b) * hiF l f = hiF l w + ab (f b) * hiF l u := by
    unfold hiF
    rw [← sR_mul, ← sR_mul, ← sR_add]
    refine sR_congr fun k hk => ?_
    rw [← mx_mul (ab_nn _), ← mx_mul (ab_nn _), ← mx_both (hr k hk) (wu k hk)]
    congr 1
    rw [ew]
    show ab (u b) * f k = ab (u b) * f k + -ab (f b) * u k + ab (f b) * u k
    grind
  have h1 : ab (u b) * hiF l f < 0 := Int.mul_neg_of_pos_of_neg (ab_pos ub) hf.neg
  have h2 : 0 ≤ ab (f b) * hiF l u := Int.mul_nonneg (ab_nn _) (by omega)
  have h3 := hm w ⟨wc, by omega⟩
  have h4 := cnt_lt fb wb hbn ws
  omega
end Go.Pi
end

section
namespace Go.Pi
set_option linter.unusedVariables false
/-! ### the sums of ranges -/
def totL : List Rd → List Int → Int × Int
  | r :: m, f :: fs => (mn r f + (totL m fs).1, mx r f + (totL m fs).2)
  | _, _ => (0, 0)
def apart (r : Int × Int) : Bool := !(decide (r.1 ≤ 0 ∧ 0 ≤ r.2))
def dirs (m : List Rd) : List V3 := m.map (·.1)
/-- The factors by which readings contradict each other. -/
def T (m : List Rd) : Option (List Int) := if (relL (dirs m)).2 = true ∧ apart (totL m (relL (dirs m)).1) = true then some (relL (dirs m)).1 else none
theorem T_some {m : List Rd} {f : List Int} (h : T m = some f) : IsRel (dirs m) f ∧ apart (totL m f) = true ∧ relL (dirs m) = (f, true) := by
  unfold T at h
  split at h
  · rename_i hc
    obtain rfl := Option.some.inj h
    refine ⟨relL_is hc.1, hc.2, ?_⟩
    rw [← hc.1]
  · cases h
theorem T_of {m : List Rd} {f : List Int} (hv : Vs (dirs m)) (h : IsRel (dirs m) f) (ha : apart (totL m f) = true) : T m = some f := by
  have e := relL_of hv h
  unfold T
  rw [e, if_pos ⟨rfl, ha⟩]
theorem mn_le {r : Rd} {p : V3} {q f : Int} (hq : 0 < q) (h : r.2.1 * q ≤ dot r.1 p ∧ dot r.1 p ≤ r.2.2 * q) : mn r f * q ≤ f * dot r.1 p ∧ f * dot r.1 p ≤ mx r f * q := by
  unfold mn mx
  have key : ∀ a b : Int, min a b * q = min (a * q) (b * q) ∧ max a b * q = max (a * q) (b * q) := fun a b => by
    rcases Int.le_total a b with h | h
    · have := Int.mul_le_mul_of_nonneg_right h (show 0 ≤ q by omega)
      rw [Int.min_eq_left h, Int.max_eq_right h, Int.min_eq_left this, Int.max_eq_right this]; exact ⟨rfl, rfl⟩
    · have := Int.mul_le_mul_of_nonneg_right h (show 0 ≤ q by omega)
      rw [Int.min_eq_right h, Int.max_eq_left h, Int.min_eq_right this, Int.max_eq_left this]; exact ⟨rfl, rfl⟩
  rw [(key _ _).1, (key _ _).2]
  have e1 : f * r.2.1 * q = f * (r.2.1 * q) := by grind
  have e2 : f * r.2.2 * q = f * (r.2.2 * q) := by grind
  rcases Int.le_total 0 f with hf | hf
  · have h1 := Int.mul_le_mul_of_nonneg_left h.1 hf
    have h2 := Int.mul_le_mul_of_nonneg_left h.2 hf
    omega
  · have h1 := Int.mul_le_mul_of_nonpos_left hf h.1
    have h2 := Int.mul_le_mul_of_nonpos_left hf h.2
    omega
theorem tot_dot {p : V3} {q : Int} (hq : 0 < q) : ∀ {m : List Rd} {f : List Int}, agQ m p q → (totL m f).1 * q ≤ dot (comb f (dirs m)) p ∧ dot (comb f (dirs m)) p ≤ (totL m f).2 * q
  | [], f, _ => by
    have : comb f (dirs []) = (0, 0, 0) := by cases f <;> rfl
    rw [this]; simp [totL, dot]
  | r :: m, [], _ => by simp [totL, comb, dot]
  | r :: m, f :: fs, ha => by
    have ih := tot_dot hq (m := m) (f := fs) fun s hs => ha s (.tail _ hs)
    have h1 := mn_le (f := f) hq (ha r (.head _))
    have e : dot (comb (f :: fs) (dirs (r :: m))) p = f * dot r.1 p + dot (comb fs (dirs m)) p := by
      simp only [dirs, List.map_cons, comb, dot]; grind
    rw [e, totL]
    dsimp only
    rw [Int.add_mul, Int.add_mul]
    omega
/-- Whatever contradicts is agreed to by no point. -/
theorem T_no {m : List Rd} {f : List Int} (h : T m = some f) {p : V3} {q : Int} (hq : 0 < q) : ¬ agQ m p q := fun ha => by
  obtain ⟨hr, hp, _⟩ := T_some h
  have ht := tot_dot (f := f) hq ha
  rw [hr.zero] at ht
  have e : dot z3 p = 0 := by simp [dot]
  rw [e] at ht
  unfold apart at hp
  simp only [Bool.not_eq_true', decide_eq_false_iff_not] at hp
  refine hp ⟨?_, ?_⟩
  · exact Classical.byContradiction fun hh => by
      have := Int.mul_pos (show 0 < (totL m f).1 by omega) hq
      omega
  · exact Classical.byContradiction fun hh => by
      have := Int.mul_neg_of_neg_of_pos (show (totL m f).2 < 0 by omega) hq
      omega
/-! ### lists of places -/
theorem comb_map (f : Nat → Int) (d : Nat → V3) : ∀ s : List Nat, comb (s.map f) (s.map d) = ((s.map fun i => f i * (d i).1).sum, (s.map fun i => f i * (d i).2.1).sum, (s.map fun i => f i * (d i).2.2).sum)
  | [] => rfl
  | i :: s => by rw [List.map_cons, List.map_cons, comb, comb_map f d s]; simp only [List.map_cons, List.sum_cons]
theorem tot_map (f : Nat → Int) (d : Nat → Rd) : ∀ s : List Nat, totL (s.map d) (s.map f) = ((s.map fun i => mn (d i) (f i)).sum, (s.map fun i => mx (d i) (f i)).sum)
  | [] => rfl
  | i :: s => by rw [List.map_cons, List.map_cons, totL, tot_map f d s]; simp only [List.map_cons, List.sum_cons]
theorem sum_range (F : Nat → Int) : ∀ n, ((List.range n).map F).sum = sR F n
  | 0 => rfl
  | n + 1 => by rw [List.range_succ, List.map_append, List.sum_append, sum_range F n, sR]; simp
theorem sum_filter (F : Nat → Int) (p : Nat → Bool) : ∀ s : List Nat, (∀ i ∈ s, p i = false → F i = 0) → ((s.filter p).map F).sum = (s.map F).sum
  | [], _ => rfl
  | i :: s, h => by
    have ih := sum_filter F p s fun k hk => h k (.tail _ hk)
    rw [List.filter_cons]
    cases hp : p i with
    | true => simp only [if_true, List.map_cons, List.sum_cons, ih]
    | false =>
      have := h i (.head _) hp
      simp only [Bool.false_eq_true, if_false, List.map_cons, List.sum_cons, ih, this, Int.zero_add]
/-- A list as the values at places. -/
theorem as_places : ∀ (s : List Nat) (g : List Int), s.Nodup → g.length = s.length → ∃ f : Nat → Int, s.map f = g ∧ ∀ i, i ∉ s → f i = 0
  | [], g, _, h => ⟨fun _ => 0, by rw [List.length_eq_zero_iff.1 h]; rfl, fun _ _ => rfl⟩
  | i :: s, [], _, h => by simp at h
  | i :: s, x :: g, hn, h => by
    have hn' := List.nodup_cons.1 hn
    obtain ⟨f, h1, h2⟩ := as_places s g hn'.2 (by simpa using h)
    refine ⟨fun k => if k = i then x else f k, ?_, fun k hk => ?_⟩
    · rw [List.map_cons, if_pos rfl, ← h1]
      congr 1
      exact List.map_congr_left fun k hk => if_neg fun e => by subst e; exact hn'.1 hk
    · show (if k = i then x else f k) = 0
      rw [if_neg fun e => hk (by rw [e]; exact .head _)]
      exact h2 k fun hh => hk (.tail _ hh)
theorem prp_map {f g : Nat → Int} {s : List Nat} (h : ∀ i ∈ s, ∀ j ∈ s, f i * g j = f j * g i) : Prp (s.map f) (s.map g) := fun i j => by
  have e : ∀ (k : Nat → Int) i, (s.map k).getD i 0 = if h : i < s.length then k s[i] else 0 := fun k i => by
    rw [List.getD_eq_getElem?_getD, List.getElem?_map]
    by_cases hi : i < s.length
    · rw [dif_pos hi, List.getElem?_eq_getElem hi]; rfl
    · rw [dif_neg hi, List.getElem?_eq_none (by omega)]; rfl
  rw [e, e, e, e]
  by_cases hi : i < s.length
  · by_cases hj : j < s.length
    · rw [dif_pos hi, dif_pos hj, dif_pos hj, dif_pos hi]
      exact h _ (List.getElem_mem _) _ (List.getElem_mem _)
    · rw [dif_neg hj, dif_neg hj]; simp
  · rw [dif_neg hi, dif_neg hi]; simp
/-- Four vectors always have a relation. -/
theorem four_rel {a b c d : V3} (ha : a ≠ z3) (hb : b ≠ z3) : ∃ g : List Int, g.length = 4 ∧ comb g [a, b, c, d] = z3 ∧ gcdL g ≠ 0 := by
  by_cases h : gcdL (raw4 a b c d) = 0
  · obtain ⟨d1, d2, d3, d4⟩ := gcd4.1 h
    have d4 : det a b c = 0 := by omega
    by_cases ab : cross a b = z3
    · obtain ⟨p, q, hp, hq, p1, p2, p3⟩ := par_rel ha hb ab
      exact ⟨[p, q, 0, 0], rfl, (comb4 _ _ _ _ _ _ _ _).2 ⟨by omega, by omega, by omega⟩, fun hh => hp (gcd4.1 hh).1⟩
    · obtain ⟨s, t, u, hu, s1, s2, s3⟩ := flat_rel d4 ab
      exact ⟨[s, t, u, 0], rfl, (comb4 _ _ _ _ _ _ _ _).2 ⟨by omega, by omega, by omega⟩, fun hh => hu (gcd4.1 hh).2.2.1⟩
  · exact ⟨raw4 a b c d, rfl, (raw4_ok a b c d).zero, h⟩
theorem sgL_mul_tot {s : Int} : ∀ {m : List Rd} {f : List Int}, totL m (f.map (s * ·)) = if 0 ≤ s then (s * (totL m f).1, s * (totL m f).2) else (s * (totL m f).2, s * (totL m f).1)
  | [], f => by cases f <;> simp [totL]
  | r :: m, [] => by simp [totL]
  | r :: m, f :: fs => by
    have ih := sgL_mul_tot (s := s) (m := m) (f := fs)
    rw [List.map_cons, totL, ih, totL]
    have e1 : s * f * r.2.1 = s * (f * r.2.1) := by grind
    have e2 : s * f * r.2.2 = s * (f * r.2.2) := by grind
    by_cases hs : 0 ≤ s
    · rw [if_pos hs, if_pos hs]
      have k1 : mn r (s * f) = s * mn r f := by
        unfold mn; rw [e1, e2]
        rcases Int.le_total (f * r.2.1) (f * r.2.2) with h | h
        · have := Int.mul_le_mul_of_nonneg_left h hs
          rw [Int.min_eq_left h, Int.min_eq_left this]
        · have := Int.mul_le_mul_of_nonneg_left h hs
          rw [Int.min_eq_right h, Int.min_eq_right this]
      rw [k1, mx_mul hs]
      simp only [Prod.mk.injEq]
      exact ⟨by grind, by grind⟩
    · rw [if_neg hs, if_neg hs]
      have k1 : mn r (s * f) = s * mx r f ∧ mx r (s * f) = s * mn r f := by
        unfold mn mx; rw [e1, e2]
        rcases Int.le_total (f * r.2.1) (f * r.2.2) with h | h
        · have := Int.mul_le_mul_of_nonpos_left (show s ≤ 0 by omega) h
          rw [Int.min_eq_right this, Int.max_eq_right h, Int.max_eq_left this, Int.min_eq_left h]; exact ⟨rfl, rfl⟩
        · have := Int.mul_le_mul_of_nonpos_left (show s ≤ 0 by omega) h
          rw [Int.min_eq_left this, Int.max_eq_left h, Int.max_eq_right this, Int.min_eq_right h]; exact ⟨rfl, rfl⟩
      rw [k1.1, k1.2]
      simp only [Prod.mk.injEq]
      exact ⟨by grind, by grind⟩
def pick3 (l : List Rd) (s : List Nat) : List Rd := s.map fun i => l.getD i rd0
/-- Ascending places of a list. -/
def Asc3 (n : Nat) (s : List Nat) : Prop := s.Pairwise (· < ·) ∧ ∀ i ∈ s, i < n
/-- Where no point agrees a few readings contradict. -/
theorem T_found {l : List Rd} (hl : ∀ r ∈ l, r.2.1 ≤ r.2.2) (hd : ∀ r ∈ l, r.1 ≠ z3) (hno : ¬ ∃ p q, 0 < q ∧ agQ l p q) : ∃ s f, Asc3 l.length s ∧ 2 ≤ s.length ∧ s.length ≤ 4 ∧ T (pick3 l s) = some f := by
  obtain ⟨f0, hf0⟩ := (farkas hl).resolve_left hno
  obtain ⟨f, hf, hm⟩ := min_cert hf0
  have one := fun g => min_one hl hf hm (g := g)
  obtain ⟨s, es⟩ : ∃ s, s = (List.range l.length).filter fun i => decide (f i ≠ 0) := ⟨_, rfl⟩
  have hs : ∀ i, i ∈ s ↔ i < l.length ∧ f i ≠ 0 := fun i => by rw [es, List.mem_filter, List.mem_range]; simp
  have hasc : s.Pairwise (· < ·) := by rw [es]; exact List.Pairwise.filter _ List.pairwise_lt_range
  have hnd : s.Nodup := List.Pairwise.imp (fun h => by omega) hasc
  have sums : ∀ F : Nat → Int, (∀ i, i < l.length → f i = 0 → F i = 0) → (s.map F).sum = sR F l.length := fun F h => by
    rw [← sum_range, es]
    exact sum_filter F _ _ fun i hi hp => h i (List.mem_range.1 hi) (by simpa using hp)
  have ed : dirs (pick3 l s) = s.map fun i => (l.getD i rd0).1 := by unfold dirs pick3; rw [List.map_map]; rfl
  have cz : ∀ g : Nat → Int, (∀ i, i < l.length → f i = 0 → g i = 0) → comb (s.map g) (dirs (pick3 l s)) = cmb l g := fun g h => by
    rw [ed, comb_map, sums, sums, sums]
    · rfl
    · exact fun i hi e => by rw [h i hi e, Int.zero_mul]
    · exact fun i hi e => by rw [h i hi e, Int.zero_mul]
    · exact fun i hi e => by rw [h i hi e, Int.zero_mul]
  have ht : (totL (pick3 l s) (s.map f)).2 < 0 := by
    unfold pick3
    rw [tot_map]
    show (s.map fun i => mx (l.getD i rd0) (f i)).sum < 0
    rw [sums _ fun i hi e => by rw [e]; simp [mx]]
    exact hf.neg
  have huniq : ∀ g : List Int, g.length = (dirs (pick3 l s)).length → comb g (dirs (pick3 l s)) = z3 → Prp (s.map f) g := fun g hg hz => by
    obtain ⟨k, rfl, hk⟩ := as_places s g hnd (by rw [hg, ed, List.length_map])
    have hk' : ∀ i, i < l.length → f i = 0 → k i = 0 := fun i hi e => hk i fun hh => ((hs i).1 hh).2 e
    rw [cz k hk'] at hz
    exact prp_map fun i hi j hj => one k hz hk' i j ((hs i).1 hi).1 ((hs j).1 hj).1
  have hlen : (dirs (pick3 l s)).length = s.length := by rw [ed, List.length_map]
  have hvn : ∀ v ∈ dirs (pick3 l s), v ≠ z3 := fun v hv => by
    rw [ed] at hv
    obtain ⟨i, hi, rfl⟩ := List.mem_map.1 hv
    exact hd _ (getD_mem ((hs i).1 hi).1)
  have hfn : ∀ x ∈ s.map f, x ≠ 0 := fun x hx => by
    obtain ⟨i, hi, rfl⟩ := List.mem_map.1 hx
    exact ((hs i).1 hi).2
  have hzero : comb (s.map f) (dirs (pick3 l s)) = z3 := by rw [cz f fun i _ e => e]; exact hf.zero
  have h0 : s ≠ [] := fun e => by
    rw [e] at ht
    exact absurd (show (0 : Int) < 0 from ht) (by decide)
  have h2 : 2 ≤ s.length := by
    match hsl : s, h0 with
    | [i], _ =>
      exfalso
      have hzero : comb [f i] [(l.getD i rd0).1] = z3 := hzero
      simp only [comb, Prod.mk.injEq, Int.add_zero] at hzero
      have h1 := smul_z (hvn _ (by simp [dirs, pick3])) hzero.1 hzero.2.1 hzero.2.2
      exact hfn _ (by simp) h1
    | i :: j :: r, _ => simp
  have h4 : s.length ≤ 4 := by
    refine Classical.byContradiction fun hh => ?_
    match hsl : s, (show 5 ≤ s.length by omega) with
    | a :: b :: c :: d :: e :: r, _ =>
      have hda := hvn (l.getD a rd0).1 (by simp [dirs, pick3])
      have hdb := hvn (l.getD b rd0).1 (by simp [dirs, pick3])
      obtain ⟨g, hg, hz, hne⟩ := four_rel (c := (l.getD c rd0).1) (d := (l.getD d rd0).1) hda hdb
      obtain ⟨x, y, z, w, rfl⟩ := len4 hg
      have hp := huniq (x :: y :: z :: w :: 0 :: r.map fun _ => 0) (by simp [dirs, pick3]) (by
        have zr : ∀ t : List Nat, comb (t.map fun _ => (0 : Int)) (t.map fun i => (l.getD i rd0).1) = z3 := fun t => by
          rw [comb_map]
          have : ∀ F : Nat → Int, (t.map fun i => 0 * F i).sum = 0 := fun F => by
            induction t with
            | nil => rfl
            | cons i t ih => rw [List.map_cons, List.sum_cons, ih]; omega
          rw [this, this, this]
        have e1 : dirs (pick3 l (a :: b :: c :: d :: e :: r)) = (l.getD a rd0).1 :: (l.getD b rd0).1 :: (l.getD c rd0).1 :: (l.getD d rd0).1 :: (l.getD e rd0).1 :: r.map fun i => (l.getD i rd0).1 := by
          simp [dirs, pick3]
        rw [e1]
        obtain ⟨k1, k2, k3⟩ := (comb4 _ _ _ _ _ _ _ _).1 hz
        simp only [comb, zr r, Prod.mk.injEq]
        exact ⟨by omega, by omega, by omega⟩)
      have fe := hfn (f e) (by simp)
      have q : ∀ {n : Nat} {v : Int}, (x :: y :: z :: w :: 0 :: r.map fun _ => (0 : Int)).getD n 0 = v → f e * v = 0 := fun {n v} hv => by
        have := hp 4 n
        rw [hv] at this
        simpa using this
      have q' : ∀ {n : Nat} {v : Int}, (x :: y :: z :: w :: 0 :: r.map fun _ => (0 : Int)).getD n 0 = v → v = 0 := fun hv => (Int.mul_eq_zero.1 (q hv)).resolve_left fe
      exact hne (gcd4.2 ⟨q' (n := 0) rfl, q' (n := 1) rfl, q' (n := 2) rfl, q' (n := 3) rfl⟩)
  have hg : gcdL (s.map f) ≠ 0 := fun hh => by
    obtain ⟨i, r, e⟩ := List.exists_cons_of_ne_nil h0
    exact hfn (f i) (by rw [e]; simp) (gcdL_zero.1 hh _ (by rw [e]; simp))
  have hrel := isRel_nrm (l := dirs (pick3 l s)) (by rw [hlen, List.length_map]) hzero hg huniq
  refine ⟨s, nrm (s.map f), ⟨hasc, fun i hi => ((hs i).1 hi).1⟩, h2, h4, T_of ⟨by omega, by omega, hvn⟩ hrel ?_⟩
  have e := sgL_mul_tot (s := sgL (s.map f)) (m := pick3 l s) (f := nrm (s.map f))
  rw [nrm_mul] at e
  unfold apart
  simp only [Bool.not_eq_true', decide_eq_false_iff_not]
  rintro ⟨k1, k2⟩
  by_cases hsg : 0 ≤ sgL (s.map f)
  · rw [if_pos hsg] at e
    rw [e] at ht
    have := Int.mul_nonneg hsg k2
    dsimp only at ht
    omega
  · rw [if_neg hsg] at e
    rw [e] at ht
    have := Int.mul_nonneg_of_nonpos_of_nonpos (show sgL (s.map f) ≤ 0 by omega) k1
    dsimp only at ht
    omega
end Go.Pi
end
