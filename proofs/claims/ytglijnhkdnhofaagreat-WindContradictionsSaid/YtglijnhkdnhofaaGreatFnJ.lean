/- What functions of the program compute, each proved once, part 10. -/
import Derived.Test.YtglijnhkdnhofaaGreatFnI
import Derived.Test.YtglijnhkdnhofaaGreatFnC

section
namespace Go.Pi
set_option linter.unusedVariables false
def fle (a b : Int × Int) : Prop := a.1 * b.2 ≤ b.1 * a.2
theorem pick_ends {t : Int → Bool} {R : Int × Int → Int × Int → Prop} (rf : ∀ a, R a a) (tr : ∀ {a b c : Int × Int}, 0 < a.2 → 0 < b.2 → 0 < c.2 → R a b → R b c → R a c)
    (ht : ∀ {x m : Int × Int}, 0 < x.2 → 0 < m.2 → t (less2 x m) = true → R x m) (hf : ∀ {x m : Int × Int}, 0 < x.2 → 0 < m.2 → t (less2 x m) = false → R m x) :
    ∀ (r : List (Int × Int)) (m : Int × Int), 0 < m.2 → (∀ x ∈ r, 0 < x.2) → r.foldl (pickF t) m ∈ m :: r ∧ ∀ y ∈ m :: r, R (r.foldl (pickF t) m) y
  | [], m, hm, _ => ⟨.head _, fun y hy => by simp at hy; subst hy; exact rf _⟩
  | x :: r, m, hm, hr => by
    rw [List.foldl_cons]
    have hx := hr x (.head _)
    have hr' : ∀ y ∈ r, 0 < y.2 := fun y hy => hr y (.tail _ hy)
    cases h : t (less2 x m) with
    | true =>
      have e : pickF t m x = x := by unfold pickF; rw [if_pos h]
      rw [e]
      obtain ⟨h1, h2⟩ := pick_ends rf tr ht hf r x hx hr'
      refine ⟨.tail _ h1, fun y hy => ?_⟩
      rcases List.mem_cons.1 hy with rfl | hy
      · have hp : 0 < (r.foldl (pickF t) x).2 := by
          rcases List.mem_cons.1 h1 with e | e
          · rw [e]; exact hx
          · exact hr' _ e
        exact tr hp hx hm (h2 x (.head _)) (ht hx hm h)
      · exact h2 y hy
    | false =>
      have e : pickF t m x = m := by unfold pickF; rw [if_neg (by rw [h]; decide)]
      rw [e]
      obtain ⟨h1, h2⟩ := pick_ends rf tr ht hf r m hm hr'
      have hp : 0 < (r.foldl (pickF t) m).2 := by
        rcases List.mem_cons.1 h1 with e | e
        · rw [e]; exact hm
        · exact hr' _ e
      refine ⟨?_, fun y hy => ?_⟩
      · rcases List.mem_cons.1 h1 with e | e
        · rw [e]; exact .head _
        · exact .tail _ (.tail _ e)
      · rcases List.mem_cons.1 hy with rfl | hy
        · exact h2 _ (.head _)
        · rcases List.mem_cons.1 hy with rfl | hy
          · exact tr hp hm hx (h2 m (.head _)) (hf hx hm h)
          · exact h2 y (.tail _ hy)
theorem cons_drop {l : List (Int × Int)} (h : 0 < l.length) : l.getD 0 (0, 0) :: l.drop 1 = l := by
  match l, h with
  | x :: r, _ => rfl
theorem fle_trans {a b c : Int × Int} (ha : 0 < a.2) (hb : 0 < b.2) (hc : 0 < c.2) (h1 : fle a b) (h2 : fle b c) : fle a c := q_le ha hb hc h1 h2
theorem minF_is {l : List (Int × Int)} (h0 : 0 < l.length) (h : ∀ x ∈ l, 0 < x.2) : minF l ∈ l ∧ ∀ y ∈ l, fle (minF l) y := by
  have e := cons_drop h0
  have hm : 0 < (l.getD 0 (0, 0)).2 := h _ (getD_mem h0)
  have k := pick_ends (t := fun n => decide (n < 0)) (R := fle) (fun a => Int.le_refl _) fle_trans
    (fun {x m} hx hm ht => by have := of_decide_eq_true ht; unfold less2 at this; unfold fle; omega)
    (fun {x m} hx hm ht => by have := of_decide_eq_false ht; unfold less2 at this; unfold fle; omega)
    (l.drop 1) (l.getD 0 (0, 0)) hm (fun x hx => h x (List.mem_of_mem_drop hx))
  rw [e] at k
  exact k
theorem maxF_is {l : List (Int × Int)} (h0 : 0 < l.length) (h : ∀ x ∈ l, 0 < x.2) : maxF l ∈ l ∧ ∀ y ∈ l, fle y (maxF l) := by
  have e := cons_drop h0
  have hm : 0 < (l.getD 0 (0, 0)).2 := h _ (getD_mem h0)
  have k := pick_ends (t := fun n => decide (n > 0)) (R := fun a b => fle b a) (fun a => Int.le_refl _) (fun ha hb hc h1 h2 => fle_trans hc hb ha h2 h1)
    (fun {x m} hx hm ht => by have := of_decide_eq_true ht; unfold less2 at this; unfold fle; omega)
    (fun {x m} hx hm ht => by have := of_decide_eq_false ht; unfold less2 at this; unfold fle; omega)
    (l.drop 1) (l.getD 0 (0, 0)) hm (fun x hx => h x (List.mem_of_mem_drop hx))
  rw [e] at k
  exact k
theorem fracs_pos {l : List Rd} (h : RdLe l) (d : V3) : ∀ x ∈ fracs (vtx l) d, 0 < x.2 := fun x hx => by
  obtain ⟨v, hv, rfl⟩ := List.mem_map.1 hx
  exact (low_pos (cands_ok h v (vtx_mem.1 hv)).1.den).1
/-- The fraction of a vertex and that of its product. -/
theorem low_dot {v : WV} (hv : 0 < v.2.2.2) (d : V3) : (low (dot (wpt v) d) v.2.2.2).1 * v.2.2.2 = dot d (wpt v) * (low (dot (wpt v) d) v.2.2.2).2 := by
  rw [low_mul hv, dot_comm]
theorem span_lo {l : List Rd} (h : RdLe l) (h0 : 0 < (vtx l).length) (d : V3) : ∃ v ∈ vtx l, (spanW (vtx l) d).1 = low (dot (wpt v) d) v.2.2.2 ∧ ∀ w ∈ vtx l, (spanW (vtx l) d).1.1 * w.2.2.2 ≤ dot d (wpt w) * (spanW (vtx l) d).1.2 := by
  have hl : 0 < (fracs (vtx l) d).length := by simp [fracs]; exact h0
  obtain ⟨h1, h2⟩ := minF_is hl (fracs_pos h d)
  have hpos := fracs_pos h d _ h1
  obtain ⟨v, hv, e⟩ := List.mem_map.1 h1
  refine ⟨v, hv, e.symm, fun w hw => ?_⟩
  have hwd := (cands_ok h w (vtx_mem.1 hw)).1.den
  have k := h2 _ (List.mem_map.2 ⟨w, hw, rfl⟩)
  have kp := (low_pos (n := dot (wpt w) d) hwd).1
  exact q_le (b := (low (dot (wpt w) d) w.2.2.2).1) hpos kp hwd k (by rw [low_dot hwd]; exact Int.le_refl _)
theorem span_hi {l : List Rd} (h : RdLe l) (h0 : 0 < (vtx l).length) (d : V3) : ∃ v ∈ vtx l, (spanW (vtx l) d).2 = low (dot (wpt v) d) v.2.2.2 ∧ ∀ w ∈ vtx l, dot d (wpt w) * (spanW (vtx l) d).2.2 ≤ (spanW (vtx l) d).2.1 * w.2.2.2 := by
  have hl : 0 < (fracs (vtx l) d).length := by simp [fracs]; exact h0
  obtain ⟨h1, h2⟩ := maxF_is hl (fracs_pos h d)
  have hpos := fracs_pos h d _ h1
  obtain ⟨v, hv, e⟩ := List.mem_map.1 h1
  refine ⟨v, hv, e.symm, fun w hw => ?_⟩
  have hwd := (cands_ok h w (vtx_mem.1 hw)).1.den
  have k := h2 _ (List.mem_map.2 ⟨w, hw, rfl⟩)
  have kp := (low_pos (n := dot (wpt w) d) hwd).1
  exact q_le (b := (low (dot (wpt w) d) w.2.2.2).1) hwd kp hpos (by rw [low_dot hwd]; exact Int.le_refl _) k
/-- Whatever agrees lies in the range of a direction. -/
theorem span_le {l : List Rd} (h : RdOK l) (h3 : (rkOwn (l.map (·.1))).length = 3) {p : V3} {q : Int} (hq : 0 < q) (ha : agQ l p q) (d : V3) :
    0 < (vtx l).length ∧ (spanW (vtx l) d).1.1 * q ≤ dot d p * (spanW (vtx l) d).1.2 ∧ dot d p * (spanW (vtx l) d).2.2 ≤ (spanW (vtx l) d).2.1 * q := by
  obtain ⟨v, hv, hle⟩ := lp h h3 hq ha d
  obtain ⟨w, hw, hge⟩ := lp h h3 hq ha (neg3 d)
  have h0 : 0 < (vtx l).length := List.length_pos_of_mem hv
  have e : ∀ x : V3, dot (neg3 d) x = -dot d x := fun x => by rw [dot_comm, dot_neg3, dot_comm]
  rw [e, e] at hge
  have hge' : dot d p * w.2.2.2 ≤ dot d (wpt w) * q := by
    have h1 : -dot d (wpt w) * q = -(dot d (wpt w) * q) := by grind
    have h2 : -dot d p * w.2.2.2 = -(dot d p * w.2.2.2) := by grind
    omega
  have hvd := (cands_ok h.rdLe v (vtx_mem.1 hv)).1.den
  have hwd := (cands_ok h.rdLe w (vtx_mem.1 hw)).1.den
  obtain ⟨a, ma, ea, la⟩ := span_lo h.rdLe h0 d
  obtain ⟨b, mb, eb, lb⟩ := span_hi h.rdLe h0 d
  have pa : 0 < (spanW (vtx l) d).1.2 := by rw [ea]; exact (low_pos (cands_ok h.rdLe a (vtx_mem.1 ma)).1.den).1
  have pb : 0 < (spanW (vtx l) d).2.2 := by rw [eb]; exact (low_pos (cands_ok h.rdLe b (vtx_mem.1 mb)).1.den).1
  exact ⟨h0, q_le pa hvd hq (la v hv) hle, q_le hq hwd pb hge' (lb w hw)⟩
theorem agR_ok {l : List Rd} (h : RdLe l) {v : WV} (hv : V3.le (wpt v) 1000000000000) (h0 : 0 < v.2.2.2) (h9 : v.2.2.2 ≤ 1000000000) : l.all (agR · v) = true ↔ agQ l (wpt v) v.2.2.2 := by
  rw [List.all_eq_true]
  exact ⟨fun k r hr => (agR_iff (h.dir r hr) (h.rng r hr) hv h0 h9).1 (k r hr), fun k r hr => (agR_iff (h.dir r hr) (h.rng r hr) hv h0 h9).2 (k r hr)⟩
/-- What is so of a vertex. -/
structure Vtx (l : List Rd) (v : WV) : Prop where
  den : 0 < v.2.2.2
  le : v.2.2.2 ≤ 4374
  pt : V3.le (wpt v) 4860000
  low : gcdL [v.2.2.2, v.1, v.2.1, v.2.2.1] = 1
  all : l.all (agR · v) = true
  ag : agQ l (wpt v) v.2.2.2
theorem vtx_is {l : List Rd} (h : RdLe l) {v : WV} (hv : v ∈ vtx l) : Vtx l v := by
  have hc := vtx_mem.1 hv
  obtain ⟨⟨w1, w2⟩, w3, w4⟩ := cands_ok h v hc
  obtain ⟨a, b, c, e, _, _, _, _, _, _, hg⟩ := cands_mem.1 hc
  have w5 : V3.le (wpt v) 1000000000000 := by
    obtain ⟨p1, p2, p3⟩ := w4
    exact ⟨by omega, by omega, by omega⟩
  exact ⟨w1, w3, w4, w2, hg, (agR_ok h w5 w1 (by omega)).1 hg⟩
theorem agQ_sub {l l' : List Rd} (h : ∀ r ∈ l', r ∈ l) {p : V3} {q : Int} (ha : agQ l p q) : agQ l' p q := fun r hr => ha r (h r hr)
/-- Fewer readings: no smaller range. -/
theorem span_fewer {l l' : List Rd} (h : RdOK l) (h0 : 0 < (vtx l).length) (h' : RdOK l') (h3 : (rkOwn (l'.map (·.1))).length = 3) (hs : ∀ r ∈ l', r ∈ l) (d : V3) :
    (spanW (vtx l') d).1.1 * (spanW (vtx l) d).1.2 ≤ (spanW (vtx l) d).1.1 * (spanW (vtx l') d).1.2 ∧ (spanW (vtx l) d).2.1 * (spanW (vtx l') d).2.2 ≤ (spanW (vtx l') d).2.1 * (spanW (vtx l) d).2.2 := by
  obtain ⟨a, ma, ea, la⟩ := span_lo h.rdLe h0 d
  obtain ⟨b, mb, eb, lb⟩ := span_hi h.rdLe h0 d
  have va := vtx_is h.rdLe ma
  have vb := vtx_is h.rdLe mb
  obtain ⟨h0', k1, _⟩ := span_le h' h3 va.den (agQ_sub hs va.ag) d
  obtain ⟨_, _, k2⟩ := span_le h' h3 vb.den (agQ_sub hs vb.ag) d
  obtain ⟨x, mx, ex, _⟩ := span_lo h'.rdLe h0' d
  obtain ⟨y, my, ey, _⟩ := span_hi h'.rdLe h0' d
  have px : 0 < (spanW (vtx l') d).1.2 := by rw [ex]; exact (low_pos (vtx_is h'.rdLe mx).den).1
  have py : 0 < (spanW (vtx l') d).2.2 := by rw [ey]; exact (low_pos (vtx_is h'.rdLe my).den).1
  have pa : 0 < (spanW (vtx l) d).1.2 := by rw [ea]; exact (low_pos va.den).1
  have pb : 0 < (spanW (vtx l) d).2.2 := by rw [eb]; exact (low_pos vb.den).1
  refine ⟨q_le px va.den pa k1 ?_, q_le pb vb.den py ?_ k2⟩
  · have := low_dot va.den d
    rw [ea, ← this]; exact Int.le_refl _
  · have := low_dot vb.den d
    rw [eb, this]; exact Int.le_refl _
/-- Rounded outwards. -/
theorem floor_out {n d m k : Int} (hd : 0 < d) (hk : 0 < k) (h : n * k ≤ m * d) : n / d * k ≤ m := by
  have h1 : n / d * d ≤ n := Int.ediv_mul_le _ (by omega)
  refine Int.le_of_mul_le_mul_right (a := d) ?_ hd
  have h2 : n / d * d * k ≤ n * k := Int.mul_le_mul_of_nonneg_right h1 (by omega)
  have e : n / d * k * d = n / d * d * k := by grind
  omega
theorem ceil_out {n d m k : Int} (hd : 0 < d) (hk : 0 < k) (h : m * d ≤ n * k) : m ≤ -(-n / d) * k := by
  have := floor_out (n := -n) (m := -m) hd hk (by
    have e1 : -n * k = -(n * k) := by grind
    have e2 : -m * d = -(m * d) := by grind
    omega)
  have e : -(-n / d) * k = -(-n / d * k) := by grind
  omega
theorem rdOf_all {l : List Rd} (h : (rdOf l).2 = 0) : ∀ r ∈ l, rdE r = 0 := by
  unfold rdOf at h
  split at h
  · simp at h
  · split at h
    · simp at h
    · intro r hr
      obtain ⟨i, hi, e⟩ := List.getElem_of_mem hr
      have := eachE_zero h i hi
      rwa [getD_lt hi, e] at this
theorem rdOf_none {l : List Rd} (h0 : 0 < l.length) (h6 : l.length ≤ 6) (h : ∀ r ∈ l, rdE r = 0) : rdOf l = (0, 0) := by
  unfold rdOf
  rw [if_neg (by omega), if_neg (by omega)]
  exact eachE_none fun i hi => h _ (getD_mem hi)
theorem windE_of {v : WV} (h1 : 1 ≤ v.2.2.2 ∧ v.2.2.2 ≤ 1000000000) (h2 : V3.le (wpt v) 1000000000000) (h3 : gcdL [v.2.2.2, v.1, v.2.1, v.2.2.1] = 1) : windE v = 0 := by
  unfold windE
  rw [if_neg (fun hh => hh ⟨h1, h2⟩), if_pos h3]
theorem Vtx.big {l : List Rd} {v : WV} (h : Vtx l v) : V3.le (wpt v) 1000000000000 := by
  obtain ⟨p1, p2, p3⟩ := h.pt
  exact ⟨by omega, by omega, by omega⟩
theorem Vtx.windE {l : List Rd} {v : WV} (h : Vtx l v) : windE v = 0 := windE_of ⟨h.den, by have := h.le; omega⟩ h.big h.low
theorem sgn_pos {n : Int} : sgn n > 0 ↔ n > 0 := by
  unfold sgn
  split
  · omega
  · split <;> omega
theorem sgn_nonneg {n : Int} : sgn n ≥ 0 ↔ n ≥ 0 := by
  unfold sgn
  split
  · omega
  · split <;> omega
theorem sgn_nonpos {n : Int} : sgn n ≤ 0 ↔ n ≤ 0 := by
  unfold sgn
  split
  · omega
  · split <;> omega
theorem rangeW_is {l : List Rd} {d : V3} (h1 : (rdOf l).2 = 0) (h2 : dirE d = 0) (h3 : (rkOwn (l.map (·.1))).length = 3) : rangeW l d = if (vtx l).length = 0 then (no4, 12) else (spanW (vtx l) d, 0) := by
  unfold rangeW
  rw [if_neg (fun hh => hh h1), if_neg (fun hh => hh h2), if_neg (fun hh => hh h3)]
theorem headW_is {l : List Rd} {d : V3} (h1 : (rdOf l).2 = 0) (h2 : dirE d = 0) (h3 : (rkOwn (l.map (·.1))).length = 3) (h4 : 0 < (vtx l).length) : headW l d = (((spanW (vtx l) d).1.1 / (spanW (vtx l) d).1.2, -(-(spanW (vtx l) d).2.1 / (spanW (vtx l) d).2.2)), 0) := by
  have e : rangeW l d = (spanW (vtx l) d, 0) := by rw [rangeW_is h1 h2 h3, if_neg (by omega)]
  unfold headW
  rw [e]
  exact if_neg (fun hh => hh rfl)
/-- The ends of a box. -/
theorem box_le {l : List Rd} (h : RdOK l) (h3 : (rkOwn (l.map (·.1))).length = 3) {p : V3} {q : Int} (hq : 0 < q) (ha : agQ l p q) (d : V3) :
    (spanW (vtx l) d).1.1 / (spanW (vtx l) d).1.2 * q ≤ dot d p ∧ dot d p ≤ -(-(spanW (vtx l) d).2.1 / (spanW (vtx l) d).2.2) * q := by
  obtain ⟨h0, k1, k2⟩ := span_le h h3 hq ha d
  obtain ⟨a, ma, ea, la⟩ := span_lo h.rdLe h0 d
  obtain ⟨b, mb, eb, lb⟩ := span_hi h.rdLe h0 d
  have pa : 0 < (spanW (vtx l) d).1.2 := by rw [ea]; exact (low_pos (vtx_is h.rdLe ma).den).1
  have pb : 0 < (spanW (vtx l) d).2.2 := by rw [eb]; exact (low_pos (vtx_is h.rdLe mb).den).1
  exact ⟨floor_out pa hq k1, ceil_out pb hq k2⟩
theorem take_sub {l : List Rd} {n : Nat} : ∀ r ∈ (l.take n).drop 0, r ∈ l := fun r hr => List.mem_of_mem_take (by simpa using hr)
end Go.Pi
end

section
namespace Go.Pi
set_option linter.unusedVariables false
/-! ### without a common divisor -/
def fstN (l : List Int) : Int := match l.find? (· != 0) with
  | some n => n
  | none => 0
def sgL (l : List Int) : Int := if fstN l < 0 then -(gcdL l : Int) else (gcdL l : Int)
def nrm (l : List Int) : List Int := l.map fun n => n.tdiv (sgL l)
theorem gcdL_cons (a : Int) (l : List Int) : gcdL (a :: l) = Nat.gcd a.natAbs (gcdL l) := by
  have key : ∀ (l : List Int) (g : Nat), l.foldl (fun g n => Nat.gcd g n.natAbs) g = Nat.gcd g (gcdL l) := by
    intro l
    induction l with
    | nil => intro g; simp [gcdL]
    | cons b r ih =>
      intro g
      unfold gcdL
      rw [List.foldl_cons, List.foldl_cons, ih, ih, Nat.gcd_zero_left, Nat.gcd_assoc]
  unfold gcdL
  rw [List.foldl_cons, key, Nat.gcd_zero_left]
  rfl
theorem gcdL_nil : gcdL [] = 0 := rfl
theorem gcdL_dvd : ∀ {l : List Int} {n : Int}, n ∈ l → (gcdL l : Int) ∣ n
  | a :: l, n, h => by
    rw [gcdL_cons]
    rcases List.mem_cons.1 h with rfl | h
    · rw [← Int.natAbs_dvd_natAbs, Int.natAbs_natCast]; exact Nat.gcd_dvd_left _ _
    · exact Int.dvd_trans (Int.natCast_dvd_natCast.2 (Nat.gcd_dvd_right _ _)) (gcdL_dvd h)
theorem dvd_gcdL {d : Nat} : ∀ {l : List Int}, (∀ n ∈ l, d ∣ n.natAbs) → d ∣ gcdL l
  | [], _ => by rw [gcdL_nil]; exact Nat.dvd_zero d
  | a :: l, h => by
    rw [gcdL_cons]
    exact Nat.dvd_gcd (h a (.head _)) (dvd_gcdL fun n hn => h n (.tail _ hn))
theorem dvd_gcdL_mul {d m : Nat} : ∀ {l : List Int}, (∀ n ∈ l, d ∣ n.natAbs * m) → d ∣ gcdL l * m
  | [], _ => by rw [gcdL_nil, Nat.zero_mul]; exact Nat.dvd_zero d
  | a :: l, h => by
    rw [gcdL_cons, ← Nat.gcd_mul_right]
    exact Nat.dvd_gcd (h a (.head _)) (dvd_gcdL_mul fun n hn => h n (.tail _ hn))
theorem gcdL_zero {l : List Int} : gcdL l = 0 ↔ ∀ n ∈ l, n = 0 := by
  constructor
  · intro h n hn
    have := gcdL_dvd hn
    rw [h] at this
    exact Int.zero_dvd.1 this
  · intro h
    induction l with
    | nil => rfl
    | cons a l ih => rw [gcdL_cons, ih fun n hn => h n (.tail _ hn), h a (.head _)]; rfl
theorem sgL_abs (l : List Int) : (sgL l).natAbs = gcdL l := by unfold sgL; split <;> omega
theorem fstN_zero {l : List Int} (h : fstN l = 0) : ∀ n ∈ l, n = 0 := by
  unfold fstN at h
  split at h
  · rename_i n hf
    have := List.find?_some hf
    subst h
    simp at this
  · rename_i hf
    intro n hn
    simpa using List.find?_eq_none.1 hf n hn
theorem fstN_mul {l : List Int} {s : Int} (hs : s ≠ 0) : fstN (l.map (s * ·)) = s * fstN l := by
  induction l with
  | nil => simp [fstN]
  | cons a l ih =>
    unfold fstN at ih ⊢
    rw [List.map_cons, List.find?_cons, List.find?_cons]
    by_cases h : a = 0
    · subst h
      simp only [Int.mul_zero, bne_self_eq_false]
      exact ih
    · have h1 : (a != 0) = true := by simpa using h
      have h2 : (s * a != 0) = true := by simpa using ⟨hs, h⟩
      rw [h1, h2]
theorem nrm_mul (l : List Int) : (nrm l).map (sgL l * ·) = l := by
  unfold nrm
  rw [List.map_map]
  conv => rhs; rw [← List.map_id l]
  refine List.map_congr_left fun n hn => ?_
  have hd : sgL l ∣ n := by
    rw [← Int.natAbs_dvd_natAbs, sgL_abs]
    have := Int.natAbs_dvd_natAbs.2 (gcdL_dvd hn)
    rwa [Int.natAbs_natCast] at this
  exact Int.mul_tdiv_cancel' hd
theorem gcdL_mul (s : Int) : ∀ l : List Int, gcdL (l.map (s * ·)) = s.natAbs * gcdL l
  | [] => by simp [gcdL]
  | a :: l => by rw [List.map_cons, gcdL_cons, gcdL_cons, gcdL_mul s l, Int.natAbs_mul, Nat.gcd_mul_left]
theorem nrm_len (l : List Int) : (nrm l).length = l.length := List.length_map _
theorem nrm_ok {l : List Int} (h : gcdL l ≠ 0) : gcdL (nrm l) = 1 ∧ 0 < fstN (nrm l) := by
  have e := nrm_mul l
  have hs : sgL l ≠ 0 := by have := sgL_abs l; omega
  have g := gcdL_mul (sgL l) (nrm l)
  have f := fstN_mul (l := nrm l) hs
  rw [e] at g f
  rw [sgL_abs] at g
  have hf0 : fstN l ≠ 0 := fun hh => h (gcdL_zero.2 (fstN_zero hh))
  constructor
  · have : gcdL l * 1 = gcdL l * gcdL (nrm l) := by rw [Nat.mul_one]; exact g
    exact (Nat.eq_of_mul_eq_mul_left (by omega) this).symm
  · have hc : sgL l = if fstN l < 0 then -(gcdL l : Int) else (gcdL l : Int) := rfl
    generalize fstN (nrm l) = x at f ⊢
    refine Classical.byContradiction fun hx => ?_
    by_cases hn : fstN l < 0
    · rw [if_pos hn] at hc
      have : 0 ≤ sgL l * x := Int.mul_nonneg_of_nonpos_of_nonpos (by omega) (by omega)
      omega
    · rw [if_neg hn] at hc
      have : sgL l * x ≤ 0 := Int.mul_nonpos_of_nonneg_of_nonpos (by omega) (by omega)
      omega

/-! ### proportional lists -/
def Prp (f g : List Int) : Prop := ∀ i j, f.getD i 0 * g.getD j 0 = f.getD j 0 * g.getD i 0
theorem getD_map_mul (s : Int) (l : List Int) (i : Nat) : (l.map (s * ·)).getD i 0 = s * l.getD i 0 := by
  rw [List.getD_eq_getElem?_getD, List.getD_eq_getElem?_getD, List.getElem?_map]
  cases l[i]? <;> simp
theorem Prp.nrm {r g : List Int} (h0 : gcdL r ≠ 0) (h : Prp r g) : Prp (nrm r) g := fun i j => by
  have hs : sgL r ≠ 0 := by have := sgL_abs r; omega
  have := h i j
  rw [← nrm_mul r, getD_map_mul, getD_map_mul] at this
  refine Int.eq_of_mul_eq_mul_left hs ?_
  grind
theorem list_ext0 {f g : List Int} (hl : f.length = g.length) (h : ∀ i, f.getD i 0 = g.getD i 0) : f = g := by
  refine List.ext_getElem hl fun i h1 h2 => ?_
  have := h i
  rwa [getD_lt h1, getD_lt h2] at this
theorem mem_getD0 {l : List Int} {n : Int} (h : n ∈ l) : ∃ i, i < l.length ∧ l.getD i 0 = n := by
  obtain ⟨i, hi, e⟩ := List.getElem_of_mem h
  exact ⟨i, hi, by rw [getD_lt hi, e]⟩
/-- Where the first number other than 0 lies. -/
theorem fstN_at {l : List Int} (h : fstN l ≠ 0) : ∃ i, i < l.length ∧ l.getD i 0 = fstN l ∧ ∀ j, j < i → l.getD j 0 = 0 := by
  induction l with
  | nil => exact absurd rfl h
  | cons a l ih =>
    by_cases ha : a = 0
    · subst ha
      have e : fstN (0 :: l) = fstN l := by unfold fstN; rw [List.find?_cons]; simp
      rw [e] at h ⊢
      obtain ⟨i, hi, h1, h2⟩ := ih h
      refine ⟨i + 1, by simp; omega, by rw [List.getD_cons_succ]; exact h1, fun j hj => ?_⟩
      cases j with
      | zero => rfl
      | succ j => rw [List.getD_cons_succ]; exact h2 j (by omega)
    · have e : fstN (a :: l) = a := by
        unfold fstN
        rw [List.find?_cons]
        have : (a != 0) = true := by simpa using ha
        rw [this]
      rw [e]
      exact ⟨0, by simp, rfl, fun j hj => by omega⟩
/-- Proportional lists without a common divisor, their first number above 0, are the same. -/
theorem Prp.eq {f g : List Int} (hl : f.length = g.length) (hf : gcdL f = 1) (hg : gcdL g = 1) (pf : 0 < fstN f) (pg : 0 < fstN g) (h : Prp f g) : f = g := by
  obtain ⟨i, hi, ei, zi⟩ := fstN_at (l := f) (by omega)
  obtain ⟨k, hk, ek, zk⟩ := fstN_at (l := g) (by omega)
  have fk : f.getD k 0 ≠ 0 := fun hh => by
    have e1 := h i k
    rw [hh, Int.zero_mul, ei, ek] at e1
    rcases Int.mul_eq_zero.1 e1 with e | e <;> omega
  have gi : g.getD i 0 ≠ 0 := fun hh => by
    have e1 := h i k
    rw [hh, Int.mul_zero, ei, ek] at e1
    rcases Int.mul_eq_zero.1 e1 with e | e <;> omega
  have hik : i = k := by
    rcases Nat.lt_trichotomy i k with hh | hh | hh
    · exact absurd (zk i hh) gi
    · exact hh
    · exact absurd (zi k hh) fk
  subst hik
  have d1 : (f.getD i 0).natAbs ∣ (g.getD i 0).natAbs := by
    have := dvd_gcdL_mul (d := (f.getD i 0).natAbs) (m := (g.getD i 0).natAbs) (l := f) fun n hn => by
      obtain ⟨j, hj, e⟩ := mem_getD0 hn
      subst e
      rw [← Int.natAbs_mul, ← h i j, Int.natAbs_mul]
      exact Nat.dvd_mul_right _ _
    rwa [hf, Nat.one_mul] at this
  have d2 : (g.getD i 0).natAbs ∣ (f.getD i 0).natAbs := by
    have := dvd_gcdL_mul (d := (g.getD i 0).natAbs) (m := (f.getD i 0).natAbs) (l := g) fun n hn => by
      obtain ⟨j, hj, e⟩ := mem_getD0 hn
      subst e
      rw [← Int.natAbs_mul, Int.mul_comm, h i j, Int.natAbs_mul]
      exact Nat.dvd_mul_left _ _
    rwa [hg, Nat.one_mul] at this
  have ee : f.getD i 0 = g.getD i 0 := by
    have := Nat.dvd_antisymm d1 d2
    omega
  refine list_ext0 hl fun j => ?_
  have := h i j
  rw [ee] at this
  refine (Int.eq_of_mul_eq_mul_left gi ?_).symm
  rw [this, Int.mul_comm]

/-! ### relations -/
def comb : List Int → List V3 → V3
  | f :: fs, v :: vs => (f * v.1 + (comb fs vs).1, f * v.2.1 + (comb fs vs).2.1, f * v.2.2 + (comb fs vs).2.2)
  | _, _ => (0, 0, 0)
structure IsRel (l : List V3) (f : List Int) : Prop where
  len : f.length = l.length
  zero : comb f l = z3
  gcd : gcdL f = 1
  pos : 0 < fstN f
  one : ∀ g : List Int, g.length = l.length → comb g l = z3 → Prp f g
theorem IsRel.eq {l : List V3} {f g : List Int} (hf : IsRel l f) (hg : IsRel l g) : f = g := (hf.one g hg.len hg.zero).eq (hf.len.trans hg.len.symm) hf.gcd hg.gcd hf.pos hg.pos
theorem comb_mul (s : Int) : ∀ (f : List Int) (l : List V3), comb (f.map (s * ·)) l = (s * (comb f l).1, s * (comb f l).2.1, s * (comb f l).2.2)
  | [], l => by simp [comb]
  | f :: fs, [] => by simp [comb]
  | f :: fs, v :: vs => by
    rw [List.map_cons, comb, comb, comb_mul s fs vs]
    simp only [Prod.mk.injEq]
    refine ⟨by grind, by grind, by grind⟩
theorem isRel_nrm {l : List V3} {r : List Int} (hl : r.length = l.length) (h0 : comb r l = z3) (hg : gcdL r ≠ 0) (h1 : ∀ g : List Int, g.length = l.length → comb g l = z3 → Prp r g) : IsRel l (nrm r) := by
  have hs : sgL r ≠ 0 := by have := sgL_abs r; omega
  refine ⟨by rw [nrm_len]; exact hl, ?_, (nrm_ok hg).1, (nrm_ok hg).2, fun g gl gz => (h1 g gl gz).nrm hg⟩
  have e := comb_mul (sgL r) (nrm r) l
  rw [nrm_mul, h0] at e
  generalize comb (nrm r) l = c at e ⊢
  obtain ⟨x, y, z⟩ := c
  simp only [Prod.mk.injEq] at e ⊢
  exact ⟨(Int.mul_eq_zero.1 e.1.symm).resolve_left hs, (Int.mul_eq_zero.1 e.2.1.symm).resolve_left hs, (Int.mul_eq_zero.1 e.2.2.symm).resolve_left hs⟩
def raw2 (a b : V3) : List Int := if cross a b ≠ z3 then [] else if a.1 ≠ 0 then [b.1, -a.1] else if a.2.1 ≠ 0 then [b.2.1, -a.2.1] else [b.2.2, -a.2.2]
def raw3 (a b c : V3) : List Int := if det a b c ≠ 0 then [] else
  if (cross b c).1 ≠ 0 ∨ (cross c a).1 ≠ 0 ∨ (cross a b).1 ≠ 0 then [(cross b c).1, (cross c a).1, (cross a b).1] else
  if (cross b c).2.1 ≠ 0 ∨ (cross c a).2.1 ≠ 0 ∨ (cross a b).2.1 ≠ 0 then [(cross b c).2.1, (cross c a).2.1, (cross a b).2.1] else
  if (cross b c).2.2 ≠ 0 ∨ (cross c a).2.2 ≠ 0 ∨ (cross a b).2.2 ≠ 0 then [(cross b c).2.2, (cross c a).2.2, (cross a b).2.2] else []
def raw4 (a b c d : V3) : List Int := [det b c d, -det a c d, det a b d, -det a b c]
def raw (l : List V3) : List Int := match l with
  | [a, b] => raw2 a b
  | [a, b, c] => raw3 a b c
  | [a, b, c, d] => raw4 a b c d
  | _ => []
def relL (l : List V3) : List Int × Bool := if gcdL (raw l) = 0 then ([], false) else (nrm (raw l), true)
theorem prp2 {a b x y : Int} (h : a * y = b * x) : Prp [a, b] [x, y] := fun i j => by
  rcases i with _ | _ | i <;> rcases j with _ | _ | j <;> simp <;> grind
theorem prp3 {a b c x y z : Int} (h1 : a * y = b * x) (h2 : a * z = c * x) (h3 : b * z = c * y) : Prp [a, b, c] [x, y, z] := fun i j => by
  rcases i with _ | _ | _ | i <;> rcases j with _ | _ | _ | j <;> simp <;> grind
theorem prp4 {a b c d x y z w : Int} (h1 : a * y = b * x) (h2 : a * z = c * x) (h3 : a * w = d * x) (h4 : b * z = c * y) (h5 : b * w = d * y) (h6 : c * w = d * z) : Prp [a, b, c, d] [x, y, z, w] := fun i j => by
  rcases i with _ | _ | _ | _ | i <;> rcases j with _ | _ | _ | _ | j <;> simp <;> grind
theorem comb2 (x y : Int) (a b : V3) : comb [x, y] [a, b] = z3 ↔ x * a.1 + y * b.1 = 0 ∧ x * a.2.1 + y * b.2.1 = 0 ∧ x * a.2.2 + y * b.2.2 = 0 := by simp [comb]
theorem comb3 (x y z : Int) (a b c : V3) : comb [x, y, z] [a, b, c] = z3 ↔ x * a.1 + (y * b.1 + z * c.1) = 0 ∧ x * a.2.1 + (y * b.2.1 + z * c.2.1) = 0 ∧ x * a.2.2 + (y * b.2.2 + z * c.2.2) = 0 := by simp [comb]
theorem comb4 (x y z w : Int) (a b c d : V3) : comb [x, y, z, w] [a, b, c, d] = z3 ↔ x * a.1 + (y * b.1 + (z * c.1 + w * d.1)) = 0 ∧ x * a.2.1 + (y * b.2.1 + (z * c.2.1 + w * d.2.1)) = 0 ∧ x * a.2.2 + (y * b.2.2 + (z * c.2.2 + w * d.2.2)) = 0 := by simp [comb]
theorem gcd2 {a b : Int} : gcdL [a, b] = 0 ↔ a = 0 ∧ b = 0 := by rw [gcdL_zero]; simp
theorem gcd3 {a b c : Int} : gcdL [a, b, c] = 0 ↔ a = 0 ∧ b = 0 ∧ c = 0 := by rw [gcdL_zero]; simp
theorem gcd4 {a b c d : Int} : gcdL [a, b, c, d] = 0 ↔ a = 0 ∧ b = 0 ∧ c = 0 ∧ d = 0 := by rw [gcdL_zero]; simp
theorem len2 {g : List Int} (h : g.length = 2) : ∃ x y, g = [x, y] := by
  match g, h with
  | [x, y], _ => exact ⟨x, y, rfl⟩
theorem len3 {g : List Int} (h : g.length = 3) : ∃ x y z, g = [x, y, z] := by
  match g, h with
  | [x, y, z], _ => exact ⟨x, y, z, rfl⟩
theorem len4 {g : List Int} (h : g.length = 4) : ∃ x y z w, g = [x, y, z, w] := by
  match g, h with
  | [x, y, z, w], _ => exact ⟨x, y, z, w, rfl⟩
/-- What a raw relation is. -/
structure RawOK (l : List V3) (r : List Int) : Prop where
  len : r.length = l.length
  zero : comb r l = z3
  one : ∀ g : List Int, g.length = l.length → comb g l = z3 → Prp r g
theorem raw2_ok {a b : V3} (h : gcdL (raw2 a b) ≠ 0) : RawOK [a, b] (raw2 a b) := by
  have hc : cross a b = z3 := Classical.byContradiction fun hh => h (by rw [raw2, if_pos hh]; rfl)
  rw [raw2, if_neg (fun hh => hh hc)]
  obtain ⟨a1, a2, a3⟩ := a
  obtain ⟨b1, b2, b3⟩ := b
  simp only [cross, Prod.mk.injEq] at hc
  obtain ⟨c1, c2, c3⟩ := hc
  dsimp only
  split
  · refine ⟨rfl, (comb2 _ _ _ _).2 ⟨by grind, by grind, by grind⟩, fun g hg hz => ?_⟩
    obtain ⟨x, y, rfl⟩ := len2 hg
    obtain ⟨e1, e2, e3⟩ := (comb2 _ _ _ _).1 hz
    exact prp2 (by grind)
  · split
    · refine ⟨rfl, (comb2 _ _ _ _).2 ⟨by grind, by grind, by grind⟩, fun g hg hz => ?_⟩
      obtain ⟨x, y, rfl⟩ := len2 hg
      obtain ⟨e1, e2, e3⟩ := (comb2 _ _ _ _).1 hz
      exact prp2 (by grind)
    · refine ⟨rfl, (comb2 _ _ _ _).2 ⟨by grind, by grind, by grind⟩, fun g hg hz => ?_⟩
      obtain ⟨x, y, rfl⟩ := len2 hg
      obtain ⟨e1, e2, e3⟩ := (comb2 _ _ _ _).1 hz
      exact prp2 (by grind)
/-- The factors along one of the coordinates. -/
theorem trip_ok {a b c : V3} (hd : det a b c = 0) :
    RawOK [a, b, c] [(cross b c).1, (cross c a).1, (cross a b).1] ∧ RawOK [a, b, c] [(cross b c).2.1, (cross c a).2.1, (cross a b).2.1] ∧ RawOK [a, b, c] [(cross b c).2.2, (cross c a).2.2, (cross a b).2.2] := by
  obtain ⟨a1, a2, a3⟩ := a
  obtain ⟨b1, b2, b3⟩ := b
  obtain ⟨c1, c2, c3⟩ := c
  simp only [det, dot, cross] at hd ⊢
  refine ⟨⟨rfl, (comb3 _ _ _ _ _ _).2 ⟨by grind, by grind, by grind⟩, fun g hg hz => ?_⟩, ⟨rfl, (comb3 _ _ _ _ _ _).2 ⟨by grind, by grind, by grind⟩, fun g hg hz => ?_⟩, ⟨rfl, (comb3 _ _ _ _ _ _).2 ⟨by grind, by grind, by grind⟩, fun g hg hz => ?_⟩⟩
  · obtain ⟨x, y, z, rfl⟩ := len3 hg
    obtain ⟨e1, e2, e3⟩ := (comb3 _ _ _ _ _ _).1 hz
    exact prp3 (by grind) (by grind) (by grind)
  · obtain ⟨x, y, z, rfl⟩ := len3 hg
    obtain ⟨e1, e2, e3⟩ := (comb3 _ _ _ _ _ _).1 hz
    exact prp3 (by grind) (by grind) (by grind)
  · obtain ⟨x, y, z, rfl⟩ := len3 hg
    obtain ⟨e1, e2, e3⟩ := (comb3 _ _ _ _ _ _).1 hz
    exact prp3 (by grind) (by grind) (by grind)
theorem raw3_ok {a b c : V3} (h : gcdL (raw3 a b c) ≠ 0) : RawOK [a, b, c] (raw3 a b c) := by
  have hd : det a b c = 0 := Classical.byContradiction fun hh => h (by rw [raw3, if_pos hh]; rfl)
  obtain ⟨t1, t2, t3⟩ := trip_ok hd
  rw [raw3, if_neg (fun hh => hh hd)] at h ⊢
  split
  · exact t1
  · split
    · exact t2
    · split
      · exact t3
      · rename_i h1 h2 h3
        rw [if_neg h1, if_neg h2, if_neg h3] at h
        exact absurd rfl h
theorem raw4_ok (a b c d : V3) : RawOK [a, b, c, d] (raw4 a b c d) := by
  obtain ⟨a1, a2, a3⟩ := a
  obtain ⟨b1, b2, b3⟩ := b
  obtain ⟨c1, c2, c3⟩ := c
  obtain ⟨d1, d2, d3⟩ := d
  simp only [raw4, det, dot, cross]
  refine ⟨rfl, (comb4 _ _ _ _ _ _ _ _).2 ⟨by grind, by grind, by grind⟩, fun g hg hz => ?_⟩
  obtain ⟨x, y, z, w, rfl⟩ := len4 hg
  obtain ⟨e1, e2, e3⟩ := (comb4 _ _ _ _ _ _ _ _).1 hz
  exact prp4 (by grind) (by grind) (by grind) (by grind) (by grind) (by grind)
theorem raw_ok {l : List V3} (h : gcdL (raw l) ≠ 0) : RawOK l (raw l) := by
  match l with
  | [] => exact absurd rfl h
  | [a] => exact absurd rfl h
  | [a, b] => exact raw2_ok h
  | [a, b, c] => exact raw3_ok h
  | [a, b, c, d] => exact raw4_ok a b c d
  | a :: b :: c :: d :: e :: r => exact absurd rfl h
theorem relL_is {l : List V3} (h : (relL l).2 = true) : IsRel l (relL l).1 := by
  unfold relL at h ⊢
  by_cases h0 : gcdL (raw l) = 0
  · rw [if_pos h0] at h; cases h
  · rw [if_neg h0] at h ⊢
    have hr := raw_ok h0
    exact isRel_nrm hr.len hr.zero h0 hr.one
/-! ### whatever has one relation alone is found -/
theorem cross_zero {a b : V3} (h : cross a b = z3) : a.2.1 * b.2.2 = a.2.2 * b.2.1 ∧ a.2.2 * b.1 = a.1 * b.2.2 ∧ a.1 * b.2.1 = a.2.1 * b.1 := by
  obtain ⟨a1, a2, a3⟩ := a
  obtain ⟨b1, b2, b3⟩ := b
  simp only [cross, Prod.mk.injEq] at h
  obtain ⟨h1, h2, h3⟩ := h
  exact ⟨by grind, by grind, by grind⟩
theorem mul_z {a b : Int} (h : a * b = 0) (hb : b ≠ 0) : a = 0 := (Int.mul_eq_zero.1 h).resolve_right hb
theorem zz {a b : Int} (h : a * b = 0) (hb : b ≠ 0) : a = 0 := mul_z h hb
theorem smul_z {x : Int} {b : V3} (hb : b ≠ z3) (h1 : x * b.1 = 0) (h2 : x * b.2.1 = 0) (h3 : x * b.2.2 = 0) : x = 0 := by
  rcases v3_ne hb with h | h | h
  · exact mul_z h1 h
  · exact mul_z h2 h
  · exact mul_z h3 h
theorem smul_par {x y : Int} {a b : V3} (hc : cross a b ≠ z3) (h1 : x * a.1 + y * b.1 = 0) (h2 : x * a.2.1 + y * b.2.1 = 0) (h3 : x * a.2.2 + y * b.2.2 = 0) : x = 0 ∧ y = 0 := by
  obtain ⟨a1, a2, a3⟩ := a
  obtain ⟨b1, b2, b3⟩ := b
  constructor
  · refine smul_z hc ?_ ?_ ?_ <;> simp only [cross] at * <;> grind
  · refine smul_z hc ?_ ?_ ?_ <;> simp only [cross] at * <;> grind
/-- Parallel vectors other than 0 have a relation of numbers other than 0. -/
theorem par_rel {a b : V3} (ha : a ≠ z3) (hb : b ≠ z3) (hc : cross a b = z3) : ∃ x y, x ≠ 0 ∧ y ≠ 0 ∧ x * a.1 + y * b.1 = 0 ∧ x * a.2.1 + y * b.2.1 = 0 ∧ x * a.2.2 + y * b.2.2 = 0 := by
  obtain ⟨h1, h2, h3⟩ := cross_zero hc
  rcases v3_ne ha with h | h | h
  · refine ⟨b.1, -a.1, fun hh => hb ?_, by omega, by grind, by grind, by grind⟩
    have e2 : b.2.1 = 0 := mul_z (b := a.1) (by grind) h
    have e3 : b.2.2 = 0 := mul_z (b := a.1) (by grind) h
    obtain ⟨b1, b2, b3⟩ := b
    simp only at hh e2 e3
    rw [hh, e2, e3]
  · refine ⟨b.2.1, -a.2.1, fun hh => hb ?_, by omega, by grind, by grind, by grind⟩
    have e2 : b.1 = 0 := mul_z (b := a.2.1) (by grind) h
    have e3 : b.2.2 = 0 := mul_z (b := a.2.1) (by grind) h
    obtain ⟨b1, b2, b3⟩ := b
    simp only at hh e2 e3
    rw [hh, e2, e3]
  · refine ⟨b.2.2, -a.2.2, fun hh => hb ?_, by omega, by grind, by grind, by grind⟩
    have e2 : b.1 = 0 := mul_z (b := a.2.2) (by grind) h
    have e3 : b.2.1 = 0 := mul_z (b := a.2.2) (by grind) h
    obtain ⟨b1, b2, b3⟩ := b
    simp only at hh e2 e3
    rw [hh, e2, e3]
/-- Three vectors in a plane. -/
theorem flat_rel {a b c : V3} (hd : det a b c = 0) (hc : cross a b ≠ z3) : ∃ x y z, z ≠ 0 ∧ x * a.1 + (y * b.1 + z * c.1) = 0 ∧ x * a.2.1 + (y * b.2.1 + z * c.2.1) = 0 ∧ x * a.2.2 + (y * b.2.2 + z * c.2.2) = 0 := by
  obtain ⟨t1, t2, t3⟩ := trip_ok hd
  rcases v3_ne hc with h | h | h
  · exact ⟨_, _, _, h, (comb3 _ _ _ _ _ _).1 t1.zero⟩
  · exact ⟨_, _, _, h, (comb3 _ _ _ _ _ _).1 t2.zero⟩
  · exact ⟨_, _, _, h, (comb3 _ _ _ _ _ _).1 t3.zero⟩
theorem det_of_rel {a b c : V3} {x y z : Int} (hx : ¬ (x = 0 ∧ y = 0 ∧ z = 0)) (h1 : x * a.1 + (y * b.1 + z * c.1) = 0) (h2 : x * a.2.1 + (y * b.2.1 + z * c.2.1) = 0) (h3 : x * a.2.2 + (y * b.2.2 + z * c.2.2) = 0) : det a b c = 0 := by
  obtain ⟨a1, a2, a3⟩ := a
  obtain ⟨b1, b2, b3⟩ := b
  obtain ⟨c1, c2, c3⟩ := c
  simp only [det, dot, cross] at *
  by_cases k1 : x = 0
  · by_cases k2 : y = 0
    · exact mul_z (b := z) (by subst k1 k2; grind) (by omega)
    · exact mul_z (b := y) (by grind) k2
  · exact mul_z (b := x) (by grind) k1
theorem IsRel.ne {l : List V3} {f : List Int} (h : IsRel l f) : gcdL f ≠ 0 := by rw [h.gcd]; decide
theorem raw2_ne {a b : V3} {f : List Int} (ha : a ≠ z3) (hb : b ≠ z3) (h : IsRel [a, b] f) : gcdL (raw2 a b) ≠ 0 := by
  obtain ⟨x, y, rfl⟩ := len2 h.len
  obtain ⟨e1, e2, e3⟩ := (comb2 _ _ _ _).1 h.zero
  have hne := fun hh => h.ne (gcd2.2 hh)
  have hc : cross a b = z3 := Classical.byContradiction fun hc => hne (smul_par hc e1 e2 e3)
  rw [raw2, if_neg (fun hh => hh hc)]
  rcases v3_ne ha with k | k | k
  · rw [if_pos k]
    exact fun hh => k (by have := (gcd2.1 hh).2; omega)
  · split
    · rename_i k'; exact fun hh => k' (by have := (gcd2.1 hh).2; omega)
    · try rw [if_pos k]
      exact fun hh => k (by have := (gcd2.1 hh).2; omega)
  · split
    · rename_i k'; exact fun hh => k' (by have := (gcd2.1 hh).2; omega)
    · split
      · rename_i k'; exact fun hh => k' (by have := (gcd2.1 hh).2; omega)
      · exact fun hh => k (by have := (gcd2.1 hh).2; omega)
theorem raw3_ne {a b c : V3} {f : List Int} (ha : a ≠ z3) (hb : b ≠ z3) (hcz : c ≠ z3) (h : IsRel [a, b, c] f) : gcdL (raw3 a b c) ≠ 0 := by
  obtain ⟨x, y, z, rfl⟩ := len3 h.len
  obtain ⟨e1, e2, e3⟩ := (comb3 _ _ _ _ _ _).1 h.zero
  have hne := fun hh => h.ne (gcd3.2 hh)
  have hd := det_of_rel hne e1 e2 e3
  rw [raw3, if_neg (fun hh => hh hd)]
  by_cases k1 : (cross b c).1 ≠ 0 ∨ (cross c a).1 ≠ 0 ∨ (cross a b).1 ≠ 0
  · rw [if_pos k1]; exact fun hh => by have := gcd3.1 hh; omega
  rw [if_neg k1]
  by_cases k2 : (cross b c).2.1 ≠ 0 ∨ (cross c a).2.1 ≠ 0 ∨ (cross a b).2.1 ≠ 0
  · rw [if_pos k2]; exact fun hh => by have := gcd3.1 hh; omega
  rw [if_neg k2]
  by_cases k3 : (cross b c).2.2 ≠ 0 ∨ (cross c a).2.2 ≠ 0 ∨ (cross a b).2.2 ≠ 0
  · rw [if_pos k3]; exact fun hh => by have := gcd3.1 hh; omega
  exfalso
  have ab : cross a b = z3 := Classical.byContradiction fun hh => by rcases v3_ne hh with k | k | k <;> omega
  have bc : cross b c = z3 := Classical.byContradiction fun hh => by rcases v3_ne hh with k | k | k <;> omega
  obtain ⟨p, q, hp, hq, p1, p2, p3⟩ := par_rel ha hb ab
  obtain ⟨s, t, hs, ht, s1, s2, s3⟩ := par_rel hb hcz bc
  have g1 := h.one [p, q, 0] rfl ((comb3 _ _ _ _ _ _).2 ⟨by omega, by omega, by omega⟩)
  have g2 := h.one [0, s, t] rfl ((comb3 _ _ _ _ _ _).2 ⟨by omega, by omega, by omega⟩)
  have z1 := g1 2 0
  have z2 := g2 0 2
  simp at z1 z2
  have z1 : z = 0 := zz z1 (by omega)
  have z2 : x = 0 := zz z2 (by omega)
  subst z1 z2
  exact hne ⟨rfl, smul_z hb (by omega) (by omega) (by omega), rfl⟩
theorem raw4_ne {a b c d : V3} {f : List Int} (ha : a ≠ z3) (hb : b ≠ z3) (hcz : c ≠ z3) (hdz : d ≠ z3) (h : IsRel [a, b, c, d] f) : gcdL (raw4 a b c d) ≠ 0 := by
  obtain ⟨x, y, z, w, rfl⟩ := len4 h.len
  obtain ⟨e1, e2, e3⟩ := (comb4 _ _ _ _ _ _ _ _).1 h.zero
  have hne := fun hh => h.ne (gcd4.2 hh)
  intro hr
  obtain ⟨d1, d2, d3, d4⟩ := gcd4.1 hr
  have d2 : det a c d = 0 := by omega
  have d4 : det a b c = 0 := by omega
  by_cases ab : cross a b = z3
  · obtain ⟨p, q, hp, hq, p1, p2, p3⟩ := par_rel ha hb ab
    have g1 := h.one [p, q, 0, 0] rfl ((comb4 _ _ _ _ _ _ _ _).2 ⟨by omega, by omega, by omega⟩)
    have z1 := g1 2 0
    have z2 := g1 3 0
    simp at z1 z2
    have z1 : z = 0 := zz z1 (by omega)
    have z2 : w = 0 := zz z2 (by omega)
    by_cases ac : cross a c = z3
    · obtain ⟨s, t, hs, ht, s1, s2, s3⟩ := par_rel ha hcz ac
      have g2 := h.one [s, 0, t, 0] rfl ((comb4 _ _ _ _ _ _ _ _).2 ⟨by omega, by omega, by omega⟩)
      have z3 := g2 0 2
      have z4 := g2 1 2
      subst z1 z2
      simp at z3 z4
      have z3 : x = 0 := zz z3 (by omega)
      have z4 : y = 0 := zz z4 (by omega)
      exact hne ⟨z3, z4, rfl, rfl⟩
    · obtain ⟨s, t, u, hu, s1, s2, s3⟩ := flat_rel d2 ac
      have g2 := h.one [s, 0, t, u] rfl ((comb4 _ _ _ _ _ _ _ _).2 ⟨by omega, by omega, by omega⟩)
      have z3 := g2 0 3
      have z4 := g2 1 3
      subst z1 z2
      simp at z3 z4
      have z3 : x = 0 := zz z3 (by omega)
      have z4 : y = 0 := zz z4 (by omega)
      exact hne ⟨z3, z4, rfl, rfl⟩
  · obtain ⟨s, t, u, hu, s1, s2, s3⟩ := flat_rel d4 ab
    obtain ⟨s', t', u', hu', s1', s2', s3'⟩ := flat_rel d3 ab
    have g1 := h.one [s, t, u, 0] rfl ((comb4 _ _ _ _ _ _ _ _).2 ⟨by omega, by omega, by omega⟩)
    have g2 := h.one [s', t', 0, u'] rfl ((comb4 _ _ _ _ _ _ _ _).2 ⟨by omega, by omega, by omega⟩)
    have z1 := g1 3 2
    have z2 := g2 2 3
    simp at z1 z2
    have z1 : w = 0 := zz z1 (by omega)
    have z2 : z = 0 := zz z2 (by omega)
    subst z1 z2
    have := smul_par (x := x) (y := y) ab (by omega) (by omega) (by omega)
    exact hne ⟨this.1, this.2, rfl, rfl⟩
/-- Two to four vectors other than 0. -/
structure Vs (l : List V3) : Prop where
  lo : 2 ≤ l.length
  hi : l.length ≤ 4
  ne : ∀ v ∈ l, v ≠ z3
theorem relL_of {l : List V3} {f : List Int} (hv : Vs l) (h : IsRel l f) : relL l = (f, true) := by
  have hr : gcdL (raw l) ≠ 0 := by
    obtain ⟨lo, hi, ne⟩ := hv
    match l, lo, hi, ne, h with
    | [a, b], _, _, ne, h => exact raw2_ne (ne a (by simp)) (ne b (by simp)) h
    | [a, b, c], _, _, ne, h => exact raw3_ne (ne a (by simp)) (ne b (by simp)) (ne c (by simp)) h
    | [a, b, c, d], _, _, ne, h => exact raw4_ne (ne a (by simp)) (ne b (by simp)) (ne c (by simp)) (ne d (by simp)) h
  have e : relL l = (nrm (raw l), true) := by unfold relL; rw [if_neg hr]
  have hi := relL_is (l := l) (by rw [e])
  rw [e] at hi ⊢
  rw [h.eq hi]
end Go.Pi
end

section
namespace Go.Pi
set_option linter.unusedVariables false
/-! ### sums -/
def sR (F : Nat → Int) : Nat → Int
  | 0 => 0
  | n + 1 => sR F n + F n
theorem sR_congr {F G : Nat → Int} : ∀ {n : Nat}, (∀ i, i < n → F i = G i) → sR F n = sR G n
  | 0, _ => rfl
  | n + 1, h => by rw [sR, sR, sR_congr fun i hi => h i (by omega), h n (by omega)]
theorem sR_add (F G : Nat → Int) : ∀ n, sR (fun i => F i + G i) n = sR F n + sR G n
  | 0 => rfl
  | n + 1 => by rw [sR, sR, sR, sR_add F G n]; omega
theorem sR_mul (c : Int) (F : Nat → Int) : ∀ n, sR (fun i => c * F i) n = c * sR F n
  | 0 => by simp [sR]
  | n + 1 => by rw [sR, sR, sR_mul c F n]; grind
theorem sR_le {F G : Nat → Int} : ∀ {n : Nat}, (∀ i, i < n → F i ≤ G i) → sR F n ≤ sR G n
  | 0, _ => Int.le_refl _
  | n + 1, h => by
    have h1 := sR_le (n := n) fun i hi => h i (by omega)
    have h2 := h n (by omega)
    rw [sR, sR]; omega
theorem sR_one (F : Nat → Int) {j : Nat} : ∀ {n : Nat}, j < n → (∀ i, i < n → i ≠ j → F i = 0) → sR F n = F j
  | n + 1, hj, h => by
    rw [sR]
    by_cases e : j = n
    · subst e
      have : sR F j = 0 := by
        rw [sR_congr (G := fun _ => 0) fun i hi => h i (by omega) (by omega)]
        have := sR_mul 0 (fun _ => 0) j
        simpa using this
      omega
    · rw [sR_one F (n := n) (by omega) fun i hi hne => h i (by omega) hne, h n (by omega) (by omega)]; omega
/-! ### what follows from readings -/
def mx (r : Rd) (f : Int) : Int := max (f * r.2.1) (f * r.2.2)
def mn (r : Rd) (f : Int) : Int := min (f * r.2.1) (f * r.2.2)
def cmb (l : List Rd) (f : Nat → Int) : V3 := (sR (fun i => f i * (l.getD i rd0).1.1) l.length, sR (fun i => f i * (l.getD i rd0).1.2.1) l.length, sR (fun i => f i * (l.getD i rd0).1.2.2) l.length)
def hiF (l : List Rd) (f : Nat → Int) : Int := sR (fun i => mx (l.getD i rd0) (f i)) l.length
def add3 (a b : V3) : V3 := (a.1 + b.1, a.2.1 + b.2.1, a.2.2 + b.2.2)
def mul3 (c : Int) (a : V3) : V3 := (c * a.1, c * a.2.1, c * a.2.2)
theorem cmb_lin (l : List Rd) (f g : Nat → Int) (m n : Int) : cmb l (fun i => m * f i + n * g i) = add3 (mul3 m (cmb l f)) (mul3 n (cmb l g)) := by
  have key : ∀ D : Nat → Int, sR (fun i => (m * f i + n * g i) * D i) l.length = m * sR (fun i => f i * D i) l.length + n * sR (fun i => g i * D i) l.length := fun D => by
    rw [← sR_mul, ← sR_mul, ← sR_add]
    exact sR_congr fun i _ => by grind
  simp only [cmb, add3, mul3, key]
theorem mx_mul {r : Rd} {m f : Int} (hm : 0 ≤ m) : mx r (m * f) = m * mx r f := by
  unfold mx
  rw [Int.mul_assoc, Int.mul_assoc]
  rcases Int.le_total (f * r.2.1) (f * r.2.2) with h | h
  · have := Int.mul_le_mul_of_nonneg_left h hm
    rw [Int.max_eq_right h, Int.max_eq_right this]
  · have := Int.mul_le_mul_of_nonneg_left h hm
    rw [Int.max_eq_left h, Int.max_eq_left this]
theorem mx_add (r : Rd) (f g : Int) : mx r (f + g) ≤ mx r f + mx r g := by
  unfold mx
  have e1 : (f + g) * r.2.1 = f * r.2.1 + g * r.2.1 := by grind
  have e2 : (f + g) * r.2.2 = f * r.2.2 + g * r.2.2 := by grind
  omega
theorem hiF_lin (l : List Rd) (f g : Nat → Int) {m n : Int} (hm : 0 ≤ m) (hn : 0 ≤ n) : hiF l (fun i => m * f i + n * g i) ≤ m * hiF l f + n * hiF l g := by
  unfold hiF
  rw [← sR_mul, ← sR_mul, ← sR_add]
  refine sR_le fun i _ => ?_
  have := mx_add (l.getD i rd0) (m * f i) (n * g i)
  rw [mx_mul hm, mx_mul hn] at this
  exact this
abbrev Iq := V3 × Int
def Der (l : List Rd) (i : Iq) : Prop := ∃ f, cmb l f = i.1 ∧ hiF l f ≤ i.2
def comI (m : Int) (i : Iq) (n : Int) (j : Iq) : Iq := (add3 (mul3 m i.1) (mul3 n j.1), m * i.2 + n * j.2)
theorem Der.com {l : List Rd} {i j : Iq} (hi : Der l i) (hj : Der l j) {m n : Int} (hm : 0 ≤ m) (hn : 0 ≤ n) : Der l (comI m i n j) := by
  obtain ⟨f, f1, f2⟩ := hi
  obtain ⟨g, g1, g2⟩ := hj
  refine ⟨fun k => m * f k + n * g k, by rw [cmb_lin, f1, g1]; rfl, ?_⟩
  have h1 := hiF_lin l f g hm hn
  have h2 := Int.mul_le_mul_of_nonneg_left f2 hm
  have h3 := Int.mul_le_mul_of_nonneg_left g2 hn
  show _ ≤ m * i.2 + n * j.2
  omega
/-! ### a coordinate less -/
def satI (L : List Iq) (x : V3) (q : Int) : Prop := ∀ i ∈ L, dot i.1 x ≤ i.2 * q
structure Lin (c : V3 → Int) : Prop where
  lin : ∀ (m n : Int) (a b : V3), c (add3 (mul3 m a) (mul3 n b)) = m * c a + n * c b
theorem most {α : Type} (n m : α → Int) : ∀ l : List α, l ≠ [] → (∀ a ∈ l, 0 < m a) → ∃ a ∈ l, ∀ b ∈ l, n b * m a ≤ n a * m b
  | [], h, _ => absurd rfl h
  | a :: l, _, hm => by
    have ha := hm a (.head _)
    by_cases hl : l = []
    · subst hl
      exact ⟨a, .head _, fun b hb => by simp at hb; subst hb; exact Int.le_refl _⟩
    · obtain ⟨c, hc, hb⟩ := most n m l hl fun b hb => hm b (.tail _ hb)
      have hcm := hm c (.tail _ hc)
      rcases Int.le_total (n a * m c) (n c * m a) with h | h
      · refine ⟨c, .tail _ hc, fun b hb' => ?_⟩
        rcases List.mem_cons.1 hb' with rfl | hb'
        · exact h
        · exact hb b hb'
      · refine ⟨a, .head _, fun b hb' => ?_⟩
        rcases List.mem_cons.1 hb' with rfl | hb'
        · exact Int.le_refl _
        · exact q_le (hm b (.tail _ hb')) hcm ha (hb b hb') h
theorem dot_com (m n : Int) (a b x : V3) : dot (add3 (mul3 m a) (mul3 n b)) x = m * dot a x + n * dot b x := by simp only [dot, add3, mul3]; grind
theorem elim {c : V3 → Int} {e : V3} (hc : Lin c) (he : ∀ (a x : V3) (s t : Int), dot a (add3 (mul3 s x) (mul3 t e)) = s * dot a x + t * c a) {P : Iq → Prop}
    (hP : ∀ {i j : Iq}, P i → P j → ∀ {m n : Int}, 0 ≤ m → 0 ≤ n → P (comI m i n j)) (L : List Iq) (hL : ∀ i ∈ L, P i) :
    ∃ L' : List Iq, (∀ i ∈ L', P i ∧ c i.1 = 0) ∧ (∀ c2 : V3 → Int, Lin c2 → (∀ i ∈ L, c2 i.1 = 0) → ∀ i ∈ L', c2 i.1 = 0) ∧ ∀ x q, 0 < q → satI L' x q → ∃ x' q', 0 < q' ∧ satI L x' q' := by
  refine ⟨L.filter (fun i => decide (c i.1 = 0)) ++ (L.filter (fun i => decide (0 < c i.1))).flatMap fun i => (L.filter (fun j => decide (c j.1 < 0))).map fun j => comI (-c j.1) i (c i.1) j, fun k hk => ?_, fun c2 h2 hz k hk => ?_, fun x q hq hs => ?_⟩
  · rcases List.mem_append.1 hk with hk | hk
    · have := List.mem_filter.1 hk
      exact ⟨hL k this.1, of_decide_eq_true this.2⟩
    · obtain ⟨i, hi, hk⟩ := List.mem_flatMap.1 hk
      obtain ⟨j, hj, rfl⟩ := List.mem_map.1 hk
      have hi := List.mem_filter.1 hi
      have hj := List.mem_filter.1 hj
      have h1 := of_decide_eq_true hi.2
      have h2 := of_decide_eq_true hj.2
      refine ⟨hP (hL i hi.1) (hL j hj.1) (by omega) (by omega), ?_⟩
      show c (add3 (mul3 _ _) (mul3 _ _)) = 0
      rw [hc.lin]; grind
  · rcases List.mem_append.1 hk with hk | hk
    · exact hz k (List.mem_filter.1 hk).1
    · obtain ⟨i, hi, hk⟩ := List.mem_flatMap.1 hk
      obtain ⟨j, hj, rfl⟩ := List.mem_map.1 hk
      have hi := hz i (List.mem_filter.1 hi).1
      have hj := hz j (List.mem_filter.1 hj).1
      show c2 (add3 (mul3 _ _) (mul3 _ _)) = 0
      rw [h2.lin, hi, hj]; omega
  · have z : ∀ i ∈ L, c i.1 = 0 → dot i.1 x ≤ i.2 * q := fun i hi h => hs i (List.mem_append_left _ (List.mem_filter.2 ⟨hi, decide_eq_true h⟩))
    have pn : ∀ i ∈ L, ∀ j ∈ L, 0 < c i.1 → c j.1 < 0 → -c j.1 * dot i.1 x + c i.1 * dot j.1 x ≤ (-c j.1 * i.2 + c i.1 * j.2) * q := fun i hi j hj h1 h2 => by
      have := hs (comI (-c j.1) i (c i.1) j) (List.mem_append_right _ (List.mem_flatMap.2 ⟨i, List.mem_filter.2 ⟨hi, decide_eq_true h1⟩, List.mem_map.2 ⟨j, List.mem_filter.2 ⟨hj, decide_eq_true h2⟩, rfl⟩⟩))
      unfold comI at this
      dsimp only at this
      rwa [dot_com] at this
    by_cases hn : L.filter (fun j => decide (c j.1 < 0)) = []
    · by_cases hp : L.filter (fun j => decide (0 < c j.1)) = []
      · refine ⟨x, q, hq, fun i hi => z i hi ?_⟩
        have h1 : ¬ c i.1 < 0 := fun h => by
          have := List.mem_filter (p := fun j : Iq => decide (c j.1 < 0)).2 ⟨hi, decide_eq_true h⟩
          rw [hn] at this; cases this
        have h2 : ¬ 0 < c i.1 := fun h => by
          have := List.mem_filter (p := fun j : Iq => decide (0 < c j.1)).2 ⟨hi, decide_eq_true h⟩
          rw [hp] at this; cases this
        omega
      · obtain ⟨i, hi, hb⟩ := most (fun i : Iq => dot i.1 x - i.2 * q) (fun i => c i.1) _ hp fun a ha => of_decide_eq_true (List.mem_filter.1 ha).2
        have hi := List.mem_filter.1 hi
        have hci := of_decide_eq_true hi.2
        refine ⟨add3 (mul3 (c i.1) x) (mul3 (i.2 * q - dot i.1 x) e), c i.1 * q, Int.mul_pos hci hq, fun k hk => ?_⟩
        rw [he]
        rcases Int.lt_trichotomy (c k.1) 0 with h | h | h
        · have := List.mem_filter (p := fun j : Iq => decide (c j.1 < 0)).2 ⟨hk, decide_eq_true h⟩
          rw [hn] at this; cases this
        · have h1 := Int.mul_le_mul_of_nonneg_left (z k hk h) (show 0 ≤ c i.1 by omega)
          rw [h]
          have e2 : k.2 * (c i.1 * q) = c i.1 * (k.2 * q) := by grind
          omega
        · have h1 := hb k (List.mem_filter.2 ⟨hk, decide_eq_true h⟩)
          have e2 : c i.1 * dot k.1 x + (i.2 * q - dot i.1 x) * c k.1 - k.2 * (c i.1 * q) = (dot k.1 x - k.2 * q) * c i.1 - (dot i.1 x - i.2 * q) * c k.1 := by grind
          omega
    · obtain ⟨j, hj, hb⟩ := most (fun j : Iq => dot j.1 x - j.2 * q) (fun j => -c j.1) _ hn fun a ha => by have := of_decide_eq_true (List.mem_filter.1 ha).2; omega
      have hj := List.mem_filter.1 hj
      have hcj := of_decide_eq_true hj.2
      refine ⟨add3 (mul3 (-c j.1) x) (mul3 (dot j.1 x - j.2 * q) e), -c j.1 * q, Int.mul_pos (by omega) hq, fun k hk => ?_⟩
      rw [he]
      rcases Int.lt_trichotomy (c k.1) 0 with h | h | h
      · have h1 := hb k (List.mem_filter.2 ⟨hk, decide_eq_true h⟩)
        have e2 : -c j.1 * dot k.1 x + (dot j.1 x - j.2 * q) * c k.1 - k.2 * (-c j.1 * q) = (dot k.1 x - k.2 * q) * -c j.1 - (dot j.1 x - j.2 * q) * -c k.1 := by grind
        omega
      · have h1 := Int.mul_le_mul_of_nonneg_left (z k hk h) (show 0 ≤ -c j.1 by omega)
        rw [h]
        have e2 : k.2 * (-c j.1 * q) = -c j.1 * (k.2 * q) := by grind
        omega
      · have h1 := pn k hk j hj.1 h hcj
        have e2 : -c j.1 * dot k.1 x + (dot j.1 x - j.2 * q) * c k.1 - k.2 * (-c j.1 * q) = (-c j.1 * dot k.1 x + c k.1 * dot j.1 x) - (-c j.1 * k.2 + c k.1 * j.2) * q := by grind
        omega
/-- Factors that rule out every point. -/
structure Cert (l : List Rd) (f : Nat → Int) : Prop where
  zero : cmb l f = z3
  neg : hiF l f < 0
theorem farkas {l : List Rd} (hl : ∀ r ∈ l, r.2.1 ≤ r.2.2) : (∃ p q, 0 < q ∧ agQ l p q) ∨ ∃ f, Cert l f := by
  obtain ⟨L, eL⟩ : ∃ L : List Iq, L = l.map (fun r => (r.1, r.2.2)) ++ l.map (fun r => (neg3 r.1, -r.2.1)) := ⟨_, rfl⟩
  have unit : ∀ (k : Nat) (s : Int), k < l.length → cmb l (fun i => if i = k then s else 0) = mul3 s (l.getD k rd0).1 ∧ hiF l (fun i => if i = k then s else 0) = mx (l.getD k rd0) s := fun k s hk => by
    constructor
    · simp only [cmb, mul3, Prod.mk.injEq]
      refine ⟨?_, ?_, ?_⟩
      · rw [sR_one _ hk fun i _ hne => by rw [if_neg hne, Int.zero_mul], if_pos rfl]
      · rw [sR_one _ hk fun i _ hne => by rw [if_neg hne, Int.zero_mul], if_pos rfl]
      · rw [sR_one _ hk fun i _ hne => by rw [if_neg hne, Int.zero_mul], if_pos rfl]
    · unfold hiF
      rw [sR_one _ hk fun i _ hne => by show mx _ (if i = k then s else 0) = 0; rw [if_neg hne]; simp [mx]]
      show mx _ (if k = k then s else 0) = _
      rw [if_pos rfl]
  have hD : ∀ i ∈ L, Der l i := fun i hi => by
    rw [eL] at hi
    rcases List.mem_append.1 hi with hi | hi
    · obtain ⟨r, hr, rfl⟩ := List.mem_map.1 hi
      obtain ⟨k, hk, e⟩ := List.getElem_of_mem hr
      have eg : l.getD k rd0 = r := by rw [getD_lt hk, e]
      have hu := unit k 1 hk
      rw [eg] at hu
      have := hl r hr
      refine ⟨_, hu.1.trans ?_, by rw [hu.2]; unfold mx; dsimp only; omega⟩
      simp [mul3]
    · obtain ⟨r, hr, rfl⟩ := List.mem_map.1 hi
      obtain ⟨k, hk, e⟩ := List.getElem_of_mem hr
      have eg : l.getD k rd0 = r := by rw [getD_lt hk, e]
      have hu := unit k (-1) hk
      rw [eg] at hu
      have := hl r hr
      refine ⟨_, hu.1.trans ?_, by rw [hu.2]; unfold mx; dsimp only; omega⟩
      simp [mul3, neg3]
  have l1 : Lin (fun a : V3 => a.1) := ⟨fun m n a b => rfl⟩
  have l2 : Lin (fun a : V3 => a.2.1) := ⟨fun m n a b => rfl⟩
  have l3 : Lin (fun a : V3 => a.2.2) := ⟨fun m n a b => rfl⟩
  have hcom : ∀ {i j : Iq}, Der l i → Der l j → ∀ {m n : Int}, 0 ≤ m → 0 ≤ n → Der l (comI m i n j) := fun hi hj _ _ hm hn => hi.com hj hm hn
  obtain ⟨L1, a1, _, s1⟩ := elim (e := (1, 0, 0)) l1 (fun a x s t => by simp only [dot, add3, mul3]; grind) hcom L hD
  obtain ⟨L2, a2, k2, s2⟩ := elim (e := (0, 1, 0)) l2 (fun a x s t => by simp only [dot, add3, mul3]; grind) hcom L1 fun i hi => (a1 i hi).1
  obtain ⟨L3, a3, k3, s3⟩ := elim (e := (0, 0, 1)) l3 (fun a x s t => by simp only [dot, add3, mul3]; grind) hcom L2 fun i hi => (a2 i hi).1
  have z1 := k3 _ l1 (k2 _ l1 fun i hi => (a1 i hi).2)
  have z2 := k3 _ l2 fun i hi => (a2 i hi).2
  have z3' : ∀ i ∈ L3, i.1 = z3 := fun i hi => by
    have h1 := z1 i hi
    have h2 := z2 i hi
    have h3 := (a3 i hi).2
    obtain ⟨⟨x, y, z⟩, b⟩ := i
    simp only at h1 h2 h3
    rw [h1, h2, h3]
  by_cases hb : ∀ i ∈ L3, 0 ≤ i.2
  · left
    obtain ⟨x2, q2, p2, t2⟩ := s3 z3 1 (by omega) fun i hi => by
      rw [z3' i hi]
      have := hb i hi
      simp [dot]; omega
    obtain ⟨x1, q1, p1, t1⟩ := s2 x2 q2 p2 t2
    obtain ⟨x, q, p, t⟩ := s1 x1 q1 p1 t1
    refine ⟨x, q, p, fun r hr => ?_⟩
    have h1 := t (r.1, r.2.2) (by rw [eL]; exact List.mem_append_left _ (List.mem_map.2 ⟨r, hr, rfl⟩))
    have h2 := t (neg3 r.1, -r.2.1) (by rw [eL]; exact List.mem_append_right _ (List.mem_map.2 ⟨r, hr, rfl⟩))
    dsimp only at h1 h2
    have e : dot (neg3 r.1) x = -dot r.1 x := by simp only [dot, neg3]; grind
    have e2 : -r.2.1 * q = -(r.2.1 * q) := by grind
    omega
  · right
    obtain ⟨i, hi, hn⟩ : ∃ i ∈ L3, ¬ 0 ≤ i.2 := Classical.byContradiction fun hh => hb fun i hi => Classical.byContradiction fun h => hh ⟨i, hi, h⟩
    obtain ⟨f, f1, f2⟩ := (a3 i hi).1
    exact ⟨f, by rw [f1, z3' i hi], by omega⟩
end Go.Pi
end
