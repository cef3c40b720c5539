/- What functions of the program compute, each proved once, part 12. -/
import Derived.Test.YtglijnhkdnhofaaGreatFnK
import Derived.Test.YtglijnhkdnhofaaGreatFnC

namespace Go.Pi
set_option linter.unusedVariables false
def fle (a b : Int × Int) : Prop := a.1 * b.2 ≤ b.1 * a.2
theorem pick_ends {t : Int → Bool} {R : Int × Int → Int × Int → Prop} (rf : ∀ a, R a a) (tr : ∀ {a b c : Int × Int}, 0 < a.2 → 0 < b.2 → 0 < c.2 → R a b → R b c → R a c)
    (ht : ∀ {x m : Int × Int}, 0 < x.2 → 0 < m.2 → t (less2 x m) = true → R x m) (hf : ∀ {x m : Int × Int}, 0 < x.2 → 0 < m.2 → t (less2 x m) = false → R m x) :
    ∀ (r : List (Int × Int)) (m : Int × Int), 0 < m.2 → (∀ x ∈ r, 0 < x.2) → r.foldl (pickF t) m ∈ m :: r ∧ ∀ y ∈ m :: r, R (r.foldl (pickF t) m) y
  | [], m, hm, _ => ⟨.head _, fun y hy => by simp at hy; subst hy; exact rf _⟩
  | x :: r, m, hm, hr => by
    rw [List.foldl_cons]
    have hx := hr x (.head _)
    have hr' : ∀ y ∈ r, 0 < y.2 := fun y hy => hr y (.tail _ hy)
    cases h : t (less2 x m) with
    | true =>
      have e : pickF t m x = x := by unfold pickF; rw [if_pos h]
      rw [e]
      obtain ⟨h1, h2⟩ := pick_ends rf tr ht hf r x hx hr'
      refine ⟨.tail _ h1, fun y hy => ?_⟩
      rcases List.mem_cons.1 hy with rfl | hy
      · have hp : 0 < (r.foldl (pickF t) x).2 := by
          rcases List.mem_cons.1 h1 with e | e
          · rw [e]; exact hx
          · exact hr' _ e
        exact tr hp hx hm (h2 x (.head _)) (ht hx hm h)
      · exact h2 y hy
    | false =>
      have e : pickF t m x = m := by unfold pickF; rw [if_neg (by rw [h]; decide)]
      rw [e]
      obtain ⟨h1, h2⟩ := pick_ends rf tr ht hf r m hm hr'
      have hp : 0 < (r.foldl (pickF t) m).2 := by
        rcases List.mem_cons.1 h1 with e | e
        · rw [e]; exact hm
        · exact hr' _ e
      refine ⟨?_, fun y hy => ?_⟩
      · rcases List.mem_cons.1 h1 with e | e
        · rw [e]; exact .head _
        · exact .tail _ (.tail _ e)
      · rcases List.mem_cons.1 hy with rfl | hy
        · exact h2 _ (.head _)
        · rcases List.mem_cons.1 hy with rfl | hy
          · exact tr hp hm hx (h2 m (.head _)) (hf hx hm h)
          · exact h2 y (.tail _ hy)
theorem cons_drop {l : List (Int × Int)} (h : 0 < l.length) : l.getD 0 (0, 0) :: l.drop 1 = l := by
  match l, h with
  | x :: r, _ => rfl
theorem fle_trans {a b c : Int × Int} (ha : 0 < a.2) (hb : 0 < b.2) (hc : 0 < c.2) (h1 : fle a b) (h2 : fle b c) : fle a c := q_le ha hb hc h1 h2
theorem minF_is {l : List (Int × Int)} (h0 : 0 < l.length) (h : ∀ x ∈ l, 0 < x.2) : minF l ∈ l ∧ ∀ y ∈ l, fle (minF l) y := by
  have e := cons_drop h0
  have hm : 0 < (l.getD 0 (0, 0)).2 := h _ (getD_mem h0)
  have k := pick_ends (t := fun n => decide (n < 0)) (R := fle) (fun a => Int.le_refl _) fle_trans
    (fun {x m} hx hm ht => by have := of_decide_eq_true ht; unfold less2 at this; unfold fle; omega)
    (fun {x m} hx hm ht => by have := of_decide_eq_false ht; unfold less2 at this; unfold fle; omega)
    (l.drop 1) (l.getD 0 (0, 0)) hm (fun x hx => h x (List.mem_of_mem_drop hx))
  rw [e] at k
  exact k
theorem maxF_is {l : List (Int × Int)} (h0 : 0 < l.length) (h : ∀ x ∈ l, 0 < x.2) : maxF l ∈ l ∧ ∀ y ∈ l, fle y (maxF l) := by
  have e := cons_drop h0
  have hm : 0 < (l.getD 0 (0, 0)).2 := h _ (getD_mem h0)
  have k := pick_ends (t := fun n => decide (n > 0)) (R := fun a b => fle b a) (fun a => Int.le_refl _) (fun ha hb hc h1 h2 => fle_trans hc hb ha h2 h1)
    (fun {x m} hx hm ht => by have := of_decide_eq_true ht; unfold less2 at this; unfold fle; omega)
    (fun {x m} hx hm ht => by have := of_decide_eq_false ht; unfold less2 at this; unfold fle; omega)
    (l.drop 1) (l.getD 0 (0, 0)) hm (fun x hx => h x (List.mem_of_mem_drop hx))
  rw [e] at k
  exact k
theorem fracs_pos {l : List Rd} (h : RdLe l) (d : V3) : ∀ x ∈ fracs (vtx l) d, 0 < x.2 := fun x hx => by
  obtain ⟨v, hv, rfl⟩ := List.mem_map.1 hx
  exact (low_pos (cands_ok h v (vtx_mem.1 hv)).1.den).1
/-- The fraction of a vertex and that of its product. -/
theorem low_dot {v : WV} (hv : 0 < v.2.2.2) (d : V3) : (low (dot (wpt v) d) v.2.2.2).1 * v.2.2.2 = dot d (wpt v) * (low (dot (wpt v) d) v.2.2.2).2 := by
  rw [low_mul hv, dot_comm]
theorem span_lo {l : List Rd} (h : RdLe l) (h0 : 0 < (vtx l).length) (d : V3) : ∃ v ∈ vtx l, (spanW (vtx l) d).1 = low (dot (wpt v) d) v.2.2.2 ∧ ∀ w ∈ vtx l, (spanW (vtx l) d).1.1 * w.2.2.2 ≤ dot d (wpt w) * (spanW (vtx l) d).1.2 := by
  have hl : 0 < (fracs (vtx l) d).length := by simp [fracs]; exact h0
  obtain ⟨h1, h2⟩ := minF_is hl (fracs_pos h d)
  have hpos := fracs_pos h d _ h1
  obtain ⟨v, hv, e⟩ := List.mem_map.1 h1
  refine ⟨v, hv, e.symm, fun w hw => ?_⟩
  have hwd := (cands_ok h w (vtx_mem.1 hw)).1.den
  have k := h2 _ (List.mem_map.2 ⟨w, hw, rfl⟩)
  have kp := (low_pos (n := dot (wpt w) d) hwd).1
  exact q_le (b := (low (dot (wpt w) d) w.2.2.2).1) hpos kp hwd k (by rw [low_dot hwd]; exact Int.le_refl _)
theorem span_hi {l : List Rd} (h : RdLe l) (h0 : 0 < (vtx l).length) (d : V3) : ∃ v ∈ vtx l, (spanW (vtx l) d).2 = low (dot (wpt v) d) v.2.2.2 ∧ ∀ w ∈ vtx l, dot d (wpt w) * (spanW (vtx l) d).2.2 ≤ (spanW (vtx l) d).2.1 * w.2.2.2 := by
  have hl : 0 < (fracs (vtx l) d).length := by simp [fracs]; exact h0
  obtain ⟨h1, h2⟩ := maxF_is hl (fracs_pos h d)
  have hpos := fracs_pos h d _ h1
  obtain ⟨v, hv, e⟩ := List.mem_map.1 h1
  refine ⟨v, hv, e.symm, fun w hw => ?_⟩
  have hwd := (cands_ok h w (vtx_mem.1 hw)).1.den
  have k := h2 _ (List.mem_map.2 ⟨w, hw, rfl⟩)
  have kp := (low_pos (n := dot (wpt w) d) hwd).1
  exact q_le (b := (low (dot (wpt w) d) w.2.2.2).1) hwd kp hpos (by rw [low_dot hwd]; exact Int.le_refl _) k
/-- Whatever agrees lies in the range of a direction. -/
theorem span_le {l : List Rd} (h : RdOK l) (h3 : (rkOwn (l.map (·.1))).length = 3) {p : V3} {q : Int} (hq : 0 < q) (ha : agQ l p q) (d : V3) :
    0 < (vtx l).length ∧ (spanW (vtx l) d).1.1 * q ≤ dot d p * (spanW (vtx l) d).1.2 ∧ dot d p * (spanW (vtx l) d).2.2 ≤ (spanW (vtx l) d).2.1 * q := by
  obtain ⟨v, hv, hle⟩ := lp h h3 hq ha d
  obtain ⟨w, hw, hge⟩ := lp h h3 hq ha (neg3 d)
  have h0 : 0 < (vtx l).length := List.length_pos_of_mem hv
  have e : ∀ x : V3, dot (neg3 d) x = -dot d x := fun x => by rw [dot_comm, dot_neg3, dot_comm]
  rw [e, e] at hge
  have hge' : dot d p * w.2.2.2 ≤ dot d (wpt w) * q := by
    have h1 : -dot d (wpt w) * q = -(dot d (wpt w) * q) := by grind
    have h2 : -dot d p * w.2.2.2 = -(dot d p * w.2.2.2) := by grind
    omega
  have hvd := (cands_ok h.rdLe v (vtx_mem.1 hv)).1.den
  have hwd := (cands_ok h.rdLe w (vtx_mem.1 hw)).1.den
  obtain ⟨a, ma, ea, la⟩ := span_lo h.rdLe h0 d
  obtain ⟨b, mb, eb, lb⟩ := span_hi h.rdLe h0 d
  have pa : 0 < (spanW (vtx l) d).1.2 := by rw [ea]; exact (low_pos (cands_ok h.rdLe a (vtx_mem.1 ma)).1.den).1
  have pb : 0 < (spanW (vtx l) d).2.2 := by rw [eb]; exact (low_pos (cands_ok h.rdLe b (vtx_mem.1 mb)).1.den).1
  exact ⟨h0, q_le pa hvd hq (la v hv) hle, q_le hq hwd pb hge' (lb w hw)⟩
theorem agR_ok {l : List Rd} (h : RdLe l) {v : WV} (hv : V3.le (wpt v) 1000000000000) (h0 : 0 < v.2.2.2) (h9 : v.2.2.2 ≤ 1000000000) : l.all (agR · v) = true ↔ agQ l (wpt v) v.2.2.2 := by
  rw [List.all_eq_true]
  exact ⟨fun k r hr => (agR_iff (h.dir r hr) (h.rng r hr) hv h0 h9).1 (k r hr), fun k r hr => (agR_iff (h.dir r hr) (h.rng r hr) hv h0 h9).2 (k r hr)⟩
/-- What is so of a vertex. -/
structure Vtx (l : List Rd) (v : WV) : Prop where
  den : 0 < v.2.2.2
  le : v.2.2.2 ≤ 4374
  pt : V3.le (wpt v) 4860000
  low : gcdL [v.2.2.2, v.1, v.2.1, v.2.2.1] = 1
  all : l.all (agR · v) = true
  ag : agQ l (wpt v) v.2.2.2
theorem vtx_is {l : List Rd} (h : RdLe l) {v : WV} (hv : v ∈ vtx l) : Vtx l v := by
  have hc := vtx_mem.1 hv
  obtain ⟨⟨w1, w2⟩, w3, w4⟩ := cands_ok h v hc
  obtain ⟨a, b, c, e, _, _, _, _, _, _, hg⟩ := cands_mem.1 hc
  have w5 : V3.le (wpt v) 1000000000000 := by
    obtain ⟨p1, p2, p3⟩ := w4
    exact ⟨by omega, by omega, by omega⟩
  exact ⟨w1, w3, w4, w2, hg, (agR_ok h w5 w1 (by omega)).1 hg⟩
theorem agQ_sub {l l' : List Rd} (h : ∀ r ∈ l', r ∈ l) {p : V3} {q : Int} (ha : agQ l p q) : agQ l' p q := fun r hr => ha r (h r hr)
/-- Fewer readings: no smaller range. -/
theorem span_fewer {l l' : List Rd} (h : RdOK l) (h0 : 0 < (vtx l).length) (h' : RdOK l') (h3 : (rkOwn (l'.map (·.1))).length = 3) (hs : ∀ r ∈ l', r ∈ l) (d : V3) :
    (spanW (vtx l') d).1.1 * (spanW (vtx l) d).1.2 ≤ (spanW (vtx l) d).1.1 * (spanW (vtx l') d).1.2 ∧ (spanW (vtx l) d).2.1 * (spanW (vtx l') d).2.2 ≤ (spanW (vtx l') d).2.1 * (spanW (vtx l) d).2.2 := by
  obtain ⟨a, ma, ea, la⟩ := span_lo h.rdLe h0 d
  obtain ⟨b, mb, eb, lb⟩ := span_hi h.rdLe h0 d
  have va := vtx_is h.rdLe ma
  have vb := vtx_is h.rdLe mb
  obtain ⟨h0', k1, _⟩ := span_le h' h3 va.den (agQ_sub hs va.ag) d
  obtain ⟨_, _, k2⟩ := span_le h' h3 vb.den (agQ_sub hs vb.ag) d
  obtain ⟨x, mx, ex, _⟩ := span_lo h'.rdLe h0' d
  obtain ⟨y, my, ey, _⟩ := span_hi h'.rdLe h0' d
  have px : 0 < (spanW (vtx l') d).1.2 := by rw [ex]; exact (low_pos (vtx_is h'.rdLe mx).den).1
  have py : 0 < (spanW (vtx l') d).2.2 := by rw [ey]; exact (low_pos (vtx_is h'.rdLe my).den).1
  have pa : 0 < (spanW (vtx l) d).1.2 := by rw [ea]; exact (low_pos va.den).1
  have pb : 0 < (spanW (vtx l) d).2.2 := by rw [eb]; exact (low_pos vb.den).1
  refine ⟨q_le px va.den pa k1 ?_, q_le pb vb.den py ?_ k2⟩
  · have := low_dot va.den d
    rw [ea, ← this]; exact Int.le_refl _
  · have := low_dot vb.den d
    rw [eb, this]; exact Int.le_refl _
/-- Rounded outwards. -/
theorem floor_out {n d m k : Int} (hd : 0 < d) (hk : 0 < k) (h : n * k ≤ m * d) : n / d * k ≤ m := by
  have h1 : n / d * d ≤ n := Int.ediv_mul_le _ (by omega)
  refine Int.le_of_mul_le_mul_right (a := d) ?_ hd
  have h2 : n / d * d * k ≤ n * k := Int.mul_le_mul_of_nonneg_right h1 (by omega)
  have e : n / d * k * d = n / d * d * k := by grind
  omega
theorem ceil_out {n d m k : Int} (hd : 0 < d) (hk : 0 < k) (h : m * d ≤ n * k) : m ≤ -(-n / d) * k := by
  have := floor_out (n := -n) (m := -m) hd hk (by
    have e1 : -n * k = -(n * k) := by grind
    have e2 : -m * d = -(m * d) := by grind
    omega)
  have e : -(-n / d) * k = -(-n / d * k) := by grind
  omega
theorem rdOf_all {l : List Rd} (h : (rdOf l).2 = 0) : ∀ r ∈ l, rdE r = 0 := by
  unfold rdOf at h
  split at h
  · simp at h
  · split at h
    · simp at h
    · intro r hr
      obtain ⟨i, hi, e⟩ := List.getElem_of_mem hr
      have := eachE_zero h i hi
      rwa [getD_lt hi, e] at this
theorem rdOf_none {l : List Rd} (h0 : 0 < l.length) (h6 : l.length ≤ 6) (h : ∀ r ∈ l, rdE r = 0) : rdOf l = (0, 0) := by
  unfold rdOf
  rw [if_neg (by omega), if_neg (by omega)]
  exact eachE_none fun i hi => h _ (getD_mem hi)
theorem windE_of {v : WV} (h1 : 1 ≤ v.2.2.2 ∧ v.2.2.2 ≤ 1000000000) (h2 : V3.le (wpt v) 1000000000000) (h3 : gcdL [v.2.2.2, v.1, v.2.1, v.2.2.1] = 1) : windE v = 0 := by
  unfold windE
  rw [if_neg (fun hh => hh ⟨h1, h2⟩), if_pos h3]
theorem Vtx.big {l : List Rd} {v : WV} (h : Vtx l v) : V3.le (wpt v) 1000000000000 := by
  obtain ⟨p1, p2, p3⟩ := h.pt
  exact ⟨by omega, by omega, by omega⟩
theorem Vtx.windE {l : List Rd} {v : WV} (h : Vtx l v) : windE v = 0 := windE_of ⟨h.den, by have := h.le; omega⟩ h.big h.low
theorem sgn_pos {n : Int} : sgn n > 0 ↔ n > 0 := by
  unfold sgn
  split
  · omega
  · split <;> omega
theorem sgn_nonneg {n : Int} : sgn n ≥ 0 ↔ n ≥ 0 := by
  unfold sgn
  split
  · omega
  · split <;> omega
theorem sgn_nonpos {n : Int} : sgn n ≤ 0 ↔ n ≤ 0 := by
  unfold sgn
  split
  · omega
  · split <;> omega
theorem rangeW_is {l : List Rd} {d : V3} (h1 : (rdOf l).2 = 0) (h2 : dirE d = 0) (h3 : (rkOwn (l.map (·.1))).length = 3) : rangeW l d = if (vtx l).length = 0 then (no4, 12) else (spanW (vtx l) d, 0) := by
  unfold rangeW
  rw [if_neg (fun hh => hh h1), if_neg (fun hh => hh h2), if_neg (fun hh => hh h3)]
theorem headW_is {l : List Rd} {d : V3} (h1 : (rdOf l).2 = 0) (h2 : dirE d = 0) (h3 : (rkOwn (l.map (·.1))).length = 3) (h4 : 0 < (vtx l).length) : headW l d = (((spanW (vtx l) d).1.1 / (spanW (vtx l) d).1.2, -(-(spanW (vtx l) d).2.1 / (spanW (vtx l) d).2.2)), 0) := by
  have e : rangeW l d = (spanW (vtx l) d, 0) := by rw [rangeW_is h1 h2 h3, if_neg (by omega)]
  unfold headW
  rw [e]
  exact if_neg (fun hh => hh rfl)
/-- The ends of a box. -/
theorem box_le {l : List Rd} (h : RdOK l) (h3 : (rkOwn (l.map (·.1))).length = 3) {p : V3} {q : Int} (hq : 0 < q) (ha : agQ l p q) (d : V3) :
    (spanW (vtx l) d).1.1 / (spanW (vtx l) d).1.2 * q ≤ dot d p ∧ dot d p ≤ -(-(spanW (vtx l) d).2.1 / (spanW (vtx l) d).2.2) * q := by
  obtain ⟨h0, k1, k2⟩ := span_le h h3 hq ha d
  obtain ⟨a, ma, ea, la⟩ := span_lo h.rdLe h0 d
  obtain ⟨b, mb, eb, lb⟩ := span_hi h.rdLe h0 d
  have pa : 0 < (spanW (vtx l) d).1.2 := by rw [ea]; exact (low_pos (vtx_is h.rdLe ma).den).1
  have pb : 0 < (spanW (vtx l) d).2.2 := by rw [eb]; exact (low_pos (vtx_is h.rdLe mb).den).1
  exact ⟨floor_out pa hq k1, ceil_out pb hq k2⟩
theorem take_sub {l : List Rd} {n : Nat} : ∀ r ∈ (l.take n).drop 0, r ∈ l := fun r hr => List.mem_of_mem_take (by simpa using hr)
end Go.Pi
