/- What functions of the program compute, each proved once, part 13. -/
import Derived.Test.YtglijnhkdnhofaaGreatPiD
import Derived.Test.YtglijnhkdnhofaaGreatFnA
import Derived.Test.YtglijnhkdnhofaaGreatFnC
import Derived.Test.YtglijnhkdnhofaaGreatFnG
import Derived.Test.YtglijnhkdnhofaaGreatFnL
import Derived.Test.YtglijnhkdnhofaaGreatFnI
import Derived.Test.YtglijnhkdnhofaaGreatFnK

section
namespace Go.Proofs.YtglijnhkdnhofaaGreat
open Go Go.Pi Go.RowKit
set_option maxRecDepth 100000
set_option linter.unusedVariables false
set_option linter.unusedSimpArgs false

def conW (l : List Rd) : (List Int × List Int) × Int := if (rdOf l).2 ≠ 0 then (([], []), (rdOf l).2) else match conL l with
  | some x => ((x.1.map (fun n : Nat => (n : Int)), x.2), 0)
  | none => (([], []), 12)
def f21 (x : List ((Int × Int × Int) × Int × Int)) : (List Int × List Int) × Int := conW x
abbrev Kr := List Int × Bool → Prop
def chk (b : Bool) : Nat → Prop → Prop
  | 0, X => X
  | n + 1, X => br b (chk b n X) False
def DN (K : Kr) (l : List Int) (t : Int) : Prop := br (decide (t < 0))
  (chk (!(decide ((IntKind.i64.wrap (0 - (f126 l))) = 0))) l.length (K (l.map (fun n => IntKind.i64.wrap (n.tdiv (IntKind.i64.wrap (0 - (f126 l))))), true)))
  (chk (!(decide ((f126 l) = 0))) l.length (K (l.map (fun n => IntKind.i64.wrap (n.tdiv (f126 l))), true)))
def SN (K : Kr) (l : List Int) : List Int → Prop
  | [] => False
  | t :: r => br (t != 0) (DN K l t) (SN K l r)
def NN (K : Kr) (l : List Int) : Prop := f126_pre l ∧ br ((f126 l) == 0) (K ([], false)) (SN K l l)
def M3 (K : Kr) (x y z : Int) (J : Prop) : Prop := br (x != 0) (NN K [x, y, z]) (br (y != 0) (NN K [x, y, z]) (br (z != 0) (NN K [x, y, z]) J))
def R2 (K : Kr) (a b : V3) : Prop := br (!(((f120 (a, b)).1 == 0) && (((f120 (a, b)).2.1 == 0) && (((f120 (a, b)).2.2 == 0) && true)))) (K ([], false))
  (br (a.1 != 0) (NN K [b.1, IntKind.i64.wrap (0 - a.1)]) (br (a.2.1 != 0) (NN K [b.2.1, IntKind.i64.wrap (0 - a.2.1)]) (br (a.2.2 != 0) (NN K [b.2.2, IntKind.i64.wrap (0 - a.2.2)]) False)))
def R3 (K : Kr) (a b c : V3) : Prop := br ((f109 (a, b, c)) != 0) (K ([], false))
  (M3 K (f120 (b, c)).1 (f120 (c, a)).1 (f120 (a, b)).1 (M3 K (f120 (b, c)).2.1 (f120 (c, a)).2.1 (f120 (a, b)).2.1 (M3 K (f120 (b, c)).2.2 (f120 (c, a)).2.2 (f120 (a, b)).2.2 (NN K []))))
def r4 (s : Int) (B : List V3) : Int := IntKind.i64.wrap (s * (f109 (B.getD 0 (0, 0, 0), B.getD 1 (0, 0, 0), B.getD 2 (0, 0, 0))))
def R4 (K : Kr) (a b c d : V3) : Prop :=
  f136_pre [[], [b, c, d]] ∧ br (decide (3 ≤ (f136 [[], [b, c, d]]).length)) (f136_pre [[a], [c, d]] ∧ br (decide (3 ≤ (f136 [[a], [c, d]]).length)) (f136_pre [[a, b], [d]] ∧ br (decide (3 ≤ (f136 [[a, b], [d]]).length))
    (f136_pre [[a, b, c], []] ∧ br (decide (3 ≤ (f136 [[a, b, c], []]).length)) (NN K [r4 1 (f136 [[], [b, c, d]]), r4 (-1) (f136 [[a], [c, d]]), r4 1 (f136 [[a, b], [d]]), r4 (-1) (f136 [[a, b, c], []])]) False) False) False) False
def kk (a0 : List ((Int × Int × Int) × Int × Int)) (K : (List Int × List Int) × Int → Prop) (s : List Int) (again : Prop) (p : List Int × Bool) : Prop := match p.2 with
  | true => f80_pre s ∧ f82_pre (a0, (f80 s, p.1)) ∧ br (f81 (f82 (a0, (f80 s, p.1)))) (K ((f80 s, p.1), 0)) again
  | false => f80_pre s ∧ again
def dv (a0 : List ((Int × Int × Int) × Int × Int)) (i : Int) : V3 := (a0.getD i.toNat ((0, 0, 0), 0, 0)).1
def ib (a0 : List ((Int × Int × Int) × Int × Int)) (i : Int) (X : Prop) : Prop := br (decide (0 ≤ i) && decide (i < ((a0.length) : Int))) X False
def up (a0 : List ((Int × Int × Int) × Int × Int)) (m : Int) (body : Int → Prop → Prop) (end_ : Prop) : Prop :=
  LoopP (V := Int × Unit) (fun again v => br (decide (v.1 < ((a0.length) : Int))) (body v.1 (again (IntKind.i64.wrap (v.1 + 1), ()))) end_) (m, ())
/-! ### what these come to -/
theorem chk_ok {b : Bool} {X : Prop} (hb : b = true) (h : X) : ∀ n, chk b n X
  | 0 => h
  | n + 1 => br_must hb (chk_ok hb h n)
theorem wneg {n : Int} (h : Fit n) : IntKind.i64.wrap (0 - n) = -n := by rw [show IntKind.i64.wrap (0 - n) = 0 - n from w64_in (by have := h.2; omega) (by have := h.1; omega)]; omega
theorem DN_ok {K : Kr} {l : List Int} {t : Int} (hf : ∀ n ∈ l, Fit n) (hg : gcdL l ≠ 0) (ht : t = fstN l) (hK : K (nrm l, true)) : DN K l t := by
  have e : f126 l = (gcdL l : Int) := rfl
  have hle := gcdL_fit hf
  have hn : IntKind.i64.wrap (0 - (gcdL l : Int)) = -(gcdL l : Int) := wneg ⟨by omega, by omega⟩
  unfold DN
  rw [e, hn]
  refine br_if (fun h => chk_ok (by simp; omega) ?_ _) fun h => chk_ok (by simp; omega) ?_ _
  · have es : sgL l = -(gcdL l : Int) := by unfold sgL; rw [if_pos (by omega)]
    have : (l.map fun n => IntKind.i64.wrap (n.tdiv (-(gcdL l : Int)))) = nrm l := by
      unfold nrm
      rw [es]
      exact List.map_congr_left fun n hn => w64_fit (tdiv_fit (hf n hn))
    rw [this]; exact hK
  · have es : sgL l = (gcdL l : Int) := by unfold sgL; rw [if_neg (by omega)]
    have : (l.map fun n => IntKind.i64.wrap (n.tdiv (gcdL l : Int))) = nrm l := by
      unfold nrm
      rw [es]
      exact List.map_congr_left fun n hn => w64_fit (tdiv_fit (hf n hn))
    rw [this]; exact hK
theorem SN_ok {K : Kr} {l : List Int} (hf : ∀ n ∈ l, Fit n) (hg : gcdL l ≠ 0) (hK : K (nrm l, true)) : ∀ r : List Int, fstN r = fstN l → fstN r ≠ 0 → SN K l r
  | [], _, h0 => absurd rfl h0
  | t :: r, h, h0 => by
    refine br_two (fun ht => DN_ok hf hg ?_ hK) fun ht => SN_ok hf hg hK r ?_ ?_
    · rw [← h]; unfold fstN; rw [List.find?_cons, ht]
    · rw [← h]
      have ht := bne_f.1 ht
      subst ht
      unfold fstN; rw [List.find?_cons]; simp
    · have ht := bne_f.1 ht
      subst ht
      intro hh
      refine h0 ?_
      unfold fstN at hh ⊢; rw [List.find?_cons]; simpa using hh
theorem NN_ok {K : Kr} {l : List Int} (hf : ∀ n ∈ l, Fit n) (hK : K (if gcdL l = 0 then ([], false) else (nrm l, true))) : NN K l := by
  have e : f126 l = (gcdL l : Int) := rfl
  refine ⟨hf, br_two (fun h => ?_) fun h => ?_⟩
  · rw [e, beq_iff_eq] at h
    rw [if_pos (by omega)] at hK; exact hK
  · have hg : gcdL l ≠ 0 := fun hh => by rw [e, hh] at h; cases h
    rw [if_neg hg] at hK
    exact SN_ok hf hg hK l rfl fun hh => hg (gcdL_zero.2 (fstN_zero hh))
theorem v3f {v : V3} {m : Int} (h : V3.le v m) (hm : m ≤ 9223372036854775807) : Fit v.1 ∧ Fit v.2.1 ∧ Fit v.2.2 := ⟨fit_le h.1 hm, fit_le h.2.1 hm, fit_le h.2.2 hm⟩
theorem all2 {P : Int → Prop} {a b : Int} (ha : P a) (hb : P b) : ∀ n ∈ [a, b], P n := fun n hn => by
  simp only [List.mem_cons, List.not_mem_nil, or_false] at hn
  rcases hn with rfl | rfl
  · exact ha
  · exact hb
theorem all3 {P : Int → Prop} {a b c : Int} (ha : P a) (hb : P b) (hc : P c) : ∀ n ∈ [a, b, c], P n := fun n hn => by
  simp only [List.mem_cons, List.not_mem_nil, or_false] at hn
  rcases hn with rfl | rfl | rfl
  · exact ha
  · exact hb
  · exact hc
theorem all4 {P : Int → Prop} {a b c d : Int} (ha : P a) (hb : P b) (hc : P c) (hd : P d) : ∀ n ∈ [a, b, c, d], P n := fun n hn => by
  simp only [List.mem_cons, List.not_mem_nil, or_false] at hn
  rcases hn with rfl | rfl | rfl | rfl
  · exact ha
  · exact hb
  · exact hc
  · exact hd
theorem R2_ok {K : Kr} {a b : V3} (ha : V3.le a 9) (hb : V3.le b 9) (hz : a ≠ z3) (hK : K (relL [a, b])) : R2 K a b := by
  have e : f120 (a, b) = cross a b := cr_w ha hb
  have er : relL [a, b] = if gcdL (raw2 a b) = 0 then ([], false) else (nrm (raw2 a b), true) := rfl
  obtain ⟨a1, a2, a3⟩ := v3f ha (by omega)
  obtain ⟨b1, b2, b3⟩ := v3f hb (by omega)
  have n1 : Fit (-a.1) := ⟨by have := a1.2; omega, by have := a1.1; omega⟩
  have n2 : Fit (-a.2.1) := ⟨by have := a2.2; omega, by have := a2.1; omega⟩
  have n3 : Fit (-a.2.2) := ⟨by have := a3.2; omega, by have := a3.1; omega⟩
  unfold R2
  rw [e, v3_z, wneg a1, wneg a2, wneg a3]
  rw [er] at hK
  by_cases hc : cross a b = z3
  · have hr : raw2 a b = if a.1 ≠ 0 then [b.1, -a.1] else if a.2.1 ≠ 0 then [b.2.1, -a.2.1] else [b.2.2, -a.2.2] := by rw [raw2, if_neg (fun hh => hh hc)]
    refine br_two (fun h => by rw [decide_eq_true hc] at h; cases h) fun _ => br_two (fun h => NN_ok (all2 b1 n1) ?_) fun h => br_two (fun h' => NN_ok (all2 b2 n2) ?_) fun h' => br_two (fun h'' => NN_ok (all2 b3 n3) ?_) fun h'' => ?_
    · rw [show raw2 a b = [b.1, -a.1] by rw [hr, if_pos (bne_iff_ne.1 h)]] at hK; exact hK
    · rw [show raw2 a b = [b.2.1, -a.2.1] by rw [hr, if_neg (fun hh => hh (bne_f.1 h)), if_pos (bne_iff_ne.1 h')]] at hK; exact hK
    · rw [show raw2 a b = [b.2.2, -a.2.2] by rw [hr, if_neg (fun hh => hh (bne_f.1 h)), if_neg (fun hh => hh (bne_f.1 h'))]] at hK; exact hK
    · rcases v3_ne hz with k | k | k
      · exact k (bne_f.1 h)
      · exact k (bne_f.1 h')
      · exact k (bne_f.1 h'')
  · have hr : raw2 a b = [] := by rw [raw2, if_pos hc]
    rw [hr] at hK
    exact br_two (fun _ => hK) fun h => by rw [decide_eq_false hc] at h; cases h
theorem M3_ok {K : Kr} {x y z : Int} {J : Prop} (h : ∀ n ∈ [x, y, z], Fit n) (h1 : (x ≠ 0 ∨ y ≠ 0 ∨ z ≠ 0) → K (if gcdL [x, y, z] = 0 then ([], false) else (nrm [x, y, z], true))) (h2 : ¬ (x ≠ 0 ∨ y ≠ 0 ∨ z ≠ 0) → J) : M3 K x y z J :=
  br_two (fun k => NN_ok h (h1 (.inl (bne_iff_ne.1 k)))) fun k => br_two (fun k' => NN_ok h (h1 (.inr (.inl (bne_iff_ne.1 k'))))) fun k' => br_two (fun k'' => NN_ok h (h1 (.inr (.inr (bne_iff_ne.1 k''))))) fun k'' => h2 (by have := bne_f.1 k; have := bne_f.1 k'; have := bne_f.1 k''; omega)
theorem R3_ok {K : Kr} {a b c : V3} (ha : V3.le a 9) (hb : V3.le b 9) (hc : V3.le c 9) (hK : K (relL [a, b, c])) : R3 K a b c := by
  have e1 : f120 (b, c) = cross b c := cr_w hb hc
  have e2 : f120 (c, a) = cross c a := cr_w hc ha
  have e3 : f120 (a, b) = cross a b := cr_w ha hb
  have e4 : f109 (a, b, c) = det a b c := det_w ha hb hc
  have er : relL [a, b, c] = if gcdL (raw3 a b c) = 0 then ([], false) else (nrm (raw3 a b c), true) := rfl
  obtain ⟨p1, p2, p3⟩ := v3f (cross_le hb hc) (by omega)
  obtain ⟨q1, q2, q3⟩ := v3f (cross_le hc ha) (by omega)
  obtain ⟨r1, r2, r3⟩ := v3f (cross_le ha hb) (by omega)
  unfold R3
  rw [e1, e2, e3, e4]
  rw [er] at hK
  by_cases hd : det a b c = 0
  · have hr : raw3 a b c = if (cross b c).1 ≠ 0 ∨ (cross c a).1 ≠ 0 ∨ (cross a b).1 ≠ 0 then [(cross b c).1, (cross c a).1, (cross a b).1] else
      if (cross b c).2.1 ≠ 0 ∨ (cross c a).2.1 ≠ 0 ∨ (cross a b).2.1 ≠ 0 then [(cross b c).2.1, (cross c a).2.1, (cross a b).2.1] else
      if (cross b c).2.2 ≠ 0 ∨ (cross c a).2.2 ≠ 0 ∨ (cross a b).2.2 ≠ 0 then [(cross b c).2.2, (cross c a).2.2, (cross a b).2.2] else [] := by rw [raw3, if_neg (fun hh => hh hd)]
    refine br_two (fun h => absurd hd (bne_iff_ne.1 h)) fun _ => M3_ok (all3 p1 q1 r1) (fun h => ?_) fun h => M3_ok (all3 p2 q2 r2) (fun h' => ?_) fun h' => M3_ok (all3 p3 q3 r3) (fun h'' => ?_) fun h'' => NN_ok (fun n hn => by cases hn) ?_
    · rw [show raw3 a b c = [(cross b c).1, (cross c a).1, (cross a b).1] by rw [hr, if_pos h]] at hK; exact hK
    · rw [show raw3 a b c = [(cross b c).2.1, (cross c a).2.1, (cross a b).2.1] by rw [hr, if_neg h, if_pos h']] at hK; exact hK
    · rw [show raw3 a b c = [(cross b c).2.2, (cross c a).2.2, (cross a b).2.2] by rw [hr, if_neg h, if_neg h', if_pos h'']] at hK; exact hK
    · rw [show raw3 a b c = [] by rw [hr, if_neg h, if_neg h', if_neg h'']] at hK; exact hK
  · have hr : raw3 a b c = [] := by rw [raw3, if_pos hd]
    rw [hr] at hK
    exact br_two (fun _ => hK) fun h => absurd (bne_f.1 h) hd
theorem R4_ok {K : Kr} {a b c d : V3} (ha : V3.le a 9) (hb : V3.le b 9) (hc : V3.le c 9) (hd : V3.le d 9) (hK : K (relL [a, b, c, d])) : R4 K a b c d := by
  have k1 := det_le hb hc hd
  have k2 := det_le ha hc hd
  have k3 := det_le ha hb hd
  have k4 := det_le ha hb hc
  have e1 : r4 1 (f136 [[], [b, c, d]]) = det b c d := by
    show IntKind.i64.wrap (1 * w64 (det b c d)) = _
    rw [det_w hb hc hd, Int.one_mul]; exact w64_in (by omega) (by omega)
  have e2 : r4 (-1) (f136 [[a], [c, d]]) = -det a c d := by
    show IntKind.i64.wrap (-1 * w64 (det a c d)) = _
    rw [det_w ha hc hd, show -1 * det a c d = -det a c d by omega]; exact w64_in (by omega) (by omega)
  have e3 : r4 1 (f136 [[a, b], [d]]) = det a b d := by
    show IntKind.i64.wrap (1 * w64 (det a b d)) = _
    rw [det_w ha hb hd, Int.one_mul]; exact w64_in (by omega) (by omega)
  have e4 : r4 (-1) (f136 [[a, b, c], []]) = -det a b c := by
    show IntKind.i64.wrap (-1 * w64 (det a b c)) = _
    rw [det_w ha hb hc, show -1 * det a b c = -det a b c by omega]; exact w64_in (by omega) (by omega)
  unfold R4
  rw [e1, e2, e3, e4]
  have l1 : (f136 [[], [b, c, d]]).length = 3 := rfl
  have l2 : (f136 [[a], [c, d]]).length = 3 := rfl
  have l3 : (f136 [[a, b], [d]]).length = 3 := rfl
  have l4 : (f136 [[a, b, c], []]).length = 3 := rfl
  refine ⟨⟨by simp, by simp⟩, br_must (by rw [l1]; rfl) ⟨⟨by simp, by simp⟩, br_must (by rw [l2]; rfl) ⟨⟨by simp, by simp⟩, br_must (by rw [l3]; rfl) ⟨⟨by simp, by simp⟩, br_must (by rw [l4]; rfl) ?_⟩⟩⟩⟩
  exact NN_ok (all4 ⟨by omega, by omega⟩ ⟨by omega, by omega⟩ ⟨by omega, by omega⟩ ⟨by omega, by omega⟩) hK
/-- A loop over the readings that looks for the first of something. -/
theorem up_ok {a0 : List Rd} (hl : a0.length ≤ 6) {α : Type} {g : Nat → Option α} {Q : α → Prop} {m : Nat} {body : Int → Prop → Prop} {end_ : Prop} (hm : m ≤ a0.length)
    (hb : ∀ (i : Nat) (X : Prop), m ≤ i → i < a0.length → (∀ x, g i = some x → Q x) → (g i = none → X) → body (i : Int) X) (h1 : ∀ x, fR m a0.length g = some x → Q x) (h2 : fR m a0.length g = none → end_) : up a0 (m : Int) body end_ := by
  unfold up
  refine LoopP.upFrom (m : Int) (a0.length : Int) (fun i _ => ∀ j : Nat, m ≤ j → (j : Int) < i → g j = none) (fun again i v h0 hn hI hag => ?_) (fun j h3 h4 => by omega)
  obtain ⟨k, rfl⟩ := Int.eq_ofNat_of_zero_le (show 0 ≤ i by omega)
  dsimp only
  refine br_if (fun hlt => ?_) fun hge => ?_
  · refine hb k _ (by omega) (by omega) (fun x hx => h1 x ?_) fun hnone => ?_
    · cases hf : fR m a0.length g with
      | none => rw [fR_none.1 hf k (by omega) (by omega)] at hx; cases hx
      | some y =>
        obtain ⟨i, q1, q2, q3, q4⟩ := fR_some hf
        have : i = k := by
          rcases Nat.lt_trichotomy i k with h | h | h
          · rw [hI i q1 (by omega)] at q3; cases q3
          · exact h
          · rw [q4 k (by omega) h] at hx; cases hx
        subst this
        rw [q3] at hx
        exact hx ▸ rfl
    · rw [wr (by omega) (by omega)]
      refine hag () hlt fun j h3 h4 => ?_
      by_cases e : j = k
      · subst e; exact hnone
      · exact hI j h3 (by omega)
  · refine h2 (fR_none.2 fun j h3 h4 => hI j h3 (by omega))
theorem raw_le {l : List V3} (h : ∀ v ∈ l, V3.le v 9) : ∀ n ∈ raw l, -4374 ≤ n ∧ n ≤ 4374 := by
  match l, h with
  | [], _ => intro n hn; cases hn
  | [_], _ => intro n hn; cases hn
  | [a, b], h =>
    have ha := h a (by simp)
    have hb := h b (by simp)
    obtain ⟨a1, a2, a3⟩ := ha
    obtain ⟨b1, b2, b3⟩ := hb
    show ∀ n ∈ raw2 a b, _
    unfold raw2
    split
    · intro n hn; cases hn
    · split
      · exact all2 (by omega) (by omega)
      · split
        · exact all2 (by omega) (by omega)
        · exact all2 (by omega) (by omega)
  | [a, b, c], h =>
    have ha := h a (by simp)
    have hb := h b (by simp)
    have hc := h c (by simp)
    obtain ⟨p1, p2, p3⟩ := cross_le hb hc
    obtain ⟨q1, q2, q3⟩ := cross_le hc ha
    obtain ⟨r1, r2, r3⟩ := cross_le ha hb
    show ∀ n ∈ raw3 a b c, _
    unfold raw3
    split
    · intro n hn; cases hn
    · split
      · exact all3 (by omega) (by omega) (by omega)
      · split
        · exact all3 (by omega) (by omega) (by omega)
        · split
          · exact all3 (by omega) (by omega) (by omega)
          · intro n hn; cases hn
  | [a, b, c, d], h =>
    have ha := h a (by simp)
    have hb := h b (by simp)
    have hc := h c (by simp)
    have hd := h d (by simp)
    have k1 := det_le hb hc hd
    have k2 := det_le ha hc hd
    have k3 := det_le ha hb hd
    have k4 := det_le ha hb hc
    exact all4 (by omega) (by omega) (by omega) (by omega)
  | _ :: _ :: _ :: _ :: _ :: _, _ => intro n hn; cases hn
theorem relL_le {l : List V3} (h : ∀ v ∈ l, V3.le v 9) : ∀ n ∈ (relL l).1, -1000000000 ≤ n ∧ n ≤ 1000000000 := fun n hn => by
  unfold relL at hn
  split at hn
  · cases hn
  · obtain ⟨m, hm, rfl⟩ := List.mem_map.1 hn
    have h1 := raw_le h m hm
    have h2 := tdiv_size (d := sgL (raw l)) (m := 4374) h1
    omega
theorem kk_ok {a0 : List Rd} {K : (List Int × List Int) × Int → Prop} {s : List Nat} {Y : Prop} (rok : RdOK a0) (hs : Asc3 a0.length s) (h0 : 2 ≤ s.length) (h4 : s.length ≤ 4)
    (h1 : ∀ x, tS a0 s = some x → K ((x.1.map (fun n : Nat => (n : Int)), x.2), 0)) (h2 : tS a0 s = none → Y) : kk a0 K (s.map (fun n : Nat => (n : Int))) Y (relL (dirs (pick3 a0 s))) := by
  have hl : (s.map (fun n : Nat => (n : Int))).length = s.length := List.length_map _
  have p92 : f80_pre (s.map (fun n : Nat => (n : Int))) := ⟨by omega, by omega⟩
  have e92 : f80 (s.map (fun n : Nat => (n : Int))) = s.map (fun n : Nat => (n : Int)) := rfl
  have hd : ∀ v ∈ dirs (pick3 a0 s), V3.le v 9 := fun v hv => by
    obtain ⟨r, hr, rfl⟩ := List.mem_map.1 hv
    exact (rok.dir r (pick3_mem hs r hr)).1
  have ep : pickI a0 (s.map (fun n : Nat => (n : Int))) = pick3 a0 s := by
    unfold pickI pick3
    rw [List.map_map]
    rfl
  have eT : tS a0 s = if (relL (dirs (pick3 a0 s))).2 = true ∧ apart (totL (pick3 a0 s) (relL (dirs (pick3 a0 s))).1) = true then some (s, (relL (dirs (pick3 a0 s))).1) else none := by
    unfold tS T
    split <;> rfl
  have hle := relL_le hd
  have hlen : (relL (dirs (pick3 a0 s))).2 = true → (relL (dirs (pick3 a0 s))).1.length = s.length := fun h => by
    have := (relL_is h).len
    rw [this]; unfold dirs; rw [List.length_map, pick3_len]
  unfold kk
  generalize relL (dirs (pick3 a0 s)) = p at *
  obtain ⟨f, ok⟩ := p
  cases ok with
  | false =>
    rw [if_neg (fun hh => by cases hh.1)] at eT
    exact ⟨p92, h2 eT⟩
  | true =>
    have hlen := hlen rfl
    dsimp only at *
    have tk : TotOK a0 (s.map (fun n : Nat => (n : Int))) f := ⟨by omega, by omega, fun n hn => by
      obtain ⟨i, hi, rfl⟩ := List.mem_map.1 hn
      have := hs.2 i hi
      omega, hle, fun r hr => by have := rok.rng r hr; omega⟩
    have e94 : f82 (a0, s.map (fun n : Nat => (n : Int)), f) = totL (pick3 a0 s) f := by
      show totL (pickI a0 (s.map (fun n : Nat => (n : Int)))) f = _
      rw [ep]
    have e93 : ∀ r, f81 r = apart r := fun _ => rfl
    rw [e92, e94, e93]
    refine ⟨p92, tk, br_two (fun h => ?_) fun h => ?_⟩
    · rw [if_pos ⟨rfl, h⟩] at eT
      exact h1 _ eT
    · rw [if_neg (fun hh => by rw [h] at hh; cases hh.2)] at eT
      exact h2 eT
def f21_e : Entry := { doms := [(false, (.sl (.pair (.pair (.int .i64) (.pair (.int .i64) (.int .i64))) (.pair (.int .i64) (.int .i64)))))], cods := [(true, (.pair (.sl (.int .i64)) (.sl (.int .i64)))), (false, (.int .i64))], pre := fun _ => True, fn := f21, uq := false, total := true }
def f21_E : Env := [(77, f77_e), (80, f80_e), (81, f81_e), (82, f82_e), (109, f109_e), (120, f120_e), (126, f126_e), (136, f136_e)]
def f21_A : Anns := { loops := [(1267650600230247024025372983296, { tms := [(0, .keep), (1, .keep), (2, .keep), (3, .keep), (11, .data false (.int .i64))], obs := [(1048576, .keep), (1048577, .keep), (1048578, .keep), (1208925819615736205672448, .keep), (1208925819615736205672449, .keep)], fz := [] }),
  (1267650600231399945529979830272, { tms := [(0, .keep), (1, .keep), (2, .keep), (3, .keep), (11, .data false (.int .i64))], obs := [(1048576, .keep), (1048577, .keep), (1048578, .keep), (1208925819615736205672448, .keep), (1208925819615736205672449, .keep), (1208925819616835717300224, .keep), (1208925819616835717300225, .keep)], fz := [] }),
  (1267650600232552867034586677248, { tms := [(0, .keep), (1, .keep), (2, .keep), (3, .keep), (11, .data false (.int .i64))], obs := [(1048576, .keep), (1048577, .keep), (1048578, .keep), (1208925819615736205672448, .keep), (1208925819615736205672449, .keep), (1208925819616835717300224, .keep), (1208925819616835717300225, .keep), (1208925819617935228928000, .keep), (1208925819617935228928001, .keep)], fz := [] }),
  (1329227995787031503464429512078393344, { tms := [(0, .keep), (1, .keep), (2, .keep), (3, .keep), (11, .data false (.int .i64))], obs := [(1048576, .keep), (1048577, .keep), (1048578, .keep), (1208925819615736205672448, .keep), (1208925819615736205672449, .keep)], fz := [] }),
  (1329227995788240429284044141253099520, { tms := [(0, .keep), (1, .keep), (2, .keep), (3, .keep), (11, .data false (.int .i64))], obs := [(1048576, .keep), (1048577, .keep), (1048578, .keep), (1208925819615736205672448, .keep), (1208925819615736205672449, .keep), (1208925819616835717300224, .keep), (1208925819616835717300225, .keep)], fz := [] }),
  (1329227995789449355103658770427805696, { tms := [(0, .keep), (1, .keep), (2, .keep), (3, .keep), (11, .data false (.int .i64))], obs := [(1048576, .keep), (1048577, .keep), (1048578, .keep), (1208925819615736205672448, .keep), (1208925819615736205672449, .keep), (1208925819616835717300224, .keep), (1208925819616835717300225, .keep), (1208925819617935228928000, .keep), (1208925819617935228928001, .keep)], fz := [] }),
  (1393796574911649996376945869458620828090368, { tms := [(0, .keep), (1, .keep), (2, .keep), (3, .keep), (11, .data false (.int .i64))], obs := [(1048576, .keep), (1048577, .keep), (1048578, .keep), (1208925819615736205672448, .keep), (1208925819615736205672449, .keep), (1208925819616835717300224, .keep), (1208925819616835717300225, .keep)], fz := [] }),
  (1393796574912917646977174098860117531295744, { tms := [(0, .keep), (1, .keep), (2, .keep), (3, .keep), (11, .data false (.int .i64))], obs := [(1048576, .keep), (1048577, .keep), (1048578, .keep), (1208925819615736205672448, .keep), (1208925819615736205672449, .keep), (1208925819616835717300224, .keep), (1208925819616835717300225, .keep), (1208925819617935228928000, .keep), (1208925819617935228928001, .keep)], fz := [] }),
  (1461501637335887534596737307886346600506711867392, { tms := [(0, .keep), (1, .keep), (2, .keep), (3, .keep), (11, .data false (.int .i64))], obs := [(1048576, .keep), (1048577, .keep), (1048578, .keep), (1208925819615736205672448, .keep), (1208925819615736205672449, .keep), (1208925819616835717300224, .keep), (1208925819616835717300225, .keep), (1208925819617935228928000, .keep), (1208925819617935228928001, .keep)], fz := [] })], own := [1532495540868328014327492091461541808179831077656861707, 1606938044263009417588795250214581347896142470963953587465238, 1766847064782803422997473990582211551115655761240783424762009603684711436, 1766847064782803422997473990582211551115655761240783424762009603685760012, 1766847064782803422997473990582211551115655761240783424762009603686808588], unroll := 5 }
theorem f21_run (a0 : List ((Int × Int × Int) × Int × Int)) (K : ((List Int × List Int) × Int) → Prop) : runF Tryz.prog f21_E f21_A 9 Tryz.f21 f21_e.doms f21_e.cods a0 K =
    (br ((f77 a0).2 != 0)
    (K ((([] : List Int), ([] : List Int)), (f77 a0).2))
    (br (lenOk (a0.length))
    (up a0 0 (fun i X => up a0 (IntKind.i64.wrap (i + 1)) (fun j Y => ib a0 i (ib a0 j (R2 (kk a0 K [i, j] Y) (dv a0 i) (dv a0 j)))) X)
    (br (lenOk (a0.length))
    (up a0 0 (fun i X => up a0 (IntKind.i64.wrap (i + 1)) (fun j Y => up a0 (IntKind.i64.wrap (j + 1)) (fun k Z => ib a0 i (ib a0 j (ib a0 k (R3 (kk a0 K [i, j, k] Z) (dv a0 i) (dv a0 j) (dv a0 k))))) Y) X)
    (br (lenOk (a0.length))
    (up a0 0 (fun i X => up a0 (IntKind.i64.wrap (i + 1)) (fun j Y => up a0 (IntKind.i64.wrap (j + 1)) (fun k Z => up a0 (IntKind.i64.wrap (k + 1)) (fun m W => ib a0 i (ib a0 j (ib a0 k (ib a0 m (R4 (kk a0 K [i, j, k, m] W) (dv a0 i) (dv a0 j) (dv a0 k) (dv a0 m)))))) Z) Y) X)
    (K ((([] : List Int), ([] : List Int)), 12)))
    True))
    True))
    True)) := by kernel_rfl
theorem f21_t (a0 : List ((Int × Int × Int) × Int × Int)) (K : ((List Int × List Int) × Int) → Prop) (hK : ∀ y : (List Int × List Int) × Int, y = f21 a0 → K y) : RunF Tryz.prog f21_E f21_A 9 Tryz.f21 f21_e.doms f21_e.cods a0 K := by
  refine ⟨?_⟩
  rw [f21_run a0 K]
  have e0 : f21 a0 = conW a0 := rfl
  have e22 : f77 a0 = rdOf a0 := rfl
  rw [e22]
  refine br_two (fun h => hK _ ?_) fun h => ?_
  · rw [e0, conW, if_pos (bne_iff_ne.1 h)]
  have h24 : (rdOf a0).2 = 0 := bne_f.1 h
  have rok := rdOf_ok h24
  have h6 := rok.six
  have hd : ∀ i : Nat, i < a0.length → V3.le (dv a0 i) 9 ∧ dv a0 i ≠ z3 := fun i hi => rok.dir _ (getD_mem (d := rd0) hi)
  have hib : ∀ (i : Nat) (X : Prop), i < a0.length → X → ib a0 i X := fun i X hi hx => br_must (inb (by omega) (by omega)) hx
  have wi : ∀ i : Nat, i < a0.length → IntKind.i64.wrap ((i : Int) + 1) = ((i + 1 : Nat) : Int) := fun i hi => by rw [wr (by omega) (by omega)]; push_cast; rfl
  have eC : conW a0 = match conL a0 with
    | some x => ((x.1.map (fun n : Nat => (n : Int)), x.2), 0)
    | none => (([], []), 12) := by rw [conW, if_neg (fun hh => hh h24)]
  have hQ : ∀ x, conL a0 = some x → K ((x.1.map (fun n : Nat => (n : Int)), x.2), 0) := fun x hx => hK _ (by rw [e0, eC, hx])
  refine br_weak (up_ok h6 (g := fun i => fR (i + 1) a0.length fun j => tS a0 [i, j]) (Q := fun x => K ((x.1.map (fun n : Nat => (n : Int)), x.2), 0)) (m := 0) (by omega) (fun i X i0 hi g1 g2 => ?_) (fun x hx => hQ x ?_) fun hn2 => ?_)
  · rw [wi i hi]
    refine up_ok h6 (g := fun j => tS a0 [i, j]) (by omega) (fun j Y j0 hj g3 g4 => ?_) g1 g2
    refine hib i _ (by omega) (hib j _ hj (R2_ok (hd i hi).1 (hd j hj).1 (hd i hi).2 ?_))
    exact kk_ok (s := [i, j]) rok ⟨by simp; omega, fun a ha => by simp at ha; omega⟩ (by simp) (by simp) g3 g4
  · have hx : con2 a0 = some x := hx
    rw [conL, hx]
  have hn2 : con2 a0 = none := hn2
  refine br_weak (up_ok h6 (g := fun i => fR (i + 1) a0.length fun j => fR (j + 1) a0.length fun k => tS a0 [i, j, k]) (Q := fun x => K ((x.1.map (fun n : Nat => (n : Int)), x.2), 0)) (m := 0) (by omega) (fun i X i0 hi g1 g2 => ?_) (fun x hx => hQ x ?_) fun hn3 => ?_)
  · rw [wi i hi]
    refine up_ok h6 (g := fun j => fR (j + 1) a0.length fun k => tS a0 [i, j, k]) (by omega) (fun j Y j0 hj g3 g4 => ?_) g1 g2
    rw [wi j hj]
    refine up_ok h6 (g := fun k => tS a0 [i, j, k]) (by omega) (fun k Z k0 hk g5 g6 => ?_) g3 g4
    refine hib i _ (by omega) (hib j _ hj (hib k _ hk (R3_ok (hd i hi).1 (hd j hj).1 (hd k hk).1 ?_)))
    exact kk_ok (s := [i, j, k]) rok ⟨by simp; omega, fun a ha => by simp at ha; omega⟩ (by simp) (by simp) g5 g6
  · have hx : con3 a0 = some x := hx
    rw [conL, hn2]; dsimp only; rw [hx]
  have hn3 : con3 a0 = none := hn3
  refine br_weak (up_ok h6 (g := fun i => fR (i + 1) a0.length fun j => fR (j + 1) a0.length fun k => fR (k + 1) a0.length fun m => tS a0 [i, j, k, m]) (Q := fun x => K ((x.1.map (fun n : Nat => (n : Int)), x.2), 0)) (m := 0) (by omega) (fun i X i0 hi g1 g2 => ?_) (fun x hx => hQ x ?_) fun hn4 => ?_)
  · rw [wi i hi]
    refine up_ok h6 (g := fun j => fR (j + 1) a0.length fun k => fR (k + 1) a0.length fun m => tS a0 [i, j, k, m]) (by omega) (fun j Y j0 hj g3 g4 => ?_) g1 g2
    rw [wi j hj]
    refine up_ok h6 (g := fun k => fR (k + 1) a0.length fun m => tS a0 [i, j, k, m]) (by omega) (fun k Z k0 hk g5 g6 => ?_) g3 g4
    rw [wi k hk]
    refine up_ok h6 (g := fun m => tS a0 [i, j, k, m]) (by omega) (fun m W m0 hm g7 g8 => ?_) g5 g6
    refine hib i _ (by omega) (hib j _ hj (hib k _ hk (hib m _ hm (R4_ok (hd i hi).1 (hd j hj).1 (hd k hk).1 (hd m hm).1 ?_))))
    exact kk_ok (s := [i, j, k, m]) rok ⟨by simp; omega, fun a ha => by simp at ha; omega⟩ (by simp) (by simp) g7 g8
  · have hx : con4 a0 = some x := hx
    rw [conL, hn2]; dsimp only; rw [hn3]; exact hx
  · have hn4 : con4 a0 = none := hn4
    refine hK _ ?_
    have : conL a0 = none := by rw [conL, hn2]; dsimp only; rw [hn3]; exact hn4
    rw [e0, eC, this]
theorem f21_fn : f21_e.fn = f21 := rfl
theorem f21_ok : EntryOK Tryz.prog 21 f21_e := by
  refine entryF progOK (EnvOK.cons f77_ok (EnvOK.cons f80_ok (EnvOK.cons f81_ok (EnvOK.cons f82_ok (EnvOK.cons f109_ok (EnvOK.cons f120_ok (EnvOK.cons f126_ok (EnvOK.cons f136_ok (EnvOK.nil))))))))) (A := f21_A) (d := 9) Tryz.func21 rfl rfl rfl rfl (fun _ _ => trivial) fun x hpre => ?_
  exact f21_t x _ fun _ h => h.trans (congrFun f21_fn.symm _)
end Go.Proofs.YtglijnhkdnhofaaGreat
end

section
namespace Go.Proofs.YtglijnhkdnhofaaGreat
open Go Go.Pi Go.RowKit
set_option maxRecDepth 100000
set_option linter.unusedVariables false
set_option linter.unusedSimpArgs false

def f28 (x : List ((Int × Int × Int) × Int × Int) × List Int × List Int) : Int × Int := totL (pickI x.1 x.2.1) x.2.2
def f28_pre (x : List ((Int × Int × Int) × Int × Int) × List Int × List Int) : Prop := TotOK x.1 x.2.1 x.2.2
def f28_e : Entry := { doms := [(false, (.sl (.pair (.pair (.int .i64) (.pair (.int .i64) (.int .i64))) (.pair (.int .i64) (.int .i64))))), (true, (.pair (.sl (.int .i64)) (.sl (.int .i64))))], cods := [(true, (.pair (.int .i64) (.int .i64)))], pre := f28_pre, fn := f28, uq := false, total := false }
def f28_E : Env := [(82, f82_e)]
def f28_A : Anns := { loops := [(1048576, { tms := [(0, .keep), (3, .keep), (4, .keep), (5, .keep), (6, .data false (.int .i64))], obs := [(1048576, .keep), (1048577, .keep), (1049600, .cells [.data (.int .i64), .data (.int .i64)])], fz := [] })], own := [] }
theorem f28_run (a0 : List ((Int × Int × Int) × Int × Int)) (a1 : List Int × List Int) (K : (Int × Int) → Prop) : runF Tryz.prog f28_E f28_A 6 Tryz.f28 f28_e.doms f28_e.cods (a0, a1) K =
    (LoopP (V := Int × Int × Int × Unit) (fun again v => (fun (again1 : Int → Int → Int → Prop) (v1_0 : Int) (v1_1 : Int) (v1_2 : Int) =>
    br (lenOk (a1.1.length))
    (br (decide (v1_0 < ((a1.1.length) : Int)))
    (br (decide (0 ≤ v1_0) && decide (v1_0 < ((a1.1.length) : Int)))
    (br (decide (0 ≤ (a1.1.getD v1_0.toNat 0)) && decide ((a1.1.getD v1_0.toNat 0) < ((a0.length) : Int)))
    (br (decide (0 ≤ v1_0) && decide (v1_0 < ((a1.2.length) : Int)))
    (br (decide (0 ≤ v1_0) && decide (v1_0 < ((a1.1.length) : Int)))
    (br (decide (0 ≤ (a1.1.getD v1_0.toNat 0)) && decide ((a1.1.getD v1_0.toNat 0) < ((a0.length) : Int)))
    (br (decide (0 ≤ v1_0) && decide (v1_0 < ((a1.2.length) : Int)))
    (again1 (IntKind.i64.wrap (v1_0 + 1)) (IntKind.i64.wrap (v1_1 + (minmax false (IntKind.i64.wrap (((a0.getD ((a1.1.getD v1_0.toNat 0).toNat) ((0, (0, 0)), (0, 0))).2).1 * (a1.2.getD v1_0.toNat 0))) (IntKind.i64.wrap (((a0.getD ((a1.1.getD v1_0.toNat 0).toNat) ((0, (0, 0)), (0, 0))).2).2 * (a1.2.getD v1_0.toNat 0)))))) (IntKind.i64.wrap (v1_2 + (minmax true (IntKind.i64.wrap (((a0.getD ((a1.1.getD v1_0.toNat 0).toNat) ((0, (0, 0)), (0, 0))).2).1 * (a1.2.getD v1_0.toNat 0))) (IntKind.i64.wrap (((a0.getD ((a1.1.getD v1_0.toNat 0).toNat) ((0, (0, 0)), (0, 0))).2).2 * (a1.2.getD v1_0.toNat 0)))))))
    False)
    False)
    False)
    False)
    False)
    False)
    (K (v1_1, v1_2)))
    True)
    (fun v1_0 v1_1 v1_2 => again (v1_0, v1_1, v1_2, ())) v.1 v.2.1 v.2.2.1) (0, 0, 0, ())) := by kernel_rfl
theorem f28_t (a0 : List ((Int × Int × Int) × Int × Int)) (a1 : List Int × List Int) (hpre : f28_pre (a0, a1)) (K : (Int × Int) → Prop) (hK : ∀ y : Int × Int, y = f28 (a0, a1) → K y) : RunF Tryz.prog f28_E f28_A 6 Tryz.f28 f28_e.doms f28_e.cods (a0, a1) K := by
  refine ⟨?_⟩
  rw [f28_run a0 a1 K]
  have hp : TotOK a0 a1.1 a1.2 := hpre
  have h6 := hp.six
  have hl := hp.len
  have e0 : f28 (a0, a1) = totL (pickI a0 a1.1) a1.2 := rfl
  refine LoopP.up (a1.1.length : Int) (fun i v => v = ((totL (pickI a0 (a1.1.take i.toNat)) (a1.2.take i.toNat)).1, (totL (pickI a0 (a1.1.take i.toNat)) (a1.2.take i.toNat)).2, ())) (fun again i v hi0 hin hI hag => ?_) (by omega) rfl
  subst hI
  obtain ⟨k, rfl⟩ := Int.eq_ofNat_of_zero_le hi0
  rw [Int.toNat_natCast]
  dsimp only
  refine br_weak (br_if (fun hlt => ?_) fun hge => hK _ ?_)
  · have hk : k < a1.1.length := by omega
    have hF : k < a1.2.length := by omega
    have hn := hp.inn (a1.1.getD k 0) (by rw [getD_lt hk]; exact List.getElem_mem _)
    have hfac := hp.fac (a1.2.getD k 0) (by rw [getD_lt hF]; exact List.getElem_mem _)
    have hb := mnmx_le hfac (hp.rng (a0.getD (a1.1.getD k 0).toNat rd0) (getD_mem (by omega)))
    have hle := totL_le hp k (by omega)
    have hk6 : (k : Int) ≤ 6 := by omega
    have hh := hag _ hlt rfl
    rw [show ((k : Int) + 1).toNat = k + 1 by omega] at hh
    have e : pickI a0 (a1.1.take (k + 1)) = pickI a0 (a1.1.take k) ++ [a0.getD (a1.1.getD k 0).toNat rd0] := by
      rw [take_snoc a1.1 hk]; simp [pickI]
    rw [e, take_snoc a1.2 hF, totL_snoc _ _ (by simp [pickI]; omega)] at hh
    have b1 := inb (i := (k : Int)) (n := a1.1.length) (by omega) hlt
    have b2 := inb (i := (k : Int)) (n := a1.2.length) (by omega) (by omega)
    have b3 := inb (i := a1.1.getD k 0) (n := a0.length) hn.1 hn.2
    refine br_must b1 (br_must b3 (br_must b2 (br_must b1 (br_must b3 (br_must b2 ?_)))))
    have dr : (((0 : Int), (0 : Int), (0 : Int)), (0 : Int), (0 : Int)) = rd0 := rfl
    rw [wr (n := (k : Int) + 1) (by omega) (by omega), dr, Int.mul_comm _ (a1.2.getD k 0), Int.mul_comm (a0.getD (a1.1.getD k 0).toNat rd0).2.2 (a1.2.getD k 0)]
    rw [wr (n := a1.2.getD k 0 * (a0.getD (a1.1.getD k 0).toNat rd0).2.1) (by omega) (by omega), wr (n := a1.2.getD k 0 * (a0.getD (a1.1.getD k 0).toNat rd0).2.2) (by omega) (by omega), mm_min, mm_max']
    unfold mn mx at hh
    rw [wr (by omega) (by omega), wr (by omega) (by omega)]
    exact hh
  · have : k = a1.1.length := by omega
    subst this
    rw [e0, List.take_of_length_le (Nat.le_refl _), List.take_of_length_le (by omega)]
theorem f28_fn : f28_e.fn = f28 := rfl
theorem f28_ok : EntryOK Tryz.prog 28 f28_e := by
  refine entryF progOK (EnvOK.cons f82_ok (EnvOK.nil)) (A := f28_A) (d := 6) Tryz.func28 rfl rfl rfl rfl (fun h => by cases h) fun x hpre => ?_
  obtain ⟨a0, a1⟩ := x
  exact f28_t a0 a1 hpre _ fun _ h => h.trans (congrFun f28_fn.symm _)
end Go.Proofs.YtglijnhkdnhofaaGreat
end

section
namespace Go.Proofs.YtglijnhkdnhofaaGreat
open Go Go.Pi Go.RowKit
set_option maxRecDepth 100000
set_option linter.unusedVariables false
set_option linter.unusedSimpArgs false

def f91 (x : Int × Int × Int) : Bool := decide (x.2.1 ≤ x.1) && decide (x.1 ≤ x.2.2)
def f91_e : Entry := { doms := [(false, (.int .i64)), (false, (.int .i64)), (false, (.int .i64))], cods := [(false, .bool)], pre := fun _ => True, fn := f91, uq := false, total := true }
def f91_E : Env := []
def f91_A : Anns := { loops := [], own := [] }
theorem f91_run (a0 : Int) (a1 : Int) (a2 : Int) (K : Bool → Prop) : runF Tryz.prog f91_E f91_A 6 Tryz.f91 f91_e.doms f91_e.cods (a0, a1, a2) K =
    (br (decide (a1 ≤ a0))
    (K (decide (a0 ≤ a2)))
    (K false)) := by kernel_rfl
theorem f91_t (a0 : Int) (a1 : Int) (a2 : Int) (K : Bool → Prop) (hK : ∀ y : Bool, y = f91 (a0, a1, a2) → K y) : RunF Tryz.prog f91_E f91_A 6 Tryz.f91 f91_e.doms f91_e.cods (a0, a1, a2) K := by
  refine ⟨?_⟩
  rw [f91_run a0 a1 a2 K]
  rw [br_dec]
  exact ⟨fun h => hK _ (by simp [f91, h]), fun h => hK _ (by simp [f91, h])⟩
theorem f91_fn : f91_e.fn = f91 := rfl
theorem f91_ok : EntryOK Tryz.prog 91 f91_e := by
  refine entryF progOK (EnvOK.nil) (A := f91_A) (d := 6) Tryz.func91 rfl rfl rfl rfl (fun _ _ => trivial) fun x hpre => ?_
  obtain ⟨a0, a1, a2⟩ := x
  exact f91_t a0 a1 a2 _ fun _ h => h.trans (congrFun f91_fn.symm _)
theorem f91_t1 {a b c : Int} : f91 (a, b, c) = true ↔ b ≤ a ∧ a ≤ c := by simp [f91]
theorem f91_f1 {a b c : Int} : f91 (a, b, c) = false ↔ ¬ (b ≤ a ∧ a ≤ c) := by rw [← Bool.not_eq_true, f91_t1]
end Go.Proofs.YtglijnhkdnhofaaGreat
end

section
namespace Go.Proofs.YtglijnhkdnhofaaGreat
open Go Go.Pi Go.RowKit
set_option maxRecDepth 100000
set_option linter.unusedVariables false
set_option linter.unusedSimpArgs false

structure PrfOK (l : List Rd) (R F : List Int) : Prop where
  tot : TotOK l R F
  dir : ∀ r ∈ l, V3.le r.1 9
def combI (l : List Rd) (R F : List Int) : V3 := comb F (dirs (pickI l R))
def f92 (x : List ((Int × Int × Int) × Int × Int) × List Int × List Int) : Bool := decide (combI x.1 x.2.1 x.2.2 = z3)
def f92_pre (x : List ((Int × Int × Int) × Int × Int) × List Int × List Int) : Prop := PrfOK x.1 x.2.1 x.2.2
theorem comb_snoc : ∀ {l : List V3} {f : List Int} (v : V3) (x : Int), l.length = f.length → comb (f ++ [x]) (l ++ [v]) = ((comb f l).1 + x * v.1, (comb f l).2.1 + x * v.2.1, (comb f l).2.2 + x * v.2.2)
  | [], [], v, x, _ => by simp [comb]
  | a :: l, y :: f, v, x, h => by
    rw [List.cons_append, List.cons_append, comb, comb_snoc v x (by simpa using h), comb]
    simp only [Prod.mk.injEq]
    omega
theorem combI_take {l : List Rd} {R F : List Int} (h : R.length = F.length) {k : Nat} (hk : k < R.length) : combI l (R.take (k + 1)) (F.take (k + 1)) =
    ((combI l (R.take k) (F.take k)).1 + F.getD k 0 * (l.getD (R.getD k 0).toNat rd0).1.1, (combI l (R.take k) (F.take k)).2.1 + F.getD k 0 * (l.getD (R.getD k 0).toNat rd0).1.2.1, (combI l (R.take k) (F.take k)).2.2 + F.getD k 0 * (l.getD (R.getD k 0).toNat rd0).1.2.2) := by
  unfold combI
  have e : dirs (pickI l (R.take (k + 1))) = dirs (pickI l (R.take k)) ++ [(l.getD (R.getD k 0).toNat rd0).1] := by
    rw [take_snoc R hk]; simp [pickI, dirs]
  rw [e, take_snoc F (by omega), comb_snoc _ _ (by simp [pickI, dirs]; omega)]
theorem combI_le {l : List Rd} {R F : List Int} (h : PrfOK l R F) : ∀ i, i ≤ R.length → V3.le (combI l (R.take i) (F.take i)) (9000000000 * (i : Int))
  | 0, _ => by simp [combI, comb, V3.le]
  | i + 1, hi => by
    have ih := combI_le h i (by omega)
    have hF : i < F.length := by have := h.tot.len; omega
    have hn := h.tot.inn (R.getD i 0) (by rw [getD_lt (by omega)]; exact List.getElem_mem _)
    have hf := h.tot.fac (F.getD i 0) (by rw [getD_lt hF]; exact List.getElem_mem _)
    have hd := h.dir (l.getD (R.getD i 0).toNat rd0) (getD_mem (by omega))
    have m1 := mul_le hf hd.1
    have m2 := mul_le hf hd.2.1
    have m3 := mul_le hf hd.2.2
    rw [combI_take h.tot.len (by omega)]
    obtain ⟨i1, i2, i3⟩ := ih
    have e : (9000000000 : Int) * ((i + 1 : Nat) : Int) = 9000000000 * (i : Int) + 9000000000 := by push_cast; omega
    rw [e]
    exact ⟨by dsimp only; omega, by dsimp only; omega, by dsimp only; omega⟩
def f92_e : Entry := { doms := [(false, (.sl (.pair (.pair (.int .i64) (.pair (.int .i64) (.int .i64))) (.pair (.int .i64) (.int .i64))))), (true, (.pair (.sl (.int .i64)) (.sl (.int .i64))))], cods := [(false, .bool)], pre := f92_pre, fn := f92, uq := false, total := false }
def f92_E : Env := [(82, f82_e)]
def f92_A : Anns := { loops := [(1048576, { tms := [(0, .keep), (3, .keep), (5, .keep), (6, .data false (.int .i64))], obs := [(1048576, .keep), (1049600, .arr (.fixed 3) (.int .i64))], fz := [] })], own := [], unroll := 4 }
theorem f92_run (a0 : List ((Int × Int × Int) × Int × Int)) (a1 : List Int × List Int) (K : Bool → Prop) : runF Tryz.prog f92_E f92_A 6 Tryz.f92 f92_e.doms f92_e.cods (a0, a1) K =
    (LoopP (V := Int × List Int × Unit) (fun again v => (fun (again1 : Int → List Int → Prop) (v1_0 : Int) (v1_1 : List Int) =>
    br (lenOk (a1.1.length))
    (br (decide (v1_0 < ((a1.1.length) : Int)))
    (br (decide (0 ≤ v1_0) && decide (v1_0 < ((a1.2.length) : Int)))
    (br (decide (0 ≤ v1_0) && decide (v1_0 < ((a1.1.length) : Int)))
    (br (decide (0 ≤ (a1.1.getD v1_0.toNat 0)) && decide ((a1.1.getD v1_0.toNat 0) < ((a0.length) : Int)))
    (br (decide (0 ≤ v1_0) && decide (v1_0 < ((a1.2.length) : Int)))
    (br (decide (0 ≤ v1_0) && decide (v1_0 < ((a1.1.length) : Int)))
    (br (decide (0 ≤ (a1.1.getD v1_0.toNat 0)) && decide ((a1.1.getD v1_0.toNat 0) < ((a0.length) : Int)))
    (br (decide (0 ≤ v1_0) && decide (v1_0 < ((a1.2.length) : Int)))
    (br (decide (0 ≤ v1_0) && decide (v1_0 < ((a1.1.length) : Int)))
    (br (decide (0 ≤ (a1.1.getD v1_0.toNat 0)) && decide ((a1.1.getD v1_0.toNat 0) < ((a0.length) : Int)))
    (again1 (IntKind.i64.wrap (v1_0 + 1)) (((v1_1.set 0 (IntKind.i64.wrap ((v1_1.getD 0 0) + (IntKind.i64.wrap ((a1.2.getD v1_0.toNat 0) * ((a0.getD ((a1.1.getD v1_0.toNat 0).toNat) ((0, (0, 0)), (0, 0))).1).1))))).set 1 (IntKind.i64.wrap (((v1_1.set 0 (IntKind.i64.wrap ((v1_1.getD 0 0) + (IntKind.i64.wrap ((a1.2.getD v1_0.toNat 0) * ((a0.getD ((a1.1.getD v1_0.toNat 0).toNat) ((0, (0, 0)), (0, 0))).1).1))))).getD 1 0) + (IntKind.i64.wrap ((a1.2.getD v1_0.toNat 0) * (((a0.getD ((a1.1.getD v1_0.toNat 0).toNat) ((0, (0, 0)), (0, 0))).1).2).1))))).set 2 (IntKind.i64.wrap ((((v1_1.set 0 (IntKind.i64.wrap ((v1_1.getD 0 0) + (IntKind.i64.wrap ((a1.2.getD v1_0.toNat 0) * ((a0.getD ((a1.1.getD v1_0.toNat 0).toNat) ((0, (0, 0)), (0, 0))).1).1))))).set 1 (IntKind.i64.wrap (((v1_1.set 0 (IntKind.i64.wrap ((v1_1.getD 0 0) + (IntKind.i64.wrap ((a1.2.getD v1_0.toNat 0) * ((a0.getD ((a1.1.getD v1_0.toNat 0).toNat) ((0, (0, 0)), (0, 0))).1).1))))).getD 1 0) + (IntKind.i64.wrap ((a1.2.getD v1_0.toNat 0) * (((a0.getD ((a1.1.getD v1_0.toNat 0).toNat) ((0, (0, 0)), (0, 0))).1).2).1))))).getD 2 0) + (IntKind.i64.wrap ((a1.2.getD v1_0.toNat 0) * (((a0.getD ((a1.1.getD v1_0.toNat 0).toNat) ((0, (0, 0)), (0, 0))).1).2).2))))))
    False)
    False)
    False)
    False)
    False)
    False)
    False)
    False)
    False)
    (K (((v1_1.getD 0 0) == 0) && (((v1_1.getD 1 0) == 0) && (((v1_1.getD 2 0) == 0) && true)))))
    True)
    (fun v1_0 v1_1 => again (v1_0, v1_1, ())) v.1 v.2.1) (0, ([0, 0, 0] : List Int), ())) := by kernel_rfl
theorem f92_t (a0 : List ((Int × Int × Int) × Int × Int)) (a1 : List Int × List Int) (hpre : f92_pre (a0, a1)) (K : Bool → Prop) (hK : ∀ y : Bool, y = f92 (a0, a1) → K y) : RunF Tryz.prog f92_E f92_A 6 Tryz.f92 f92_e.doms f92_e.cods (a0, a1) K := by
  refine ⟨?_⟩
  rw [f92_run a0 a1 K]
  have hp : PrfOK a0 a1.1 a1.2 := hpre
  have h6 := hp.tot.six
  have hl := hp.tot.len
  have e0 : f92 (a0, a1) = decide (combI a0 a1.1 a1.2 = z3) := rfl
  refine LoopP.up (a1.1.length : Int) (fun i v => v = ([(combI a0 (a1.1.take i.toNat) (a1.2.take i.toNat)).1, (combI a0 (a1.1.take i.toNat) (a1.2.take i.toNat)).2.1, (combI a0 (a1.1.take i.toNat) (a1.2.take i.toNat)).2.2], ())) (fun again i v hi0 hin hI hag => ?_) (by omega) rfl
  subst hI
  obtain ⟨k, rfl⟩ := Int.eq_ofNat_of_zero_le hi0
  rw [Int.toNat_natCast]
  dsimp only
  refine br_weak (br_if (fun hlt => ?_) fun hge => hK _ ?_)
  · have hk : k < a1.1.length := by omega
    have hF : k < a1.2.length := by omega
    have hn := hp.tot.inn (a1.1.getD k 0) (by rw [getD_lt hk]; exact List.getElem_mem _)
    have hfac := hp.tot.fac (a1.2.getD k 0) (by rw [getD_lt hF]; exact List.getElem_mem _)
    have hd := hp.dir (a0.getD (a1.1.getD k 0).toNat rd0) (getD_mem (by omega))
    have m1 := mul_le hfac hd.1
    have m2 := mul_le hfac hd.2.1
    have m3 := mul_le hfac hd.2.2
    have hle := combI_le hp k (by omega)
    obtain ⟨l1, l2, l3⟩ := hle
    have hh := hag _ hlt rfl
    rw [show ((k : Int) + 1).toNat = k + 1 by omega, combI_take hl hk] at hh
    have b1 := inb (i := (k : Int)) (n := a1.1.length) (by omega) hlt
    have b2 := inb (i := (k : Int)) (n := a1.2.length) (by omega) (by omega)
    have b3 := inb (i := a1.1.getD k 0) (n := a0.length) hn.1 hn.2
    refine br_must b2 (br_must b1 (br_must b3 (br_must b2 (br_must b1 (br_must b3 (br_must b2 (br_must b1 (br_must b3 ?_))))))))
    have dr : (((0 : Int), (0 : Int), (0 : Int)), (0 : Int), (0 : Int)) = rd0 := rfl
    simp only [List.set_cons_zero, List.set_cons_succ, List.getD_cons_zero, List.getD_cons_succ, dr]
    rw [wr (n := (k : Int) + 1) (by omega) (by omega)]
    rw [wr (n := a1.2.getD k 0 * (a0.getD (a1.1.getD k 0).toNat rd0).1.1) (by omega) (by omega), wr (n := a1.2.getD k 0 * (a0.getD (a1.1.getD k 0).toNat rd0).1.2.1) (by omega) (by omega), wr (n := a1.2.getD k 0 * (a0.getD (a1.1.getD k 0).toNat rd0).1.2.2) (by omega) (by omega)]
    have hk6 : (k : Int) ≤ 6 := by omega
    rw [wr (by omega) (by omega), wr (by omega) (by omega), wr (by omega) (by omega)]
    exact hh
  · have : k = a1.1.length := by omega
    subst this
    rw [e0, List.take_of_length_le (Nat.le_refl _), List.take_of_length_le (by omega)]
    simp only [List.getD_cons_zero, List.getD_cons_succ]
    exact v3_z _
theorem f92_fn : f92_e.fn = f92 := rfl
theorem f92_ok : EntryOK Tryz.prog 92 f92_e := by
  refine entryF progOK (EnvOK.cons f82_ok (EnvOK.nil)) (A := f92_A) (d := 6) Tryz.func92 rfl rfl rfl rfl (fun h => by cases h) fun x hpre => ?_
  obtain ⟨a0, a1⟩ := x
  exact f92_t a0 a1 hpre _ fun _ h => h.trans (congrFun f92_fn.symm _)
end Go.Proofs.YtglijnhkdnhofaaGreat
end

section
namespace Go.Proofs.YtglijnhkdnhofaaGreat
open Go Go.Pi Go.RowKit
set_option maxRecDepth 100000
set_option linter.unusedVariables false
set_option linter.unusedSimpArgs false

def rdIx (n : Nat) (R : List Int) (i : Nat) : Int := if ¬ (0 ≤ R.getD i 0 ∧ R.getD i 0 ≤ (n : Int) - 1) then 6 else if 0 < i ∧ R.getD i 0 ≤ R.getD (i - 1) 0 then 9 else 0
def fcIx (F : List Int) (i : Nat) : Int := if -1000000000 ≤ F.getD i 0 ∧ F.getD i 0 ≤ 1000000000 then 0 else 2
def prfE (l : List Rd) (R F : List Int) : Int := if R.length = 0 ∨ F.length ≠ R.length then 10 else if (eachE R.length (rdIx l.length R)).2 ≠ 0 then (eachE R.length (rdIx l.length R)).2 else
  if (eachE F.length (fcIx F)).2 ≠ 0 then (eachE F.length (fcIx F)).2 else if combI l R F ≠ z3 then 3 else if apart (totL (pickI l R) F) = true then 0 else 17
def f27 (x : List ((Int × Int × Int) × Int × Int) × List Int × List Int) : Int := prfE x.1 x.2.1 x.2.2
def f27_pre (x : List ((Int × Int × Int) × Int × Int) × List Int × List Int) : Prop := RdOK x.1
theorem asc_room : ∀ (R : List Int) (m n : Int), (∀ x ∈ R, m ≤ x ∧ x < n) → R.Pairwise (· < ·) → m ≤ n → (R.length : Int) ≤ n - m
  | [], m, n, _, _, h => by simp; omega
  | x :: R, m, n, h, hp, hmn => by
    have hp' := List.pairwise_cons.1 hp
    have hx := h x (.head _)
    have := asc_room R (x + 1) n (fun y hy => ⟨by have := hp'.1 y hy; omega, (h y (.tail _ hy)).2⟩) hp'.2 (by omega)
    simp; omega
theorem ix_asc {n : Nat} {R : List Int} (h : ∀ i, i < R.length → rdIx n R i = 0) : (∀ x ∈ R, 0 ≤ x ∧ x < (n : Int)) ∧ R.Pairwise (· < ·) := by
  have h1 : ∀ i, i < R.length → (0 ≤ R.getD i 0 ∧ R.getD i 0 ≤ (n : Int) - 1) ∧ (0 < i → R.getD (i - 1) 0 < R.getD i 0) := fun i hi => by
    have := h i hi
    unfold rdIx at this
    split at this
    · cases this
    · rename_i h2
      split at this
      · cases this
      · rename_i h3
        exact ⟨Classical.byContradiction h2, fun h0 => by omega⟩
  constructor
  · intro x hx
    obtain ⟨i, hi, e⟩ := mem_getD0 hx
    have := (h1 i hi).1
    omega
  · rw [List.pairwise_iff_getElem]
    intro i j hi hj hij
    have key : ∀ d i, i + d + 1 < R.length → R.getD i 0 < R.getD (i + d + 1) 0 := by
      intro d
      induction d with
      | zero => intro i hi; have := (h1 (i + 1) (by omega)).2 (by omega); simpa using this
      | succ d ih =>
        intro i hi
        have a := ih i (by omega)
        have b := (h1 (i + d + 1 + 1) (by omega)).2 (by omega)
        have : i + d + 1 + 1 - 1 = i + d + 1 := by omega
        rw [this] at b
        show R.getD i 0 < R.getD (i + d + 1 + 1) 0
        omega
    have := key (j - i - 1) i (by omega)
    rw [show i + (j - i - 1) + 1 = j by omega, getD_lt hi, getD_lt hj] at this
    exact this
theorem prf_ok {l : List Rd} (rok : RdOK l) {R F : List Int} (hl : F.length = R.length) (h1 : ∀ i, i < R.length → rdIx l.length R i = 0) (h2 : ∀ i, i < F.length → fcIx F i = 0) : PrfOK l R F := by
  obtain ⟨a, b⟩ := ix_asc h1
  have := asc_room R 0 l.length a b (by omega)
  have h6 := rok.six
  refine ⟨⟨by omega, hl.symm, a, fun n hn => ?_, fun r hr => by have := rok.rng r hr; omega⟩, fun r hr => (rok.dir r hr).1⟩
  obtain ⟨i, hi, e⟩ := mem_getD0 hn
  have := h2 i hi
  unfold fcIx at this
  split at this
  · omega
  · cases this
def f27_e : Entry := { doms := [(false, (.sl (.pair (.pair (.int .i64) (.pair (.int .i64) (.int .i64))) (.pair (.int .i64) (.int .i64))))), (true, (.pair (.sl (.int .i64)) (.sl (.int .i64))))], cods := [(false, (.int .i64))], pre := f27_pre, fn := f27, uq := false, total := false }
def f27_E : Env := [(28, f28_e), (91, f91_e), (92, f92_e), (82, f82_e)]
def f27_A : Anns := { loops := [(1048576, { tms := [(0, .keep), (3, .keep), (5, .data false (.int .i64))], obs := [(1048576, .keep)], fz := [] }),
  (1048578, { tms := [(0, .keep), (3, .keep), (6, .data false (.int .i64))], obs := [(1048576, .keep)], fz := [] })], own := [] }
theorem f27_run (a0 : List ((Int × Int × Int) × Int × Int)) (a1 : List Int × List Int) (K : Int → Prop) : runF Tryz.prog f27_E f27_A 6 Tryz.f27 f27_e.doms f27_e.cods (a0, a1) K =
    (br (lenOk (a1.1.length))
    (br (((a1.1.length) : Int) == 0)
    (K 10)
    (br (lenOk (a1.2.length))
    (br (lenOk (a1.1.length))
    (br (((a1.2.length) : Int) != ((a1.1.length) : Int))
    (K 10)
    (LoopP (V := Int × Unit) (fun again v => (fun (again1 : Int → Prop) (v1_0 : Int) =>
    br (lenOk (a1.1.length))
    (br (decide (v1_0 < ((a1.1.length) : Int)))
    (br (decide (0 ≤ v1_0) && decide (v1_0 < ((a1.1.length) : Int)))
    (br (lenOk (a0.length))
    (br (!(f91 ((a1.1.getD v1_0.toNat 0), (0, (IntKind.i64.wrap (((a0.length) : Int) - 1))))))
    (K 6)
    (br (decide (v1_0 > 0))
    (br (decide (0 ≤ v1_0) && decide (v1_0 < ((a1.1.length) : Int)))
    (br (decide (0 ≤ (IntKind.i64.wrap (v1_0 - 1))) && decide ((IntKind.i64.wrap (v1_0 - 1)) < ((a1.1.length) : Int)))
    (br (decide ((a1.1.getD v1_0.toNat 0) ≤ (a1.1.getD ((IntKind.i64.wrap (v1_0 - 1)).toNat) 0)))
    (K 9)
    (again1 (IntKind.i64.wrap (v1_0 + 1))))
    False)
    False)
    (again1 (IntKind.i64.wrap (v1_0 + 1)))))
    True)
    False)
    (LoopP (V := Int × Unit) (fun again v => (fun (again2 : Int → Prop) (v2_0 : Int) =>
    br (lenOk (a1.2.length))
    (br (decide (v2_0 < ((a1.2.length) : Int)))
    (br (decide (0 ≤ v2_0) && decide (v2_0 < ((a1.2.length) : Int)))
    (br (!(f91 ((a1.2.getD v2_0.toNat 0), ((-1000000000), 1000000000))))
    (K 2)
    (again2 (IntKind.i64.wrap (v2_0 + 1))))
    False)
    (f92_pre (a0, a1) ∧
    br (!(f92 (a0, a1)))
    (K 3)
    (f28_pre (a0, a1) ∧
    br (decide ((f28 (a0, a1)).1 ≤ 0))
    (br (decide ((f28 (a0, a1)).2 ≥ 0))
    (K 17)
    (K 0))
    (K 0))))
    True)
    (fun v2_0 => again (v2_0, ())) v.1) (0, ())))
    True)
    (fun v1_0 => again (v1_0, ())) v.1) (0, ())))
    True)
    True))
    True) := by kernel_rfl
theorem f27_t (a0 : List ((Int × Int × Int) × Int × Int)) (a1 : List Int × List Int) (hpre : f27_pre (a0, a1)) (K : Int → Prop) (hK : ∀ y : Int, y = f27 (a0, a1) → K y) : RunF Tryz.prog f27_E f27_A 6 Tryz.f27 f27_e.doms f27_e.cods (a0, a1) K := by
  refine ⟨?_⟩
  rw [f27_run a0 a1 K]
  have rok : RdOK a0 := hpre
  have e0 : f27 (a0, a1) = prfE a0 a1.1 a1.2 := rfl
  have h6 := rok.six
  have hp := rok.pos
  have e35 : ∀ n a b, f91 (n, a, b) = (decide (a ≤ n) && decide (n ≤ b)) := fun _ _ _ => rfl
  refine br_true_.2 fun hR => ?_
  have hR := lenOk_iff.1 hR
  refine br_two (fun h => hK _ ?_) fun h => br_true_.2 fun hF => br_weak (br_two (fun h' => hK _ ?_) fun h' => ?_)
  · rw [e0, prfE, if_pos (.inl (by have := beq_iff_eq.1 h; omega))]
  · rw [e0, prfE, if_pos (.inr (by have := bne_iff_ne.1 h'; omega))]
  have hF := lenOk_iff.1 hF
  have r0 : a1.1.length ≠ 0 := fun e => by rw [e] at h; cases h
  have hl : a1.2.length = a1.1.length := by have := bne_f.1 h'; omega
  have e1 : prfE a0 a1.1 a1.2 = if (eachE a1.1.length (rdIx a0.length a1.1)).2 ≠ 0 then (eachE a1.1.length (rdIx a0.length a1.1)).2 else
      if (eachE a1.2.length (fcIx a1.2)).2 ≠ 0 then (eachE a1.2.length (fcIx a1.2)).2 else if combI a0 a1.1 a1.2 ≠ z3 then 3 else if apart (totL (pickI a0 a1.1) a1.2) = true then 0 else 17 := by
    rw [prfE, if_neg (by rintro (q | q); exact r0 q; exact q hl)]
  rw [show IntKind.i64.wrap ((a0.length : Int) - 1) = (a0.length : Int) - 1 from wr (by omega) (by omega)]
  refine LoopP.up (a1.1.length : Int) (fun i _ => ∀ j, j < i.toNat → rdIx a0.length a1.1 j = 0) (fun again i v hi0 hin hI hag => ?_) (by omega) (fun j hj => by simp at hj)
  obtain ⟨k, rfl⟩ := Int.eq_ofNat_of_zero_le hi0
  rw [Int.toNat_natCast] at hI
  dsimp only
  refine br_weak (br_if (fun hlt => ?_) fun hge => ?_)
  · have hk : k < a1.1.length := by omega
    have b1 := inb (i := (k : Int)) (n := a1.1.length) (by omega) hlt
    have err : ∀ e, rdIx a0.length a1.1 k = e → e ≠ 0 → f27 (a0, a1) = e := fun e he hne => by
      rw [e0, e1, eachE_some hk hI (by rw [he]; exact hne), he]
      exact if_pos hne
    have go : rdIx a0.length a1.1 k = 0 → again (IntKind.i64.wrap ((k : Int) + 1), ()) := fun he => by
      rw [wr (by omega) (by omega)]
      refine hag () hlt fun j hj => ?_
      by_cases e : j = k
      · rw [e]; exact he
      · exact hI j (by omega)
    simp only [Int.toNat_natCast, e35]
    refine br_must b1 (br_weak (br_two (fun q => hK _ (err 6 ?_ (by decide)).symm) fun q => ?_))
    · unfold rdIx
      rw [if_pos (fun hh => by rw [decide_eq_true hh.1, decide_eq_true hh.2] at q; cases q)]
    have q : 0 ≤ a1.1.getD k 0 ∧ a1.1.getD k 0 ≤ (a0.length : Int) - 1 := by simpa using q
    refine br_if (fun hpos => ?_) fun hz => go ?_
    · have w : IntKind.i64.wrap ((k : Int) - 1) = ((k - 1 : Nat) : Int) := by rw [wr (by omega) (by omega)]; omega
      rw [w]
      refine br_must b1 (br_must (inb (by omega) (by omega)) (br_if (fun q2 => hK _ (err 9 ?_ (by decide)).symm) fun q2 => go ?_))
      · unfold rdIx
        rw [if_neg (fun hh => hh q), if_pos ⟨by omega, q2⟩]
      · unfold rdIx
        rw [if_neg (fun hh => hh q), if_neg (fun hh => q2 hh.2)]
    · unfold rdIx
      rw [if_neg (fun hh => hh q), if_neg (fun hh => hz (by omega))]
  have hk : k = a1.1.length := by omega
  subst hk
  have z1 : (eachE a1.1.length (rdIx a0.length a1.1)).2 = 0 := by rw [eachE_none hI]
  have e2 : prfE a0 a1.1 a1.2 = if (eachE a1.2.length (fcIx a1.2)).2 ≠ 0 then (eachE a1.2.length (fcIx a1.2)).2 else if combI a0 a1.1 a1.2 ≠ z3 then 3 else if apart (totL (pickI a0 a1.1) a1.2) = true then 0 else 17 := by
    rw [e1, if_neg (fun hh => hh z1)]
  refine LoopP.up (a1.2.length : Int) (fun i _ => ∀ j, j < i.toNat → fcIx a1.2 j = 0) (fun again i v hi0 hin hI2 hag => ?_) (by omega) (fun j hj => by simp at hj)
  obtain ⟨k, rfl⟩ := Int.eq_ofNat_of_zero_le hi0
  rw [Int.toNat_natCast] at hI2
  dsimp only
  refine br_weak (br_if (fun hlt => ?_) fun hge => ?_)
  · have hk : k < a1.2.length := by omega
    have b1 := inb (i := (k : Int)) (n := a1.2.length) (by omega) hlt
    simp only [Int.toNat_natCast, e35]
    refine br_must b1 (br_two (fun q => hK _ ?_) fun q => ?_)
    · have he : fcIx a1.2 k = 2 := by
        unfold fcIx
        rw [if_neg (fun hh => by rw [decide_eq_true hh.1, decide_eq_true hh.2] at q; cases q)]
      rw [e0, e2, eachE_some hk hI2 (by rw [he]; decide), he]; rfl
    · rw [wr (by omega) (by omega)]
      refine hag () hlt fun j hj => ?_
      by_cases e : j = k
      · rw [e]; unfold fcIx
        exact if_pos (by simpa using q)
      · exact hI2 j (by omega)
  have hk : k = a1.2.length := by omega
  subst hk
  have z2 : (eachE a1.2.length (fcIx a1.2)).2 = 0 := by rw [eachE_none hI2]
  have pk := prf_ok rok hl hI hI2
  have e98 : f92 (a0, a1) = decide (combI a0 a1.1 a1.2 = z3) := rfl
  have e99 : f28 (a0, a1) = totL (pickI a0 a1.1) a1.2 := rfl
  have e3 : prfE a0 a1.1 a1.2 = if combI a0 a1.1 a1.2 ≠ z3 then 3 else if apart (totL (pickI a0 a1.1) a1.2) = true then 0 else 17 := by
    rw [e2, if_neg (fun hh => hh z2)]
  rw [e98, e99]
  refine ⟨pk, br_two (fun q => hK _ ?_) fun q => ⟨pk.tot, ?_⟩⟩
  · have hc : combI a0 a1.1 a1.2 ≠ z3 := by simpa using q
    rw [e0, e3, if_pos hc]
  have hc : combI a0 a1.1 a1.2 = z3 := by simpa using q
  have e4 : prfE a0 a1.1 a1.2 = if apart (totL (pickI a0 a1.1) a1.2) = true then 0 else 17 := by
    rw [e3, if_neg (fun hh => hh hc)]
  generalize totL (pickI a0 a1.1) a1.2 = r at *
  refine br_if (fun q1 => br_if (fun q2 => hK _ ?_) fun q2 => hK _ ?_) fun q1 => hK _ ?_
  · have ha : apart r = false := by unfold apart; rw [decide_eq_true ⟨q1, q2⟩]; rfl
    rw [e0, e4, ha]; rfl
  · have ha : apart r = true := by unfold apart; rw [decide_eq_false (fun hh => q2 hh.2)]; rfl
    rw [e0, e4, if_pos ha]
  · have ha : apart r = true := by unfold apart; rw [decide_eq_false (fun hh => q1 hh.1)]; rfl
    rw [e0, e4, if_pos ha]
theorem f27_fn : f27_e.fn = f27 := rfl
theorem f27_ok : EntryOK Tryz.prog 27 f27_e := by
  refine entryF progOK (EnvOK.cons f28_ok (EnvOK.cons f91_ok (EnvOK.cons f92_ok (EnvOK.cons f82_ok (EnvOK.nil))))) (A := f27_A) (d := 6) Tryz.func27 rfl rfl rfl rfl (fun h => by cases h) fun x hpre => ?_
  obtain ⟨a0, a1⟩ := x
  exact f27_t a0 a1 hpre _ fun _ h => h.trans (congrFun f27_fn.symm _)
end Go.Proofs.YtglijnhkdnhofaaGreat
end
