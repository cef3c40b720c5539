/- What functions of the program compute, each proved once, part 8. -/
import Derived.Test.YtglokajinehbmaaPiD
import Derived.Test.YtglokajinehbmaaFnA
import Derived.Test.YtglokajinehbmaaFnC
import Derived.Test.YtglokajinehbmaaFnD
import Derived.Test.YtglokajinehbmaaFnF
import Derived.Test.YtglokajinehbmaaFnE
import Derived.Test.YtglokajinehbmaaFnG

namespace Go.Proofs.Ytglokajinehbmaa
open Go Go.Pi Go.RowKit
set_option maxRecDepth 100000
set_option linter.unusedVariables false
set_option linter.unusedSimpArgs false

def f12 (x : ((List (List Int) × List (List Int)) × List (ByteArray × Int × Int × Int × Int) × List Int) × List Int × Int) : Bool := true
theorem contL_shape {p : Prob} : ∀ (o : List Int) (out l : List (Int × Int)), contL p out o = some l → l.take out.length = out ∧ ∀ j, j < o.length →
    l.getD (out.length + j) (0, 0) = (o.getD j 0, soonF p (l.take (out.length + j)) (o.getD j 0)) ∧ soonF p (l.take (out.length + j)) (o.getD j 0) ≤ (p.2.1.getD (o.getD j 0).toNat arrD).2.2.2.1
  | [], out, l, e => by
    simp only [contL, Option.some.injEq] at e
    subst e
    exact ⟨List.take_length, fun j hj => by simp at hj⟩
  | a :: r, out, l, e => by
    simp only [contL] at e
    split at e
    · cases e
    · rename_i ht
      obtain ⟨h1, h2⟩ := contL_shape r _ l e
      have hlen : (out ++ [(a, soonF p out a)]).length = out.length + 1 := by simp
      rw [hlen] at h1 h2
      have ht0 : l.take out.length = out := by
        have := congrArg (List.take out.length) h1
        rw [List.take_take, List.take_append_of_le_length (Nat.le_refl _), List.take_length] at this
        rwa [show min out.length (out.length + 1) = out.length by omega] at this
      refine ⟨ht0, fun j hj => ?_⟩
      cases j with
      | zero =>
        simp only [Nat.add_zero, List.getD_cons_zero]
        rw [ht0]
        refine ⟨?_, by omega⟩
        have hlt : out.length < l.length := by
          have := congrArg List.length h1
          rw [List.length_take, hlen] at this
          omega
        have : (l.take (out.length + 1)).getD out.length (0, 0) = (a, soonF p out a) := by
          rw [h1]
          simp [List.getD_eq_getElem?_getD]
        rw [getD_lt (by rw [List.length_take]; omega), List.getElem_take] at this
        rw [getD_lt hlt]
        exact this
      | succ j =>
        have := h2 j (by simpa using hj)
        rw [show out.length + 1 + j = out.length + (j + 1) by omega] at this
        exact this
/-- The slots of an order. -/
structure OrdS (p : Prob) (o : List Int) (S : List (Int × Int)) : Prop where
  ok : okP p
  inA : ∀ a ∈ o, inA p a
  once : ∀ i, i < o.length → o.getD i 0 ∉ o.take i
  len : S.length = o.length
  at_ : ∀ i, i < o.length → S.getD i (0, 0) = (o.getD i 0, soonF p (S.take i) (o.getD i 0)) ∧ soonF p (S.take i) (o.getD i 0) ≤ (p.2.1.getD (o.getD i 0).toNat arrD).2.2.2.1
  valid : ∀ s ∈ S, slotV p s
theorem ordS_of {p : Prob} {o : List Int} (hok : okP p) (he : orderErr p o = 0) : OrdS p o (contF p [] o).1 ∧ (contF p [] o).2 = true := by
  unfold orderErr at he
  split at he
  · rename_i h; exact absurd he h
  · rename_i h
    have hc : ordChk p o = 0 := Classical.byContradiction h
    split at he
    · rename_i hb
      refine ⟨?_, hb⟩
      have hin := ordChk_zero hc
      unfold contF at hb ⊢
      cases e : contL p [] o with
      | none => rw [e] at hb; cases hb
      | some l =>
        obtain ⟨v1, v2⟩ := contL_ok hok.v o [] (fun s hs => (by cases hs)) hin l e
        obtain ⟨_, h2⟩ := contL_shape o [] l e
        simp only [List.length_nil, Nat.zero_add] at h2 v2
        exact ⟨hok, hin, fun i hi => (ordE_zero (eachE_zero hc i hi)).2, v2, h2, v1⟩
    · simp at he
theorem OrdS.slot1 {p : Prob} {o : List Int} {S : List (Int × Int)} (h : OrdS p o S) {i : Nat} (hi : i < o.length) (t : Int) : slot1 p (S.take i) (o.getD i 0, t) = 0 := by
  have ha := h.inA (o.getD i 0) (by rw [getD_lt hi]; exact List.getElem_mem _)
  obtain ⟨a1, a2⟩ := ha
  rw [Go.Proofs.Ytglokajinehbmaa.slot1, if_neg (fun hh => hh ⟨a1, by simp only; omega⟩), if_neg]
  intro hh
  obtain ⟨s, hs, he⟩ := List.any_eq_true.1 hh
  obtain ⟨j, hj, rfl⟩ := List.getElem_of_mem hs
  rw [List.length_take] at hj
  have hjS : j < S.length := by omega
  have hjo : j < o.length := by have := h.len; omega
  rw [List.getElem_take] at he
  have hat := (h.at_ j hjo).1
  rw [getD_lt hjS] at hat
  rw [hat] at he
  have he : o.getD j 0 = o.getD i 0 := by simpa using he
  apply h.once i hi
  rw [← he, getD_lt hjo]
  exact List.mem_take_iff_getElem.2 ⟨j, by omega, rfl⟩
theorem OrdS.slE {p : Prob} {o : List Int} {S : List (Int × Int)} (h : OrdS p o S) {i : Nat} (hi : i < o.length) : slE p S i = 0 := by
  obtain ⟨e, hl⟩ := h.at_ i hi
  have hge := (soonF_le (p := p) (a := o.getD i 0) (t := soonF p (S.take i) (o.getD i 0)) (l := S.take i)).1 (Int.le_refl _)
  unfold Go.Proofs.Ytglokajinehbmaa.slE
  rw [e]
  rw [if_neg (fun hh => hh (h.slot1 hi _)), if_neg (fun hh => hh ⟨hge.1, hl⟩), if_neg (by simp only; omega)]
theorem OrdS.slots {p : Prob} {o : List Int} {S : List (Int × Int)} (h : OrdS p o S) : slotsErr p S = 0 := by
  rw [slotsErr, eachE_none fun i hi => h.slE (by have := h.len; omega)]
/-- One second less in the last slot, and the slots are none. -/
theorem OrdS.less {p : Prob} {o : List Int} {S : List (Int × Int)} (h : OrdS p o S) {i : Nat} (hi : i < o.length) : slotsErr p ((S.take (i + 1)).set i (o.getD i 0, (S.getD i (0, 0)).2 - 1)) ≠ 0 := by
  intro hz
  have hS : i < S.length := by have := h.len; omega
  have hTl : ((S.take (i + 1)).set i (o.getD i 0, (S.getD i (0, 0)).2 - 1)).length = i + 1 := by rw [List.length_set, List.length_take]; omega
  have h0 := eachE_zero hz i (by omega)
  have e1 : ((S.take (i + 1)).set i (o.getD i 0, (S.getD i (0, 0)).2 - 1)).getD i (0, 0) = (o.getD i 0, (S.getD i (0, 0)).2 - 1) := by
    rw [getD_lt (by omega), List.getElem_set_self]
  have e2 : ((S.take (i + 1)).set i (o.getD i 0, (S.getD i (0, 0)).2 - 1)).take i = S.take i := by
    rw [List.take_set_of_le (Nat.le_refl _), List.take_take]
    rw [show min i (i + 1) = i by omega]
  obtain ⟨e, hl⟩ := h.at_ i hi
  unfold Go.Proofs.Ytglokajinehbmaa.slE at h0
  rw [e1, e2, if_neg (fun hh => hh (h.slot1 hi _)), e] at h0
  split at h0
  · simp at h0
  · rw [if_pos (by simp only; omega)] at h0
    simp at h0
theorem minL_ge {b : Int} : ∀ {l : List Int}, 0 < l.length → (∀ x ∈ l, b ≤ x) → b ≤ minL l := by
  intro l h0 h
  cases l with
  | nil => simp at h0
  | cons a r =>
    unfold minL
    simp only [List.drop_succ_cons, List.drop_zero, List.getD_cons_zero]
    have ha := h a (.head _)
    have hr : ∀ x ∈ r, b ≤ x := fun x hx => h x (.tail _ hx)
    clear h h0
    induction r generalizing a with
    | nil => exact ha
    | cons y r ih =>
      have hy := hr y (.head _)
      exact ih (min a y) (by omega) (fun x hx => hr x (.tail _ hx))
theorem minL_le {l : List Int} {x : Int} (hx : x ∈ l) : minL l ≤ x := by
  cases l with
  | nil => cases hx
  | cons a r =>
    unfold minL
    simp only [List.drop_succ_cons, List.drop_zero, List.getD_cons_zero]
    have key : ∀ (r : List Int) (a : Int), r.foldl min a ≤ a ∧ ∀ y ∈ r, r.foldl min a ≤ y := by
      intro r
      induction r with
      | nil => exact fun a => ⟨Int.le_refl _, fun y hy => by cases hy⟩
      | cons z r ih =>
        intro a
        obtain ⟨h1, h2⟩ := ih (min a z)
        refine ⟨by simp only [List.foldl_cons]; omega, fun y hy => ?_⟩
        simp only [List.foldl_cons]
        rcases List.mem_cons.1 hy with rfl | hy
        · omega
        · exact h2 y hy
    rcases List.mem_cons.1 hx with rfl | hx
    · exact (key r x).1
    · exact (key r a).2 x hx
theorem OrdS.mar {p : Prob} {o : List Int} {S : List (Int × Int)} (h : OrdS p o S) {i : Nat} (hi : i < o.length) (h1 : 1 ≤ i) : 0 ≤ minL (marF p S i) ∧ (minL (marF p S i) > 0 → (S.getD i (0, 0)).2 = (p.2.1.getD (o.getD i 0).toNat arrD).2.2.1) := by
  have hS : i < S.length := by have := h.len; omega
  obtain ⟨e, hl⟩ := h.at_ i hi
  have hge := (soonF_le (p := p) (a := o.getD i 0) (t := soonF p (S.take i) (o.getD i 0)) (l := S.take i)).1 (Int.le_refl _)
  have each : ∀ k, k < i → (S.getD k (0, 0)).2 + apartF p (S.getD k (0, 0)).1 (o.getD i 0) ≤ soonF p (S.take i) (o.getD i 0) := fun k hk => by
    refine hge.2 _ ?_
    rw [getD_lt (by omega)]
    exact List.mem_take_iff_getElem.2 ⟨k, by omega, rfl⟩
  have hget : ∀ k, k < i → (marF p S i).getD k 0 = soonF p (S.take i) (o.getD i 0) - (S.getD k (0, 0)).2 - apartF p (S.getD k (0, 0)).1 (o.getD i 0) := fun k hk => by
    rw [marF_get p S hk, e]
  refine ⟨minL_ge (by rw [marF_len]; omega) fun x hx => ?_, fun hpos => ?_⟩
  · obtain ⟨k, hk, rfl⟩ := List.getElem_of_mem hx
    rw [marF_len] at hk
    have := each k hk
    rw [← getD_lt (d := 0) (by rw [marF_len]; exact hk), hget k hk]
    omega
  · have hle : soonF p (S.take i) (o.getD i 0) ≤ max (p.2.1.getD (o.getD i 0).toNat arrD).2.2.1 (soonF p (S.take i) (o.getD i 0) - 1) := by
      refine soonF_le.2 ⟨by omega, fun s hs => ?_⟩
      obtain ⟨k, hk, rfl⟩ := List.getElem_of_mem hs
      rw [List.length_take] at hk
      rw [List.getElem_take]
      have hm := minL_le (l := marF p S i) (x := (marF p S i).getD k 0) (by rw [getD_lt (by rw [marF_len]; omega)]; exact List.getElem_mem _)
      rw [hget k (by omega), getD_lt (l := S) (show k < S.length by omega)] at hm
      omega
    rw [e]
    simp only
    omega
def shiftS (d : Int) (S : List (Int × Int)) : List (Int × Int) := S.map fun s => (s.1, s.2 + d)
theorem shift_getD {d : Int} {S : List (Int × Int)} {i : Nat} (hi : i < S.length) : (shiftS d S).getD i (0, 0) = ((S.getD i (0, 0)).1, (S.getD i (0, 0)).2 + d) := by
  rw [getD_lt (by simpa [shiftS] using hi), getD_lt hi]
  simp [shiftS]
theorem shift_marg (p : Prob) (d : Int) (S : List (Int × Int)) : marg p (shiftS d S) = marg p S := by
  have hlen : (shiftS d S).length = S.length := by simp [shiftS]
  unfold marg
  rw [hlen]
  apply List.map_congr_left
  intro j hj
  have hj := List.mem_range.1 hj
  congr 1
  unfold marF
  apply List.map_congr_left
  intro k hk
  have hk := List.mem_range.1 hk
  rw [shift_getD (by omega), shift_getD (by omega)]
  simp only
  omega
def f12_e : Entry := { doms := [(true, (.pair (.pair (.sl (.sl (.int .i64))) (.sl (.sl (.int .i64)))) (.pair (.sl (.pair .str (.pair (.int .i64) (.pair (.int .i64) (.pair (.int .i64) (.int .i64)))))) (.sl (.int .i64))))), (false, (.sl (.int .i64))), (false, (.int .i64))], cods := [(false, .bool)], pre := fun _ => True, fn := f12, uq := false, total := true }
def f12_E : Env := [(13, f13_e), (17, f17_e), (20, f20_e), (21, f21_e), (25, f25_e), (27, f27_e), (38, f38_e), (39, f39_e), (40, f40_e), (41, f41_e), (42, f42_e), (44, f44_e), (55, f55_e), (56, f56_e), (58, f58_e), (57, f57_e)]
def f12_A : Anns := { loops := [(1048576, { tms := [(1, .keep), (2, .keep), (3, .keep), (7, .keep), (9, .ref 1062923), (10, .ref 1063949), (11, .data false (.int .i64))], obs := [(1048576, .keep), (1062923, .arr (.uniq) (.pair (.int .i64) (.int .i64))), (1063949, .arr (.uniq) (.pair (.int .i64) (.int .i64))), (1102738096128, .keep)], fz := [] }),
  (1048578, { tms := [(1, .keep), (3, .keep), (7, .keep), (9, .keep), (10, .keep), (14, .keep), (18, .data false (.int .i64))], obs := [(1048576, .keep), (1062923, .keep), (1063949, .keep), (1102738096128, .keep)], fz := [] })], own := [1073156] }
theorem f12_run (a0 : (List (List Int) × List (List Int)) × List (ByteArray × Int × Int × Int × Int) × List Int) (a1 : List Int) (a2 : Int) (K : Bool → Prop) : runF Try.prog f12_E f12_A 6 Try.f12 f12_e.doms f12_e.cods (a0, a1, a2) K =
    (br (!(f13 ()))
    (K false)
    (br (!(f21 a0))
    (K true)
    (br ((f27 a0).2 != 0)
    (K true)
    (br (lenOk (a1.length))
    (br (lenOk (a0.2.1.length))
    (br (((a1.length) : Int) != ((a0.2.1.length) : Int))
    (K true)
    (f42_pre (a0, a1) ∧
    br ((f42 (a0, a1)) != 0)
    (K true)
    (br (!(f17 (a2, (0, 100))))
    (K true)
    (f25_pre a0 ∧
    f20_pre a1 ∧
    f40_pre ((((f25 a0).1), ((f25 a0).2)), (f20 a1)) ∧
    br ((f40 ((((f25 a0).1), ((f25 a0).2)), (f20 a1))).2 != 0)
    (K false)
    (br (lenOk (((f40 ((((f25 a0).1), ((f25 a0).2)), (f20 a1))).1).length))
    (br (lenOk (a1.length))
    (br (((((f40 ((((f25 a0).1), ((f25 a0).2)), (f20 a1))).1).length) : Int) != ((a1.length) : Int))
    (K false)
    (LoopP (V := Int × List (Int × Int) × List (Int × Int) × Unit) (fun again v => (fun (again1 : Int → List (Int × Int) → List (Int × Int) → Prop) (v1_0 : Int) (v1_1 : List (Int × Int)) (v1_2 : List (Int × Int)) =>
    br (lenOk (((f40 ((((f25 a0).1), ((f25 a0).2)), (f20 a1))).1).length))
    (br (decide (v1_0 < ((((f40 ((((f25 a0).1), ((f25 a0).2)), (f20 a1))).1).length) : Int)))
    (br (decide (0 ≤ v1_0) && decide (v1_0 < ((((f40 ((((f25 a0).1), ((f25 a0).2)), (f20 a1))).1).length) : Int)))
    (br (!(f17 ((((f40 ((((f25 a0).1), ((f25 a0).2)), (f20 a1))).1).getD v1_0.toNat 0), (0, 100000))))
    (K false)
    (br (decide (0 ≤ v1_0) && decide (v1_0 < ((a1.length) : Int)))
    (br (decide (0 ≤ v1_0) && decide (v1_0 < ((((f40 ((((f25 a0).1), ((f25 a0).2)), (f20 a1))).1).length) : Int)))
    (br (roomOk ((v1_1.length) + 1) 16)
    (br (decide (0 ≤ v1_0) && decide (v1_0 < ((a1.length) : Int)))
    (br (decide (0 ≤ v1_0) && decide (v1_0 < ((((f40 ((((f25 a0).1), ((f25 a0).2)), (f20 a1))).1).length) : Int)))
    (br (roomOk ((v1_2.length) + 1) 16)
    (again1 (IntKind.i64.wrap (v1_0 + 1)) (v1_1 ++ ([((a1.getD v1_0.toNat 0), (((f40 ((((f25 a0).1), ((f25 a0).2)), (f20 a1))).1).getD v1_0.toNat 0))] : List (Int × Int))) (v1_2 ++ ([((a1.getD v1_0.toNat 0), (IntKind.i64.wrap ((((f40 ((((f25 a0).1), ((f25 a0).2)), (f20 a1))).1).getD v1_0.toNat 0) + a2)))] : List (Int × Int))))
    False)
    False)
    False)
    False)
    False)
    False))
    False)
    (f25_pre a0 ∧
    f39_pre v1_1 ∧
    f38_pre ((((f25 a0).1), ((f25 a0).2)), (f39 v1_1)) ∧
    f25_pre a0 ∧
    f39_pre v1_1 ∧
    f55_pre ((((f25 a0).1), ((f25 a0).2)), (f39 v1_1)) ∧
    f25_pre a0 ∧
    f20_pre a1 ∧
    f41_pre ((((f25 a0).1), ((f25 a0).2)), (f20 a1)) ∧
    br ((f38 ((((f25 a0).1), ((f25 a0).2)), (f39 v1_1))).2 != 0)
    (K false)
    (br ((f41 ((((f25 a0).1), ((f25 a0).2)), (f20 a1))).2 != 0)
    (K false)
    (br ((f38 ((((f25 a0).1), ((f25 a0).2)), (f39 v1_1))).1 != (f41 ((((f25 a0).1), ((f25 a0).2)), (f20 a1))).1)
    (K false)
    (br ((f55 ((((f25 a0).1), ((f25 a0).2)), (f39 v1_1))).2 != 0)
    (K false)
    (br (lenOk (((f55 ((((f25 a0).1), ((f25 a0).2)), (f39 v1_1))).1).length))
    (br (lenOk (((f40 ((((f25 a0).1), ((f25 a0).2)), (f20 a1))).1).length))
    (br (((((f55 ((((f25 a0).1), ((f25 a0).2)), (f39 v1_1))).1).length) : Int) != (minmax true 0 (IntKind.i64.wrap (((((f40 ((((f25 a0).1), ((f25 a0).2)), (f20 a1))).1).length) : Int) - 1))))
    (K false)
    (LoopP (V := Int × Unit) (fun again v => (fun (again2 : Int → Prop) (v2_0 : Int) =>
    br (lenOk (((f40 ((((f25 a0).1), ((f25 a0).2)), (f20 a1))).1).length))
    (br (decide (v2_0 < ((((f40 ((((f25 a0).1), ((f25 a0).2)), (f20 a1))).1).length) : Int)))
    (br (decide ((0 : Int) ≤ 0 ∧ 0 ≤ (IntKind.i64.wrap (v2_0 + 1)) ∧ (IntKind.i64.wrap (v2_0 + 1)) ≤ ((v1_1.length) : Int)))
    (f39_pre ((v1_1.take ((IntKind.i64.wrap (v2_0 + 1)).toNat)).drop 0) ∧
    br (decide (0 ≤ v2_0) && decide (v2_0 < (((f39 ((v1_1.take ((IntKind.i64.wrap (v2_0 + 1)).toNat)).drop 0)).length) : Int)))
    (br (decide (0 ≤ v2_0) && decide (v2_0 < (((f39 ((v1_1.take ((IntKind.i64.wrap (v2_0 + 1)).toNat)).drop 0)).length) : Int)))
    (f58_pre (a0, ((f39 ((v1_1.take ((IntKind.i64.wrap (v2_0 + 1)).toNat)).drop 0)).set v2_0.toNat (((f39 ((v1_1.take ((IntKind.i64.wrap (v2_0 + 1)).toNat)).drop 0)).getD v2_0.toNat (0, 0)).1, (IntKind.i64.wrap (((f39 ((v1_1.take ((IntKind.i64.wrap (v2_0 + 1)).toNat)).drop 0)).getD v2_0.toNat (0, 0)).2 - 1))))) ∧
    br ((f58 (a0, ((f39 ((v1_1.take ((IntKind.i64.wrap (v2_0 + 1)).toNat)).drop 0)).set v2_0.toNat (((f39 ((v1_1.take ((IntKind.i64.wrap (v2_0 + 1)).toNat)).drop 0)).getD v2_0.toNat (0, 0)).1, (IntKind.i64.wrap (((f39 ((v1_1.take ((IntKind.i64.wrap (v2_0 + 1)).toNat)).drop 0)).getD v2_0.toNat (0, 0)).2 - 1)))))) == 0)
    (K false)
    (br (decide (v2_0 > 0))
    (br (decide (0 ≤ (IntKind.i64.wrap (v2_0 - 1))) && decide ((IntKind.i64.wrap (v2_0 - 1)) < ((((f55 ((((f25 a0).1), ((f25 a0).2)), (f39 v1_1))).1).length) : Int)))
    (br (decide ((((f55 ((((f25 a0).1), ((f25 a0).2)), (f39 v1_1))).1).getD ((IntKind.i64.wrap (v2_0 - 1)).toNat) 0) < 0))
    (K false)
    (br (decide (0 ≤ (IntKind.i64.wrap (v2_0 - 1))) && decide ((IntKind.i64.wrap (v2_0 - 1)) < ((((f55 ((((f25 a0).1), ((f25 a0).2)), (f39 v1_1))).1).length) : Int)))
    (br (decide ((((f55 ((((f25 a0).1), ((f25 a0).2)), (f39 v1_1))).1).getD ((IntKind.i64.wrap (v2_0 - 1)).toNat) 0) > 0))
    (br (decide (0 ≤ v2_0) && decide (v2_0 < ((((f40 ((((f25 a0).1), ((f25 a0).2)), (f20 a1))).1).length) : Int)))
    (br (decide (0 ≤ v2_0) && decide (v2_0 < ((a1.length) : Int)))
    (br (decide (0 ≤ (a1.getD v2_0.toNat 0)) && decide ((a1.getD v2_0.toNat 0) < ((a0.2.1.length) : Int)))
    (br ((((f40 ((((f25 a0).1), ((f25 a0).2)), (f20 a1))).1).getD v2_0.toNat 0) != (((a0.2.1.getD ((a1.getD v2_0.toNat 0).toNat) ((⟨#[]⟩ : ByteArray), (0, (0, (0, 0))))).2).2).1)
    (K false)
    (again2 (IntKind.i64.wrap (v2_0 + 1))))
    False)
    False)
    False)
    (again2 (IntKind.i64.wrap (v2_0 + 1))))
    False))
    False)
    (again2 (IntKind.i64.wrap (v2_0 + 1)))))
    False)
    False)
    False)
    (f56_pre (a0, v1_2) ∧
    br ((f56 (a0, v1_2)) != 0)
    (K true)
    (f25_pre a0 ∧
    f39_pre v1_2 ∧
    f55_pre ((((f25 a0).1), ((f25 a0).2)), (f39 v1_2)) ∧
    br ((f55 ((((f25 a0).1), ((f25 a0).2)), (f39 v1_2))).2 == 0)
    (K (f44 ((f55 ((((f25 a0).1), ((f25 a0).2)), (f39 v1_2))).1, (f55 ((((f25 a0).1), ((f25 a0).2)), (f39 v1_1))).1)))
    (K false))))
    True)
    (fun v2_0 => again (v2_0, ())) v.1) (0, ())))
    True)
    True))))))
    True)
    (fun v1_0 v1_1 v1_2 => again (v1_0, v1_1, v1_2, ())) v.1 v.2.1 v.2.2.1) (0, ([] : List (Int × Int)), ([] : List (Int × Int)), ())))
    True)
    True)))))
    True)
    True)))) := by kernel_rfl
theorem f12_t (a0 : (List (List Int) × List (List Int)) × List (ByteArray × Int × Int × Int × Int) × List Int) (a1 : List Int) (a2 : Int) (K : Bool → Prop) (hK : ∀ y : Bool, y = f12 (a0, a1, a2) → K y) : RunF Try.prog f12_E f12_A 6 Try.f12 f12_e.doms f12_e.cods (a0, a1, a2) K := by
  refine ⟨?_⟩
  rw [f12_run a0 a1 a2 K]
  have hT : K true := hK _ rfl
  rw [show (!(f13 ())) = false from rfl, br_f, br_both]
  refine ⟨fun _ => hT, fun hs => ?_⟩
  obtain ⟨m1, m2, m3⟩ := small_pre (not_false_.1 hs)
  have e27 : f27 a0 = probOf a0 := rfl
  rw [e27, br_both]
  refine ⟨fun _ => hT, fun hp => ?_⟩
  have hok : okP a0 := by
    have : (probOf a0).2 = 0 := by simpa using hp
    exact this
  have hv := hok.v
  have h6 := hv.six
  rw [br_true_]
  intro _
  rw [br_true_]
  intro _
  rw [br_both]
  refine ⟨fun _ => hT, fun hlen => ?_⟩
  have hlen := cast_ne_f.1 hlen
  refine ⟨⟨hok, by simp only; omega⟩, ?_⟩
  have e42 : f42 (a0, a1) = orderErr a0 a1 := rfl
  rw [e42, br_both]
  refine ⟨fun _ => hT, fun ho => ?_⟩
  have ho : orderErr a0 a1 = 0 := by simpa using ho
  obtain ⟨hS, hb⟩ := ordS_of hok ho
  rw [br_both]
  refine ⟨fun _ => hT, fun hd => ?_⟩
  have hd := f17_t1.1 (not_false_.1 hd)
  have p91 : f91_pre (a0, a1) := ⟨m3, by simp only; omega⟩
  have p20 : f20_pre a1 := by show a1.length ≤ 1048576; omega
  have e40 : f40 (((f25 a0).1, (f25 a0).2), f20 a1) = f40 (a0, a1) := rfl
  have e41 : f41 (((f25 a0).1, (f25 a0).2), f20 a1) = f41 (a0, a1) := rfl
  have h91 : (f91 (a0, a1)).2.2 = 0 := by
    have hc : ordChk a0 a1 = 0 := by
      unfold orderErr at ho
      split at ho
      · rename_i h; exact absurd ho h
      · rename_i h; exact Classical.byContradiction h
    rw [f91, if_neg (fun hh => hh hok), if_neg (fun hh => hh hc), hb]
    rfl
  obtain ⟨_, _, he91, _⟩ := f91_ok2 h91
  have c40 : f40 (a0, a1) = ((contF a0 [] a1).1.map (·.2), 0) := by rw [f40, if_neg (by simp [h91]), he91]
  have c41 : f41 (a0, a1) = (costF a0 (contF a0 [] a1).1, 0) := by rw [f41, if_neg (by simp [h91]), he91]
  simp only [e40, e41, c40, c41, bne_self_eq_false, br_f]
  generalize (contF a0 [] a1).1 = L at hS
  refine ⟨m1, p20, p91, ?_⟩
  have hLl := hS.len
  have hTl : (L.map (·.2)).length = L.length := List.length_map ..
  rw [br_true_]
  intro _
  rw [br_true_]
  intro _
  rw [br_both]
  refine ⟨fun h => absurd (cast_ne.1 h) (by rw [hTl]; omega), fun _ => ?_⟩
  refine LoopP.of (fun q : Int × List (Int × Int) × List (Int × Int) × Unit => ∃ i : Nat, i ≤ L.length ∧ q.1 = (i : Int) ∧ q.2.1 = L.take i ∧ q.2.2.1 = (shiftS a2 L).take i) (fun q => ((L.length : Int) - q.1).toNat) (fun again q hq hag => ?_) ⟨0, by omega, rfl, rfl, rfl⟩
  obtain ⟨ii, pl, sh, u⟩ := q
  obtain ⟨i, hi, e1, e2, e3⟩ := hq
  simp only at e1 e2 e3
  subst e1 e2 e3
  dsimp only
  have hshl : (shiftS a2 L).length = L.length := by simp [shiftS]
  rw [hTl, br_true_]
  intro _
  rw [br_dec]
  refine ⟨fun hlt => ?_, fun hlt => ?_⟩
  · have hlt : i < L.length := by omega
    have b0 : (decide (0 ≤ (i : Int)) && decide ((i : Int) < (L.length : Int))) = true := inb (by omega) (by omega)
    have b1 : (decide (0 ≤ (i : Int)) && decide ((i : Int) < (a1.length : Int))) = true := inb (by omega) (by omega)
    rw [b0, b1]
    simp only [Int.toNat_natCast, br_t]
    have hat := (hS.at_ i (by omega)).1
    have hval := hS.valid (L.getD i (0, 0)) (by rw [getD_lt hlt]; exact List.getElem_mem _)
    have ht : (L.map (·.2)).getD i 0 = (L.getD i (0, 0)).2 := by
      rw [getD_lt (by rw [hTl]; exact hlt), getD_lt hlt, List.getElem_map]
    have ho1 : a1.getD i 0 = (L.getD i (0, 0)).1 := by rw [hat]
    rw [ht, ho1]
    have v2 := hval.2
    rw [f17_t1.2 ⟨v2.1, v2.2⟩, Bool.not_true, br_f, br_false_, br_false_, roomOk_iff, roomOk_iff, wr (n := (L.getD i (0, 0)).2 + a2) (by omega) (by omega), wr (n := (i : Int) + 1) (by omega) (by omega)]
    refine ⟨by rw [List.length_take]; omega, by rw [List.length_take, hshl]; omega, hag (_, _, _, ()) ⟨i + 1, by omega, by simp only; omega, ?_, ?_⟩ (by simp only; omega)⟩
    · rw [List.take_add_one, List.getElem?_eq_getElem hlt, ← getD_lt (d := (0, 0)) hlt]
      rfl
    · have hlt2 : i < (shiftS a2 L).length := by omega
      rw [List.take_add_one, List.getElem?_eq_getElem hlt2, ← getD_lt (d := (0, 0)) hlt2, shift_getD hlt]
      rfl
  · have hiL : i = L.length := by omega
    subst hiL
    rw [List.take_length, List.take_of_length_le (by omega)]
    have hle8 : L.length ≤ 6 := by omega
    have p39 : f39_pre L := by show L.length ≤ 1000; omega
    have p38 : f38_pre (a0, L) := ⟨m3, by simp only; omega⟩
    have p55 : f55_pre (a0, L) := ⟨m3, by simp only; omega⟩
    have hpl : planE a0 L = 0 := (if_pos hok).trans hS.slots
    have e38 : f38 (((f25 a0).1, (f25 a0).2), f39 L) = (costF a0 L, 0) := by
      show (if planE a0 L ≠ 0 then (0, planE a0 L) else if L.length ≠ a0.2.1.length then (0, 10) else (costF a0 L, 0)) = _
      rw [if_neg (fun hh => hh hpl), if_neg (fun hh => hh (by omega))]
    have hlz : looseErr a0 L = 0 := by
      rw [looseErr, eachE_none fun i hi => ?_]
      obtain ⟨e, _⟩ := hS.at_ i (by omega)
      have hvl := hS.valid (L.getD i (0, 0)) (by rw [getD_lt hi]; exact List.getElem_mem _)
      rw [looseE, if_neg (fun hh => hh (by rw [e]; exact hS.slot1 (by omega) _)), if_neg (fun hh => hh hvl.2)]
    have e55 : f55 (((f25 a0).1, (f25 a0).2), f39 L) = (marg a0 L, 0) := by
      show (if (probOf a0).2 ≠ 0 then ([], (probOf a0).2) else if looseErr a0 L ≠ 0 then ([], looseErr a0 L) else (marg a0 L, 0)) = _
      rw [if_neg (fun hh => hh hok), if_neg (fun hh => hh hlz)]
    have hml : (marg a0 L).length = L.length - 1 := by simp [marg]
    simp only [e38, e55, bne_self_eq_false, br_f]
    refine ⟨m1, p39, p38, m1, p39, p55, m1, p20, p91, ?_⟩
    rw [br_true_]
    intro _
    rw [br_true_]
    intro _
    rw [minmax_max, wr (n := (L.length : Int) - 1) (by omega) (by omega), hml, show ((((L.length - 1 : Nat) : Int)) != max 0 ((L.length : Int) - 1)) = false from bne_eq_false_iff_eq.2 (by omega), br_f]
    refine LoopP.up L.length (fun _ _ => True) (fun again2 i2 v hi0 hi1 _ hag2 => ?_) (by omega) trivial
    obtain ⟨i, rfl⟩ := Int.eq_ofNat_of_zero_le hi0
    dsimp only
    rw [br_true_]
    intro _
    rw [br_dec]
    refine ⟨fun hlt2 => ?_, fun _ => ?_⟩
    · have hlt : i < L.length := by omega
      have hat := (hS.at_ i (by omega)).1
      have hval := hS.valid (L.getD i (0, 0)) (by rw [getD_lt hlt]; exact List.getElem_mem _)
      have v2 := hval.2
      have e39 : ∀ l, f39 l = l := fun _ => rfl
      have htl : (L.take (i + 1)).length = i + 1 := by rw [List.length_take]; omega
      have hget : (L.take (i + 1)).getD i (0, 0) = L.getD i (0, 0) := by
        rw [getD_lt (by omega), getD_lt hlt, List.getElem_take]
      have w1 : IntKind.i64.wrap ((i : Int) + 1) = (i : Int) + 1 := wr (by omega) (by omega)
      have n1 : ((i : Int) + 1).toNat = i + 1 := by omega
      simp only [e39, w1, n1, List.drop_zero, Int.toNat_natCast, htl, hget]
      rw [br_false_]
      refine ⟨by simp; omega, show (L.take (i + 1)).length ≤ 1000 by omega, ?_⟩
      have c0 : (decide (0 ≤ (i : Int)) && decide ((i : Int) < ((i + 1 : Nat) : Int))) = true := inb (by omega) (by omega)
      rw [c0]
      simp only [br_t]
      rw [wr (n := (L.getD i (0, 0)).2 - 1) (by omega) (by omega)]
      refine ⟨hok, ?_⟩
      have hless := hS.less (i := i) (by omega)
      have hset : ((L.take (i + 1)).set i ((L.getD i (0, 0)).1, (L.getD i (0, 0)).2 - 1)) = ((L.take (i + 1)).set i (a1.getD i 0, (L.getD i (0, 0)).2 - 1)) := by rw [hat]
      rw [hset]
      have e58 : f58 (a0, (L.take (i + 1)).set i (a1.getD i 0, (L.getD i (0, 0)).2 - 1)) = slotsErr a0 ((L.take (i + 1)).set i (a1.getD i 0, (L.getD i (0, 0)).2 - 1)) := rfl
      rw [e58, beq_eq_false_iff_ne.2 hless, br_f, br_dec]
      refine ⟨fun hpos => ?_, fun _ => hag2 () (by omega) trivial⟩
      have w2 : IntKind.i64.wrap ((i : Int) - 1) = (i : Int) - 1 := wr (by omega) (by omega)
      have n2 : ((i : Int) - 1).toNat = i - 1 := by omega
      have hmg : (marg a0 L).getD (i - 1) 0 = minL (marF a0 L i) := by
        unfold marg
        rw [range_getD (by omega), show i - 1 + 1 = i by omega]
      obtain ⟨g1, g2⟩ := hS.mar (i := i) (by omega) (by omega)
      have c1 : (decide (0 ≤ (i : Int) - 1) && decide ((i : Int) - 1 < ((L.length - 1 : Nat) : Int))) = true := inb (by omega) (by omega)
      rw [w2, n2, c1, hmg]
      simp only [br_t]
      rw [br_dec]
      refine ⟨fun h => by omega, fun _ => ?_⟩
      rw [br_dec]
      refine ⟨fun hpos2 => ?_, fun _ => hag2 () (by omega) trivial⟩
      have ha := hS.inA (a1.getD i 0) (by rw [getD_lt (by omega)]; exact List.getElem_mem _)
      have ht : (L.map (·.2)).getD i 0 = (L.getD i (0, 0)).2 := by
        rw [getD_lt (by rw [hTl]; exact hlt), getD_lt hlt, List.getElem_map]
      have hd0 : ((⟨#[]⟩ : ByteArray), ((0 : Int), ((0 : Int), ((0 : Int), (0 : Int))))) = arrD := rfl
      rw [br_false_]
      refine ⟨inb (by omega) (by omega), ?_⟩
      rw [br_false_]
      refine ⟨inb (by omega) (by omega), ?_⟩
      rw [br_false_]
      refine ⟨inb ha.1 ha.2, ?_⟩
      rw [ht, hd0, g2 hpos2]
      rw [show ((a0.2.1.getD (a1.getD i 0).toNat arrD).2.2.1 != (a0.2.1.getD (a1.getD i 0).toNat arrD).2.2.1) = false from bne_self_eq_false _, br_f]
      exact hag2 () (by omega) trivial
    · refine ⟨show a0.2.1.length ≤ 1000 by omega, ?_⟩
      have e56 : f56 (a0, shiftS a2 L) = looseErr a0 (shiftS a2 L) := rfl
      rw [e56, br_both]
      refine ⟨fun _ => hT, fun hl0 => ?_⟩
      have hl0 : looseErr a0 (shiftS a2 L) = 0 := by simpa using hl0
      have e55s : f55 (((f25 a0).1, (f25 a0).2), f39 (shiftS a2 L)) = (marg a0 L, 0) := by
        show (if (probOf a0).2 ≠ 0 then ([], (probOf a0).2) else if looseErr a0 (shiftS a2 L) ≠ 0 then ([], looseErr a0 (shiftS a2 L)) else (marg a0 (shiftS a2 L), 0)) = _
        rw [if_neg (fun hh => hh hok), if_neg (fun hh => hh hl0), shift_marg]
      refine ⟨m1, by show (shiftS a2 L).length ≤ 1000; omega, ⟨m3, by show (shiftS a2 L).length ≤ 1000; omega⟩, ?_⟩
      rw [e55s]
      show K (f44 (marg a0 L, marg a0 L))
      rw [show f44 (marg a0 L, marg a0 L) = true from decide_eq_true rfl]
      exact hT
theorem f12_fn : f12_e.fn = f12 := rfl
theorem f12_ok : EntryOK Try.prog 12 f12_e := by
  refine entryF progOK (EnvOK.cons f13_ok (EnvOK.cons f17_ok (EnvOK.cons f20_ok (EnvOK.cons f21_ok (EnvOK.cons f25_ok (EnvOK.cons f27_ok (EnvOK.cons f38_ok (EnvOK.cons f39_ok (EnvOK.cons f40_ok (EnvOK.cons f41_ok (EnvOK.cons f42_ok (EnvOK.cons f44_ok (EnvOK.cons f55_ok (EnvOK.cons f56_ok (EnvOK.cons f58_ok (EnvOK.cons f57_ok (EnvOK.nil))))))))))))))))) (A := f12_A) (d := 6) Try.func12 rfl rfl rfl (fun _ _ => trivial) fun x hpre => ?_
  obtain ⟨a0, a1, a2⟩ := x
  exact f12_t a0 a1 a2 _ fun _ h => h.trans (congrFun f12_fn.symm _)
end Go.Proofs.Ytglokajinehbmaa
