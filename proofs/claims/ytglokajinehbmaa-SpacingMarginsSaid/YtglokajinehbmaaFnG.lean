/- What functions of the program compute, each proved once, part 7. -/
import Derived.Test.YtglokajinehbmaaPiD
import Derived.Test.YtglokajinehbmaaFnA
import Derived.Test.YtglokajinehbmaaFnE
import Derived.Test.YtglokajinehbmaaFnF
import Derived.Test.YtglokajinehbmaaFnB

section
namespace Go.Proofs.Ytglokajinehbmaa
open Go Go.Pi Go.RowKit
set_option maxRecDepth 100000
set_option linter.unusedVariables false
set_option linter.unusedSimpArgs false

def looseE (p : Prob) (l : List (Int × Int)) (i : Nat) : Int := if slot1 p (l.take i) (l.getD i (0, 0)) ≠ 0 then slot1 p (l.take i) (l.getD i (0, 0)) else if ¬ (0 ≤ (l.getD i (0, 0)).2 ∧ (l.getD i (0, 0)).2 ≤ 100000) then 2 else 0
def looseErr (p : Prob) (l : List (Int × Int)) : Int := (eachE l.length (looseE p l)).2
theorem looseE_zero {p : Prob} {l : List (Int × Int)} {i : Nat} (h : looseE p l i = 0) : slotV p (l.getD i (0, 0)) := by
  unfold looseE at h
  split at h
  · rename_i h1; exact absurd h h1
  · rename_i h1
    obtain ⟨a1, _⟩ := slot1_zero (Classical.byContradiction h1)
    split at h
    · simp at h
    · rename_i h2
      exact ⟨a1, Classical.byContradiction h2⟩
theorem loose_valid {p : Prob} {l : List (Int × Int)} (h : looseErr p l = 0) : ∀ s ∈ l, slotV p s := fun s hs => by
  obtain ⟨j, hj, rfl⟩ := List.getElem_of_mem hs
  have := looseE_zero (eachE_zero h j hj)
  rwa [getD_lt hj] at this
def f56 (x : ((List (List Int) × List (List Int)) × List (ByteArray × Int × Int × Int × Int) × List Int) × List (Int × Int)) : Int := looseErr x.1 x.2
def f56_pre (x : ((List (List Int) × List (List Int)) × List (ByteArray × Int × Int × Int × Int) × List Int) × List (Int × Int)) : Prop := x.1.2.1.length ≤ 1000
def f56_e : Entry := { doms := [(true, (.pair (.pair (.sl (.sl (.int .i64))) (.sl (.sl (.int .i64)))) (.pair (.sl (.pair .str (.pair (.int .i64) (.pair (.int .i64) (.pair (.int .i64) (.int .i64)))))) (.sl (.int .i64))))), (false, (.sl (.pair (.int .i64) (.int .i64))))], cods := [(false, (.int .i64))], pre := f56_pre, fn := f56, uq := false, total := false }
def f56_E : Env := [(17, f17_e), (87, f87_e), (58, f58_e), (103, f103_e)]
def f56_A : Anns := { loops := [(1048576, { tms := [(1, .keep), (2, .keep), (5, .data false (.int .i64))], obs := [(1048576, .keep)], fz := [] })], own := [] }
theorem f56_run (a0 : (List (List Int) × List (List Int)) × List (ByteArray × Int × Int × Int × Int) × List Int) (a1 : List (Int × Int)) (K : Int → Prop) : runF Try.prog f56_E f56_A 6 Try.f56 f56_e.doms f56_e.cods (a0, a1) K =
    (LoopP (V := Int × Unit) (fun again v => (fun (again1 : Int → Prop) (v1_0 : Int) =>
    br (lenOk (a1.length))
    (br (decide (v1_0 < ((a1.length) : Int)))
    (br (decide (0 ≤ v1_0) && decide (v1_0 < ((a1.length) : Int)))
    (br (lenOk (a0.2.1.length))
    (br (!(f17 ((a1.getD v1_0.toNat (0, 0)).1, (0, (IntKind.i64.wrap (((a0.2.1.length) : Int) - 1))))))
    (K 6)
    (br (decide ((0 : Int) ≤ 0 ∧ 0 ≤ v1_0 ∧ v1_0 ≤ ((a1.length) : Int)))
    (br (decide (0 ≤ v1_0) && decide (v1_0 < ((a1.length) : Int)))
    (br (f87 (((a1.take v1_0.toNat).drop 0), (a1.getD v1_0.toNat (0, 0)).1))
    (K 21)
    (br (decide (0 ≤ v1_0) && decide (v1_0 < ((a1.length) : Int)))
    (br (!(f17 ((a1.getD v1_0.toNat (0, 0)).2, (0, 100000))))
    (K 2)
    (again1 (IntKind.i64.wrap (v1_0 + 1))))
    False))
    False)
    False))
    True)
    False)
    (K 0))
    True)
    (fun v1_0 => again (v1_0, ())) v.1) (0, ())) := by kernel_rfl
theorem f56_t (a0 : (List (List Int) × List (List Int)) × List (ByteArray × Int × Int × Int × Int) × List Int) (a1 : List (Int × Int)) (hpre : f56_pre (a0, a1)) (K : Int → Prop) (hK : ∀ y : Int, y = f56 (a0, a1) → K y) : RunF Try.prog f56_E f56_A 6 Try.f56 f56_e.doms f56_e.cods (a0, a1) K := by
  refine ⟨?_⟩
  rw [f56_run a0 a1 K]
  have h6 : a0.2.1.length ≤ 1000 := hpre
  refine each_walk (n := a1.length) (e := looseE a0 a1) (fun again i hi hI good => ?_)
  dsimp only
  rw [br_true_, lenOk_iff]
  intro hln
  rw [br_dec]
  refine ⟨fun hlt => ?_, fun hlt => hK _ ?_⟩
  · have hlt : i < a1.length := by omega
    have b0 : (decide (0 ≤ (i : Int)) && decide ((i : Int) < (a1.length : Int))) = true := inb (by omega) (by omega)
    rw [b0]
    simp only [Int.toNat_natCast, br_t, List.drop_zero]
    have out : ∀ n : Int, looseE a0 a1 i = n → n ≠ 0 → K n := fun n e hn => hK _ (by
      have := eachE_some hlt hI (show looseE a0 a1 i ≠ 0 by rw [e]; exact hn)
      show n = (eachE a1.length (looseE a0 a1)).2
      rw [this, e])
    rw [br_true_]
    intro _
    rw [wr (n := (a0.2.1.length : Int) - 1) (by omega) (by omega), br_both]
    refine ⟨fun hb => out 6 ?_ (by decide), fun hb => ?_⟩
    · have hs : slot1 a0 (a1.take i) (a1.getD i (0, 0)) = 6 := by rw [slot1, if_pos (f17_f1.1 (not_true.1 hb))]
      rw [looseE, hs, if_pos (by decide)]
    have hb := f17_t1.1 (not_false_.1 hb)
    have hnn : ¬ ¬ (0 ≤ (a1.getD i (0, 0)).1 ∧ (a1.getD i (0, 0)).1 ≤ (a0.2.1.length : Int) - 1) := fun hh => hh hb
    rw [br_false_]
    refine ⟨by simp; omega, ?_⟩
    rw [br_both]
    refine ⟨fun hm => out 21 ?_ (by decide), fun hm => ?_⟩
    · have hs : slot1 a0 (a1.take i) (a1.getD i (0, 0)) = 21 := by rw [slot1, if_neg hnn, if_pos (show hasS (a1.take i) (a1.getD i (0, 0)).1 = true from hm)]
      rw [looseE, hs, if_pos (by decide)]
    have hs : slot1 a0 (a1.take i) (a1.getD i (0, 0)) = 0 := by rw [slot1, if_neg hnn, if_neg (fun hh => by rw [show hasS (a1.take i) (a1.getD i (0, 0)).1 = false from hm] at hh; cases hh)]
    have hs0 : ¬ slot1 a0 (a1.take i) (a1.getD i (0, 0)) ≠ 0 := fun hh => hh hs
    rw [br_both]
    refine ⟨fun hr => out 2 (by rw [looseE, if_neg hs0, if_pos (f17_f1.1 (not_true.1 hr))]) (by decide), fun hr => ?_⟩
    have hr := f17_t1.1 (not_false_.1 hr)
    rw [wr (n := (i : Int) + 1) (by omega) (by omega)]
    exact good hlt (by rw [looseE, if_neg hs0, if_neg (fun hh => hh hr)])
  · have hz := eachE_none (n := a1.length) (e := looseE a0 a1) fun j hj => hI j (by omega)
    show (0 : Int) = (eachE a1.length (looseE a0 a1)).2
    rw [hz]
theorem f56_fn : f56_e.fn = f56 := rfl
theorem f56_ok : EntryOK Try.prog 56 f56_e := by
  refine entryF progOK (EnvOK.cons f17_ok (EnvOK.cons f87_ok (EnvOK.cons f58_ok (EnvOK.cons f103_ok (EnvOK.nil))))) (A := f56_A) (d := 6) Try.func56 rfl rfl rfl (fun h => by cases h) fun x hpre => ?_
  obtain ⟨a0, a1⟩ := x
  exact f56_t a0 a1 hpre _ fun _ h => h.trans (congrFun f56_fn.symm _)
end Go.Proofs.Ytglokajinehbmaa
end

section
namespace Go.Proofs.Ytglokajinehbmaa
open Go Go.Pi Go.RowKit
set_option maxRecDepth 100000
set_option linter.unusedVariables false
set_option linter.unusedSimpArgs false

def f55 (x : ((List (List Int) × List (List Int)) × List (ByteArray × Int × Int × Int × Int) × List Int) × List (Int × Int)) : List Int × Int := if (probOf x.1).2 ≠ 0 then ([], (probOf x.1).2) else if looseErr x.1 x.2 ≠ 0 then ([], looseErr x.1 x.2) else (marg x.1 x.2, 0)
def f55_pre (x : ((List (List Int) × List (List Int)) × List (ByteArray × Int × Int × Int × Int) × List Int) × List (Int × Int)) : Prop := f22_pre x.1.2.1 ∧ x.2.length ≤ 1000
theorem marF_take (p : Prob) (l : List (Int × Int)) {i k : Nat} (hk : k < i) : (marF p l i).take (k + 1) = (marF p l i).take k ++ [(l.getD i (0, 0)).2 - (l.getD k (0, 0)).2 - apartF p (l.getD k (0, 0)).1 (l.getD i (0, 0)).1] := by
  have hl : k < (marF p l i).length := by rw [marF_len]; exact hk
  rw [List.take_add_one, List.getElem?_eq_getElem hl, ← getD_lt (d := 0) hl, marF_get p l hk]
  rfl
def f55_e : Entry := { doms := [(true, (.pair (.pair (.sl (.sl (.int .i64))) (.sl (.sl (.int .i64)))) (.pair (.sl (.pair .str (.pair (.int .i64) (.pair (.int .i64) (.pair (.int .i64) (.int .i64)))))) (.sl (.int .i64))))), (false, (.sl (.pair (.int .i64) (.int .i64))))], cods := [(false, (.sl (.int .i64))), (false, (.int .i64))], pre := f55_pre, fn := f55, uq := false, total := false }
def f55_E : Env := [(24, f24_e), (66, f66_e), (68, f68_e), (76, f76_e), (103, f103_e), (104, f104_e), (105, f105_e), (57, f57_e), (56, f56_e), (109, f109_e)]
def f55_A : Anns := { loops := [(1048576, { tms := [(3, .keep), (6, .keep), (10, .ref 1067012), (33, .keep), (34, .keep), (35, .data false (.int .i64))], obs := [(1048576, .keep), (1048577, .keep), (1049605, .keep), (1067012, .arr (.uniq) (.int .i64)), (1100586418176, .keep), (1100586418177, .keep)], fz := [] }),
  (1048578, { tms := [(3, .keep), (6, .keep), (10, .keep), (11, .keep), (12, .keep), (13, .ref 1063950), (33, .keep), (34, .keep), (35, .keep), (42, .keep), (43, .keep), (44, .data false (.int .i64))], obs := [(1048576, .keep), (1048577, .keep), (1049605, .keep), (1058819, .keep), (1063950, .arr (.uniq) (.int .i64)), (1067012, .keep), (1100586418176, .keep), (1100586418177, .keep)], fz := [] }),
  (1103808692224, { tms := [(1, .keep), (9, .keep), (10, .keep), (11, .data false (.int .i64))], obs := [(1048576, .keep), (1048577, .keep), (1049605, .keep), (1100586418176, .keep), (1100586418177, .keep)], fz := [] })], own := [] }
theorem f55_run (a0 : (List (List Int) × List (List Int)) × List (ByteArray × Int × Int × Int × Int) × List Int) (a1 : List (Int × Int)) (K : (List Int × Int) → Prop) : runF Try.prog f55_E f55_A 6 Try.f55 f55_e.doms f55_e.cods (a0, a1) K =
    (f24_pre a0 ∧
    br ((f24 a0).2 != 0)
    (K (([] : List Int), (f24 a0).2))
    (br (lenOk (a1.length))
    (LoopP (V := Int × Unit) (fun again v => (fun (again1 : Int → Prop) (v1_0 : Int) =>
    br (decide (v1_0 < ((a1.length) : Int)))
    (br (decide (0 ≤ v1_0) && decide (v1_0 < ((a1.length) : Int)))
    (br (decide ((0 : Int) ≤ 0 ∧ 0 ≤ v1_0 ∧ v1_0 ≤ ((a1.length) : Int)))
    (f103_pre (a0, (((a1.take v1_0.toNat).drop 0), (a1.getD v1_0.toNat (0, 0)))) ∧
    br ((f66 ([(f103 (a0, (((a1.take v1_0.toNat).drop 0), (a1.getD v1_0.toNat (0, 0))))), (f68 ((f76 ((a1.getD v1_0.toNat (0, 0)).2)), 2))] : List Int)) != 0)
    (br ((f66 ([(f103 (a0, (((a1.take v1_0.toNat).drop 0), (a1.getD v1_0.toNat (0, 0))))), (f68 ((f76 ((a1.getD v1_0.toNat (0, 0)).2)), 2))] : List Int)) != 0)
    (K (([] : List Int), (f66 ([(f103 (a0, (((a1.take v1_0.toNat).drop 0), (a1.getD v1_0.toNat (0, 0))))), (f68 ((f76 ((a1.getD v1_0.toNat (0, 0)).2)), 2))] : List Int))))
    (br (lenOk (a1.length))
    (LoopP (V := Int × List Int × Unit) (fun again v => (fun (again2 : Int → List Int → Prop) (v2_0 : Int) (v2_1 : List Int) =>
    br (decide (v2_0 < ((a1.length) : Int)))
    (br (decide (0 ≤ v2_0) && decide (v2_0 < ((a1.length) : Int)))
    (br (decide ((0 : Int) ≤ 0 ∧ 0 ≤ v2_0 ∧ v2_0 ≤ ((a1.length) : Int)))
    (br (lenOk (((a1.take v2_0.toNat).drop 0).length))
    (LoopP (V := Int × List Int × Unit) (fun again v => (fun (again3 : Int → List Int → Prop) (v3_0 : Int) (v3_1 : List Int) =>
    br (decide (v3_0 < ((((a1.take v2_0.toNat).drop 0).length) : Int)))
    (br (decide (0 ≤ v3_0) && decide (v3_0 < ((((a1.take v2_0.toNat).drop 0).length) : Int)))
    (f104_pre (a0, ((((a1.take v2_0.toNat).drop 0).getD v3_0.toNat (0, 0)).1, (a1.getD v2_0.toNat (0, 0)).1)) ∧
    br (roomOk ((v3_1.length) + 1) 8)
    (again3 (IntKind.i64.wrap (v3_0 + 1)) (v3_1 ++ ([(IntKind.i64.wrap ((IntKind.i64.wrap ((a1.getD v2_0.toNat (0, 0)).2 - (((a1.take v2_0.toNat).drop 0).getD v3_0.toNat (0, 0)).2)) - (f104 (a0, ((((a1.take v2_0.toNat).drop 0).getD v3_0.toNat (0, 0)).1, (a1.getD v2_0.toNat (0, 0)).1)))))] : List Int)))
    False)
    False)
    (br (decide (v2_0 > 0))
    (f105_pre v3_1 ∧
    br (roomOk ((v2_1.length) + 1) 8)
    (again2 (IntKind.i64.wrap (v2_0 + 1)) (v2_1 ++ ([(f105 v3_1)] : List Int)))
    False)
    (again2 (IntKind.i64.wrap (v2_0 + 1)) v2_1)))
    (fun v3_0 v3_1 => again (v3_0, v3_1, ())) v.1 v.2.1) (0, ([] : List Int), ()))
    True)
    False)
    False)
    (K (v2_1, 0)))
    (fun v2_0 v2_1 => again (v2_0, v2_1, ())) v.1 v.2.1) (0, ([] : List Int), ()))
    True))
    (again1 (IntKind.i64.wrap (v1_0 + 1))))
    False)
    False)
    (br (lenOk (a1.length))
    (LoopP (V := Int × List Int × Unit) (fun again v => (fun (again4 : Int → List Int → Prop) (v4_0 : Int) (v4_1 : List Int) =>
    br (decide (v4_0 < ((a1.length) : Int)))
    (br (decide (0 ≤ v4_0) && decide (v4_0 < ((a1.length) : Int)))
    (br (decide ((0 : Int) ≤ 0 ∧ 0 ≤ v4_0 ∧ v4_0 ≤ ((a1.length) : Int)))
    (br (lenOk (((a1.take v4_0.toNat).drop 0).length))
    (LoopP (V := Int × List Int × Unit) (fun again v => (fun (again5 : Int → List Int → Prop) (v5_0 : Int) (v5_1 : List Int) =>
    br (decide (v5_0 < ((((a1.take v4_0.toNat).drop 0).length) : Int)))
    (br (decide (0 ≤ v5_0) && decide (v5_0 < ((((a1.take v4_0.toNat).drop 0).length) : Int)))
    (f104_pre (a0, ((((a1.take v4_0.toNat).drop 0).getD v5_0.toNat (0, 0)).1, (a1.getD v4_0.toNat (0, 0)).1)) ∧
    br (roomOk ((v5_1.length) + 1) 8)
    (again5 (IntKind.i64.wrap (v5_0 + 1)) (v5_1 ++ ([(IntKind.i64.wrap ((IntKind.i64.wrap ((a1.getD v4_0.toNat (0, 0)).2 - (((a1.take v4_0.toNat).drop 0).getD v5_0.toNat (0, 0)).2)) - (f104 (a0, ((((a1.take v4_0.toNat).drop 0).getD v5_0.toNat (0, 0)).1, (a1.getD v4_0.toNat (0, 0)).1)))))] : List Int)))
    False)
    False)
    (br (decide (v4_0 > 0))
    (f105_pre v5_1 ∧
    br (roomOk ((v4_1.length) + 1) 8)
    (again4 (IntKind.i64.wrap (v4_0 + 1)) (v4_1 ++ ([(f105 v5_1)] : List Int)))
    False)
    (again4 (IntKind.i64.wrap (v4_0 + 1)) v4_1)))
    (fun v5_0 v5_1 => again (v5_0, v5_1, ())) v.1 v.2.1) (0, ([] : List Int), ()))
    True)
    False)
    False)
    (K (v4_1, 0)))
    (fun v4_0 v4_1 => again (v4_0, v4_1, ())) v.1 v.2.1) (0, ([] : List Int), ()))
    True))
    (fun v1_0 => again (v1_0, ())) v.1) (0, ()))
    True)) := by kernel_rfl
theorem f55_t (a0 : (List (List Int) × List (List Int)) × List (ByteArray × Int × Int × Int × Int) × List Int) (a1 : List (Int × Int)) (hpre : f55_pre (a0, a1)) (K : (List Int × Int) → Prop) (hK : ∀ y : List Int × Int, y = f55 (a0, a1) → K y) : RunF Try.prog f55_E f55_A 6 Try.f55 f55_e.doms f55_e.cods (a0, a1) K := by
  refine ⟨?_⟩
  rw [f55_run a0 a1 K]
  obtain ⟨h22, hl⟩ := hpre
  simp only at h22 hl
  refine ⟨h22, ?_⟩
  have e24 : f24 a0 = probOf a0 := rfl
  rw [e24, br_both]
  refine ⟨fun hp => hK _ ?_, fun hp => ?_⟩
  · rw [f55, if_pos (by simpa using hp)]
  have h : okP a0 := by
    have : (probOf a0).2 = 0 := by simpa using hp
    exact this
  have n1 : ¬ (probOf a0).2 ≠ 0 := fun hh => hh h
  have hv := h.v
  have h6 := hv.six
  rw [br_true_]
  intro _
  refine each_walk (n := a1.length) (e := looseE a0 a1) (fun again i hi hI good => ?_)
  dsimp only
  rw [br_dec]
  refine ⟨fun hlt => ?_, fun hlt => ?_⟩
  · have hlt : i < a1.length := by omega
    have b0 : (decide (0 ≤ (i : Int)) && decide ((i : Int) < (a1.length : Int))) = true := inb (by omega) (by omega)
    have b1 : decide ((0 : Int) ≤ 0 ∧ 0 ≤ (i : Int) ∧ (i : Int) ≤ (a1.length : Int)) = true := by simp; omega
    rw [b0, b1]
    simp only [Int.toNat_natCast, br_t, List.drop_zero]
    refine ⟨show a0.2.1.length ≤ 1000 by omega, ?_⟩
    have hX : f66 [f103 (a0, a1.take i, a1.getD i (0, 0)), f68 (f76 (a1.getD i (0, 0)).2, 2)] = looseE a0 a1 i := by
      have e103 : f103 (a0, a1.take i, a1.getD i (0, 0)) = slot1 a0 (a1.take i) (a1.getD i (0, 0)) := rfl
      rw [e103, f66_cons, looseE]
      by_cases hs : slot1 a0 (a1.take i) (a1.getD i (0, 0)) = 0
      · rw [if_pos hs, if_neg (fun hh => hh hs)]
        by_cases ht : 0 ≤ (a1.getD i (0, 0)).2 ∧ (a1.getD i (0, 0)).2 ≤ 100000
        · rw [if_neg (fun hh => hh ht), show f76 (a1.getD i (0, 0)).2 = true by rw [f76, decide_eq_true ht.1, decide_eq_true ht.2]; rfl]
          rfl
        · rw [if_pos ht, show f76 (a1.getD i (0, 0)).2 = false by rw [← Bool.not_eq_true, f76, Bool.and_eq_true, decide_eq_true_eq, decide_eq_true_eq]; exact ht]
          rfl
      · rw [if_neg hs, if_pos hs]
    rw [hX]
    by_cases h5 : looseE a0 a1 i = 0
    · rw [show (looseE a0 a1 i != 0) = false by rw [h5]; rfl]
      show again _
      rw [wr (n := (i : Int) + 1) (by omega) (by omega)]
      exact good hlt h5
    · rw [bne_iff_ne.2 h5]
      have hs := eachE_some hlt hI h5
      refine hK _ ?_
      have hle : looseErr a0 a1 = looseE a0 a1 i := by rw [looseErr, hs]
      rw [f55, if_neg n1, if_pos (by rw [hle]; exact h5), hle]
  · have hz := eachE_none (n := a1.length) (e := looseE a0 a1) fun j hj => hI j (by omega)
    have hloose : looseErr a0 a1 = 0 := by rw [looseErr, hz]
    have hs := loose_valid hloose
    have hval : ∀ k, k < a1.length → slotV a0 (a1.getD k (0, 0)) := fun k hk => hs _ (by rw [getD_lt hk]; exact List.getElem_mem _)
    rw [br_true_]
    intro _
    refine LoopP.of (fun q : Int × List Int × Unit => ∃ i : Nat, i ≤ a1.length ∧ q.1 = (i : Int) ∧ q.2.1 = (List.range (i - 1)).map fun j => minL (marF a0 a1 (j + 1))) (fun q => ((a1.length : Int) - q.1).toNat) (fun again2 q hq hag2 => ?_) ⟨0, by omega, rfl, rfl⟩
    obtain ⟨ii, out, u⟩ := q
    obtain ⟨i2, hi2, e1, e2⟩ := hq
    simp only at e1 e2
    subst e1 e2
    dsimp only
    rw [br_dec]
    refine ⟨fun hlt2 => ?_, fun hlt2 => hK _ ?_⟩
    · have hlt2 : i2 < a1.length := by omega
      have b0 : (decide (0 ≤ (i2 : Int)) && decide ((i2 : Int) < (a1.length : Int))) = true := inb (by omega) (by omega)
      have b1 : decide ((0 : Int) ≤ 0 ∧ 0 ≤ (i2 : Int) ∧ (i2 : Int) ≤ (a1.length : Int)) = true := by simp; omega
      have htl : (a1.take i2).length = i2 := by rw [List.length_take]; omega
      rw [b0, b1]
      simp only [Int.toNat_natCast, br_t, List.drop_zero, htl]
      rw [br_true_]
      intro _
      have hvi := hval i2 hlt2
      refine LoopP.of (fun q : Int × List Int × Unit => ∃ k : Nat, k ≤ i2 ∧ q.1 = (k : Int) ∧ q.2.1 = (marF a0 a1 i2).take k) (fun q => ((i2 : Int) - q.1).toNat) (fun again3 q hq hag3 => ?_) ⟨0, by omega, rfl, rfl⟩
      obtain ⟨kk, all, u2⟩ := q
      obtain ⟨k, hk, e1, e2⟩ := hq
      simp only at e1 e2
      subst e1 e2
      dsimp only
      rw [br_dec]
      refine ⟨fun hk3 => ?_, fun hk3 => ?_⟩
      · have hk3 : k < i2 := by omega
        have hget : (a1.take i2).getD k (0, 0) = a1.getD k (0, 0) := by
          rw [getD_lt (by omega), getD_lt (by omega), List.getElem_take]
        have hvk := hval k (by omega)
        have hap := apartF_in hv hvk.1 hvi.1
        have t1 := hvk.2
        have t2 := hvi.2
        rw [br_false_]
        refine ⟨inb (by omega) (by omega), ?_⟩
        simp only [Int.toNat_natCast, hget]
        refine ⟨⟨h, hvk.1, hvi.1⟩, ?_⟩
        have e104 : f104 (a0, (a1.getD k (0, 0)).1, (a1.getD i2 (0, 0)).1) = apartF a0 (a1.getD k (0, 0)).1 (a1.getD i2 (0, 0)).1 := rfl
        rw [br_false_, roomOk_iff, e104, wr (n := (a1.getD i2 (0, 0)).2 - (a1.getD k (0, 0)).2) (by omega) (by omega), wr (n := (a1.getD i2 (0, 0)).2 - (a1.getD k (0, 0)).2 - _) (by omega) (by omega), wr (n := (k : Int) + 1) (by omega) (by omega)]
        refine ⟨by rw [List.length_take, marF_len]; omega, hag3 (_, _, ()) ⟨k + 1, by omega, by simp only; omega, ?_⟩ (by simp only; omega)⟩
        exact (marF_take a0 a1 hk3).symm
      · have hki : k = i2 := by omega
        subst hki
        rw [List.take_of_length_le (by rw [marF_len]; omega), br_dec, wr (n := (k : Int) + 1) (by omega) (by omega)]
        refine ⟨fun hpos => ?_, fun hz0 => ?_⟩
        · refine ⟨⟨by rw [marF_len]; omega, by rw [marF_len]; omega⟩, ?_⟩
          have e105 : f105 (marF a0 a1 k) = minL (marF a0 a1 k) := rfl
          rw [br_false_, roomOk_iff, e105]
          refine ⟨by simp; omega, hag2 (_, _, ()) ⟨k + 1, by omega, by simp only; omega, ?_⟩ (by simp only; omega)⟩
          exact (marg_step a0 a1 (by omega)).symm
        · refine hag2 (_, _, ()) ⟨k + 1, by omega, by simp only; omega, ?_⟩ (by simp only; omega)
          have : k = 0 := by omega
          subst this
          rfl
    · rw [f55, if_neg n1, if_neg (fun hh => hh hloose)]
      have hie : i2 = a1.length := by omega
      subst hie
      rfl
theorem f55_fn : f55_e.fn = f55 := rfl
theorem f55_ok : EntryOK Try.prog 55 f55_e := by
  refine entryF progOK (EnvOK.cons f24_ok (EnvOK.cons f66_ok (EnvOK.cons f68_ok (EnvOK.cons f76_ok (EnvOK.cons f103_ok (EnvOK.cons f104_ok (EnvOK.cons f105_ok (EnvOK.cons f57_ok (EnvOK.cons f56_ok (EnvOK.cons f109_ok (EnvOK.nil))))))))))) (A := f55_A) (d := 6) Try.func55 rfl rfl rfl (fun h => by cases h) fun x hpre => ?_
  obtain ⟨a0, a1⟩ := x
  exact f55_t a0 a1 hpre _ fun _ h => h.trans (congrFun f55_fn.symm _)
end Go.Proofs.Ytglokajinehbmaa
end
