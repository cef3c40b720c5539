/- What functions of the program compute, each proved once, part 13. -/
import Derived.Test.YtglokajinehbmaaGreatPiD
import Derived.Test.YtglokajinehbmaaGreatFnA
import Derived.Test.YtglokajinehbmaaGreatFnE
import Derived.Test.YtglokajinehbmaaGreatFnK
import Derived.Test.YtglokajinehbmaaGreatFnL
import Derived.Test.YtglokajinehbmaaGreatFnI
import Derived.Test.YtglokajinehbmaaGreatFnG

namespace Go.Proofs.YtglokajinehbmaaGreat
open Go Go.Pi Go.RowKit
set_option maxRecDepth 100000
set_option linter.unusedVariables false
set_option linter.unusedSimpArgs false

def f12 (x : ((List (List Int) × List (List Int)) × List (ByteArray × Int × Int × Int × Int) × List Int) × List (Int × Int)) : Int := pairsErr x.1 x.2
def f12_pre (x : ((List (List Int) × List (List Int)) × List (ByteArray × Int × Int × Int × Int) × List Int) × List (Int × Int)) : Prop := okP x.1 ∧ x.2.length ≤ 1000
def f12_e : Entry := { doms := [(true, (.pair (.pair (.sl (.sl (.int .i64))) (.sl (.sl (.int .i64)))) (.pair (.sl (.pair .str (.pair (.int .i64) (.pair (.int .i64) (.pair (.int .i64) (.int .i64)))))) (.sl (.int .i64))))), (false, (.sl (.pair (.int .i64) (.int .i64))))], cods := [(false, (.int .i64))], pre := f12_pre, fn := f12, uq := false, total := false }
def f12_E : Env := [(25, f25_e), (50, f50_e), (51, f51_e), (13, f13_e), (7, f7_e)]
def f12_A : Anns := { loops := [(1048576, { tms := [(1, .keep), (2, .keep), (5, .ref 1060868), (6, .data false (.int .i64))], obs := [(1048576, .keep), (1060868, .arr (.grow) (.int .i64))], fz := [] }),
  (1048578, { tms := [(1, .keep), (2, .keep), (9, .data false (.int .i64))], obs := [(1048576, .keep), (1060868, .keep)], fz := [] })], own := [] }
theorem f12_run (a0 : (List (List Int) × List (List Int)) × List (ByteArray × Int × Int × Int × Int) × List Int) (a1 : List (Int × Int)) (K : Int → Prop) : runF Tryz.prog f12_E f12_A 6 Tryz.f12 f12_e.doms f12_e.cods (a0, a1) K =
    (LoopP (V := Int × List Int × Unit) (fun again v => (fun (again1 : Int → List Int → Prop) (v1_0 : Int) (v1_1 : List Int) =>
    br (lenOk (a1.length))
    (br (decide (v1_0 < ((a1.length) : Int)))
    (br (decide (0 ≤ v1_0) && decide (v1_0 < ((a1.length) : Int)))
    (br (decide (0 ≤ v1_0) && decide (v1_0 < ((a1.length) : Int)))
    (br (lenOk (a0.2.1.length))
    (br (!(f25 ((a1.getD v1_0.toNat (0, 0)).1, (0, (IntKind.i64.wrap (((a0.2.1.length) : Int) - 1))))))
    (K 6)
    (br (lenOk (a0.2.1.length))
    (br (!(f25 ((a1.getD v1_0.toNat (0, 0)).2, (0, (IntKind.i64.wrap (((a0.2.1.length) : Int) - 1))))))
    (K 6)
    (br (decide ((a1.getD v1_0.toNat (0, 0)).1 ≥ (a1.getD v1_0.toNat (0, 0)).2))
    (K 9)
    (br (decide (v1_0 > 0))
    (br (decide (0 ≤ (IntKind.i64.wrap (v1_0 - 1))) && decide ((IntKind.i64.wrap (v1_0 - 1)) < ((a1.length) : Int)))
    (br (decide ((a1.getD v1_0.toNat (0, 0)).1 ≤ (a1.getD ((IntKind.i64.wrap (v1_0 - 1)).toNat) (0, 0)).1))
    (K 9)
    (br (f50 (v1_1, (a1.getD v1_0.toNat (0, 0)).1))
    (K 21)
    (br (f50 (v1_1, (a1.getD v1_0.toNat (0, 0)).2))
    (K 21)
    (br (roomOk ((v1_1.length) + 2) 8)
    (again1 (IntKind.i64.wrap (v1_0 + 1)) (v1_1 ++ ([(a1.getD v1_0.toNat (0, 0)).1, (a1.getD v1_0.toNat (0, 0)).2] : List Int)))
    False))))
    False)
    (br (f50 (v1_1, (a1.getD v1_0.toNat (0, 0)).1))
    (K 21)
    (br (f50 (v1_1, (a1.getD v1_0.toNat (0, 0)).2))
    (K 21)
    (br (roomOk ((v1_1.length) + 2) 8)
    (again1 (IntKind.i64.wrap (v1_0 + 1)) (v1_1 ++ ([(a1.getD v1_0.toNat (0, 0)).1, (a1.getD v1_0.toNat (0, 0)).2] : List Int)))
    False))))))
    True))
    True)
    False)
    False)
    (LoopP (V := Int × Unit) (fun again v => (fun (again2 : Int → Prop) (v2_0 : Int) =>
    br (lenOk (a1.length))
    (br (decide (v2_0 < ((a1.length) : Int)))
    (br (decide (0 ≤ v2_0) && decide (v2_0 < ((a1.length) : Int)))
    (br (decide (0 ≤ v2_0) && decide (v2_0 < ((a1.length) : Int)))
    (f51_pre (a0, (a1.getD v2_0.toNat (0, 0))) ∧
    br (!(f51 (a0, (a1.getD v2_0.toNat (0, 0)))).2)
    (K 12)
    (again2 (IntKind.i64.wrap (v2_0 + 1))))
    False)
    False)
    (K 0))
    True)
    (fun v2_0 => again (v2_0, ())) v.1) (0, ())))
    True)
    (fun v1_0 v1_1 => again (v1_0, v1_1, ())) v.1 v.2.1) (0, ([] : List Int), ())) := by kernel_rfl
theorem f12_t (a0 : (List (List Int) × List (List Int)) × List (ByteArray × Int × Int × Int × Int) × List Int) (a1 : List (Int × Int)) (hpre : f12_pre (a0, a1)) (K : Int → Prop) (hK : ∀ y : Int, y = f12 (a0, a1) → K y) : RunF Tryz.prog f12_E f12_A 6 Tryz.f12 f12_e.doms f12_e.cods (a0, a1) K := by
  refine ⟨?_⟩
  rw [f12_run a0 a1 K]
  obtain ⟨hok, hl⟩ := hpre
  simp only at hok hl
  have h6 := hok.v.six
  have ef : f12 (a0, a1) = pairsErr a0 a1 := rfl
  rw [ef] at hK
  refine LoopP.of (fun q : Int × List Int × Unit => ∃ i : Nat, i ≤ a1.length ∧ q.1 = (i : Int) ∧ q.2.1 = comps (a1.take i) ∧ ∀ j, j < i → pairE a0 a1 j = 0) (fun q => ((a1.length : Int) - q.1).toNat) (fun again q hq hag => ?_) ⟨0, by omega, rfl, rfl, fun b hb => by omega⟩
  obtain ⟨ii, us, u⟩ := q
  obtain ⟨i, hi, e1, e2, e3⟩ := hq
  simp only at e1 e2
  subst e1 e2
  dsimp only
  rw [br_true_]
  intro _
  rw [br_dec]
  refine ⟨fun hlt => ?_, fun hlt => ?_⟩
  · have hlt : i < a1.length := by omega
    have out : ∀ n : Int, pairE a0 a1 i = n → n ≠ 0 → K n := fun n e hn => hK _ (by
      have hne : pairE a0 a1 i ≠ 0 := by rw [e]; exact hn
      rw [pairsErr, eachE_some hlt e3 hne, e, if_pos hn])
    have hsn := take_snocQ hlt
    rw [br_false_]
    refine ⟨inb (by omega) (by omega), ?_⟩
    rw [br_false_]
    refine ⟨inb (by omega) (by omega), ?_⟩
    rw [br_true_]
    intro _
    rw [Int.toNat_natCast, wr (n := (a0.2.1.length : Int) - 1) (by omega) (by omega), wr (n := (i : Int) + 1) (by omega) (by omega), br_both]
    refine ⟨fun hb => out 6 ?_ (by decide), fun hb1 => ?_⟩
    · have hb := f25_f1.1 (not_true.1 hb)
      rw [pairE, if_pos (fun hh => hb ⟨hh.1.1, by have := hh.1.2; omega⟩)]
    have hb1 := f25_t1.1 (not_false_.1 hb1)
    rw [br_true_]
    intro _
    rw [br_both]
    refine ⟨fun hb => out 6 ?_ (by decide), fun hb2 => ?_⟩
    · have hb := f25_f1.1 (not_true.1 hb)
      rw [pairE, if_pos (fun hh => hb ⟨hh.2.1, by have := hh.2.2; omega⟩)]
    have hb2 := f25_t1.1 (not_false_.1 hb2)
    have hin : ¬ ¬ (inA a0 (a1.getD i (0, 0)).1 ∧ inA a0 (a1.getD i (0, 0)).2) := fun hh => hh ⟨⟨hb1.1, by omega⟩, ⟨hb2.1, by omega⟩⟩
    rw [br_dec]
    refine ⟨fun hge => out 9 (by rw [pairE, if_neg hin, if_pos (fun hh => by omega)]) (by decide), fun hlt2 => ?_⟩
    have hcl : (comps (a1.take i)).length ≤ 2000 := by rw [comps_len, List.length_take]; omega
    have e50 : ∀ n : Int, f50 (comps (a1.take i), n) = decide (n ∈ comps (a1.take i)) := fun n => rfl
    have tail : (a1.getD i (0, 0)).1 > lastOfP a1 i → br (f50 (comps (a1.take i), (a1.getD i (0, 0)).1)) (K 21) (br (f50 (comps (a1.take i), (a1.getD i (0, 0)).2)) (K 21)
        (br (roomOk ((comps (a1.take i)).length + 2) 8) (again ((i : Int) + 1, comps (a1.take i) ++ [(a1.getD i (0, 0)).1, (a1.getD i (0, 0)).2], ())) False)) := fun hla => by
      have h2 : ¬ ¬ ((a1.getD i (0, 0)).1 < (a1.getD i (0, 0)).2 ∧ (a1.getD i (0, 0)).1 > lastOfP a1 i) := fun hh => hh ⟨by omega, hla⟩
      rw [e50, e50, br_dec]
      refine ⟨fun hm => out 21 ?_ (by decide), fun hm1 => ?_⟩
      · rw [pairE, if_neg hin, if_neg h2, if_pos]
        rw [← Bool.not_eq_true, freeB_iff]
        exact fun hh => hh.1 hm
      rw [br_dec]
      refine ⟨fun hm => out 21 ?_ (by decide), fun hm2 => ?_⟩
      · rw [pairE, if_neg hin, if_neg h2, if_pos]
        rw [← Bool.not_eq_true, freeB_iff]
        exact fun hh => hh.2 hm
      rw [br_false_, roomOk_iff]
      refine ⟨by omega, hag _ ⟨i + 1, by omega, by simp only; omega, ?_, fun j hj => ?_⟩ (by simp only; omega)⟩
      · simp only
        rw [hsn, comps_snoc]
      · rcases Nat.lt_or_ge j i with hh | hh
        · exact e3 j hh
        · rw [show j = i by omega, pairE, if_neg hin, if_neg h2, if_neg]
          rw [freeB_iff.2 ⟨hm1, hm2⟩]
          simp
    rw [br_dec]
    refine ⟨fun hpos => ?_, fun hz => ?_⟩
    · rw [wr (n := (i : Int) - 1) (by omega) (by omega), show ((i : Int) - 1).toNat = i - 1 by omega, br_false_]
      refine ⟨inb (by omega) (by omega), ?_⟩
      have hlo : lastOfP a1 i = (a1.getD (i - 1) (0, 0)).1 := by rw [lastOfP, if_neg (by omega)]
      rw [br_dec]
      refine ⟨fun hle => out 9 (by rw [pairE, if_neg hin, if_pos (fun hh => by omega)]) (by decide), fun hgt => tail (by omega)⟩
    · have hlo : lastOfP a1 i = -1 := by rw [lastOfP, if_pos (by omega)]
      exact tail (by omega)
  · have : i = a1.length := by omega
    subst this
    have hp : pairsErr a0 a1 = (eachE a1.length (noneE a0 a1)).2 := by rw [pairsErr, eachE_none e3, if_neg (by simp)]
    rw [hp] at hK
    refine each_walk (n := a1.length) (e := noneE a0 a1) (fun again i hi hI good => ?_)
    dsimp only
    rw [br_true_]
    intro _
    rw [br_dec]
    refine ⟨fun hlt => ?_, fun hlt => ?_⟩
    · have hlt : i < a1.length := by omega
      rw [br_false_]
      refine ⟨inb (by omega) (by omega), ?_⟩
      rw [br_false_]
      refine ⟨inb (by omega) (by omega), ?_⟩
      rw [Int.toNat_natCast]
      have hx := (pairE_zero (e3 i hlt)).1
      have e51 : (f51 (a0, a1.getD i (0, 0))).2 = (pairB a0 (a1.getD i (0, 0)).1 (a1.getD i (0, 0)).2).isSome := f51_2 _ _ _
      rw [e51, wr (n := (i : Int) + 1) (by omega) (by omega)]
      refine ⟨⟨hok, hx.1, hx.2⟩, ?_⟩
      rw [br_both]
      refine ⟨fun h => hK _ ?_, fun h => good hlt ?_⟩
      · have he : noneE a0 a1 i = 12 := by rw [noneE, if_neg (by rw [not_true.1 h]; simp)]
        rw [eachE_some hlt hI (by rw [he]; decide), he]
      · rw [noneE, if_pos (not_false_.1 h)]
    · rw [eachE_none fun j hj => hI j (by omega)] at hK
      exact hK _ rfl
theorem f12_fn : f12_e.fn = f12 := rfl
theorem f12_ok : EntryOK Tryz.prog 12 f12_e := by
  refine entryF progOK (EnvOK.cons f25_ok (EnvOK.cons f50_ok (EnvOK.cons f51_ok (EnvOK.cons f13_ok (EnvOK.cons f7_ok (EnvOK.nil)))))) (A := f12_A) (d := 6) Tryz.func12 rfl rfl rfl rfl (fun h => by cases h) fun x hpre => ?_
  obtain ⟨a0, a1⟩ := x
  exact f12_t a0 a1 hpre _ fun _ h => h.trans (congrFun f12_fn.symm _)
end Go.Proofs.YtglokajinehbmaaGreat
