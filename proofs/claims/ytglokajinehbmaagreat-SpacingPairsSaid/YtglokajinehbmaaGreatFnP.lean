/- What functions of the program compute, each proved once, part 16. -/
import Derived.Test.YtglokajinehbmaaGreatPiD
import Derived.Test.YtglokajinehbmaaGreatFnA
import Derived.Test.YtglokajinehbmaaGreatFnC
import Derived.Test.YtglokajinehbmaaGreatFnD
import Derived.Test.YtglokajinehbmaaGreatFnI
import Derived.Test.YtglokajinehbmaaGreatFnH
import Derived.Test.YtglokajinehbmaaGreatFnJ
import Derived.Test.YtglokajinehbmaaGreatFnM
import Derived.Test.YtglokajinehbmaaGreatFnL
import Derived.Test.YtglokajinehbmaaGreatFnN
import Derived.Test.YtglokajinehbmaaGreatFnO

namespace Go.Proofs.YtglokajinehbmaaGreat
open Go Go.Pi Go.RowKit
set_option maxRecDepth 100000
set_option linter.unusedVariables false
set_option linter.unusedSimpArgs false

def f3 (x : ((List (List Int) × List (List Int)) × List (ByteArray × Int × Int × Int × Int) × List Int) × List (Int × Int)) : Bool := true
theorem pairsErr_in {p : Prob} {l : Prs} (h : pairsErr p l = 0) : ∀ y ∈ l, inA p y.1 ∧ inA p y.2 := fun y hy => by
  have hz : ∀ i, i < l.length → pairE p l i = 0 := by
    unfold pairsErr at h
    split at h
    · rename_i hh; exact absurd h hh
    · rename_i hh
      exact eachE_zero (Classical.byContradiction hh)
  obtain ⟨i, hi, e⟩ := List.mem_iff_getElem.1 hy
  have := (pairE_zero (hz i hi)).1
  rw [getD_lt hi, e] at this
  exact this
def f3_e : Entry := { doms := [(true, (.pair (.pair (.sl (.sl (.int .i64))) (.sl (.sl (.int .i64)))) (.pair (.sl (.pair .str (.pair (.int .i64) (.pair (.int .i64) (.pair (.int .i64) (.int .i64)))))) (.sl (.int .i64))))), (false, (.sl (.pair (.int .i64) (.int .i64))))], cods := [(false, .bool)], pre := fun _ => True, fn := f3, uq := false, total := true }
def f3_E : Env := [(5, f5_e), (6, f6_e), (7, f7_e), (8, f8_e), (9, f9_e), (10, f10_e), (11, f11_e), (12, f12_e), (13, f13_e), (14, f14_e), (15, f15_e), (16, f16_e)]
def f3_A : Anns := { loops := [], own := [] }
theorem f3_run (a0 : (List (List Int) × List (List Int)) × List (ByteArray × Int × Int × Int × Int) × List Int) (a1 : List (Int × Int)) (K : Bool → Prop) : runF Tryz.prog f3_E f3_A 6 Tryz.f3 f3_e.doms f3_e.cods (a0, a1) K =
    (br (!(f5 ()))
    (K false)
    (br (!(f6 a0))
    (K true)
    (br (lenOk (a1.length))
    (br (decide (((a1.length) : Int) > 5))
    (K true)
    (f8_pre a0 ∧
    f9_pre a1 ∧
    f7_pre ((((f8 a0).1), ((f8 a0).2)), (f9 a1)) ∧
    f8_pre a0 ∧
    f10_pre (((f8 a0).1), ((f8 a0).2)) ∧
    br ((f11 a0) != 0)
    (br ((f7 ((((f8 a0).1), ((f8 a0).2)), (f9 a1))).2 == (f11 a0))
    (br ((f7 ((((f8 a0).1), ((f8 a0).2)), (f9 a1))).1 == 0)
    (br (((f10 (((f8 a0).1), ((f8 a0).2))).2).2 == (f11 a0))
    (br (lenOk (((f10 (((f8 a0).1), ((f8 a0).2))).1).length))
    (br (((((f10 (((f8 a0).1), ((f8 a0).2))).1).length) : Int) == 0)
    (K (((f10 (((f8 a0).1), ((f8 a0).2))).2).1 == 0))
    (K false))
    True)
    (K false))
    (K false))
    (K false))
    (f12_pre (a0, a1) ∧
    br ((f12 (a0, a1)) != 0)
    (br ((f7 ((((f8 a0).1), ((f8 a0).2)), (f9 a1))).2 != (f12 (a0, a1)))
    (K false)
    (br ((f7 ((((f8 a0).1), ((f8 a0).2)), (f9 a1))).1 != 0)
    (K false)
    (br ((f12 (a0, a1)) == 0)
    (br ((f7 ((((f8 a0).1), ((f8 a0).2)), (f9 a1))).2 != 0)
    (K false)
    (f13_pre (a0, a1) ∧
    br ((f7 ((((f8 a0).1), ((f8 a0).2)), (f9 a1))).1 != (f13 (a0, a1)))
    (K false)
    (f14_pre a0 ∧
    br (!(f14 a0))
    (br (((f10 (((f8 a0).1), ((f8 a0).2))).2).2 == 12)
    (br (lenOk (((f10 (((f8 a0).1), ((f8 a0).2))).1).length))
    (br (((((f10 (((f8 a0).1), ((f8 a0).2))).1).length) : Int) == 0)
    (K (((f10 (((f8 a0).1), ((f8 a0).2))).2).1 == 0))
    (K false))
    True)
    (K false))
    (f15_pre a0 ∧
    br (((f10 (((f8 a0).1), ((f8 a0).2))).2).2 == 0)
    (br (f16 ((f10 (((f8 a0).1), ((f8 a0).2))).1, (f15 a0)))
    (f13_pre (a0, (f15 a0)) ∧
    K (((f10 (((f8 a0).1), ((f8 a0).2))).2).1 == (f13 (a0, (f15 a0)))))
    (K false))
    (K false)))))
    (f14_pre a0 ∧
    br (!(f14 a0))
    (br (((f10 (((f8 a0).1), ((f8 a0).2))).2).2 == 12)
    (br (lenOk (((f10 (((f8 a0).1), ((f8 a0).2))).1).length))
    (br (((((f10 (((f8 a0).1), ((f8 a0).2))).1).length) : Int) == 0)
    (K (((f10 (((f8 a0).1), ((f8 a0).2))).2).1 == 0))
    (K false))
    True)
    (K false))
    (f15_pre a0 ∧
    br (((f10 (((f8 a0).1), ((f8 a0).2))).2).2 == 0)
    (br (f16 ((f10 (((f8 a0).1), ((f8 a0).2))).1, (f15 a0)))
    (f13_pre (a0, (f15 a0)) ∧
    K (((f10 (((f8 a0).1), ((f8 a0).2))).2).1 == (f13 (a0, (f15 a0)))))
    (K false))
    (K false))))))
    (br ((f12 (a0, a1)) == 0)
    (br ((f7 ((((f8 a0).1), ((f8 a0).2)), (f9 a1))).2 != 0)
    (K false)
    (f13_pre (a0, a1) ∧
    br ((f7 ((((f8 a0).1), ((f8 a0).2)), (f9 a1))).1 != (f13 (a0, a1)))
    (K false)
    (f14_pre a0 ∧
    br (!(f14 a0))
    (br (((f10 (((f8 a0).1), ((f8 a0).2))).2).2 == 12)
    (br (lenOk (((f10 (((f8 a0).1), ((f8 a0).2))).1).length))
    (br (((((f10 (((f8 a0).1), ((f8 a0).2))).1).length) : Int) == 0)
    (K (((f10 (((f8 a0).1), ((f8 a0).2))).2).1 == 0))
    (K false))
    True)
    (K false))
    (f15_pre a0 ∧
    br (((f10 (((f8 a0).1), ((f8 a0).2))).2).2 == 0)
    (br (f16 ((f10 (((f8 a0).1), ((f8 a0).2))).1, (f15 a0)))
    (f13_pre (a0, (f15 a0)) ∧
    K (((f10 (((f8 a0).1), ((f8 a0).2))).2).1 == (f13 (a0, (f15 a0)))))
    (K false))
    (K false)))))
    (f14_pre a0 ∧
    br (!(f14 a0))
    (br (((f10 (((f8 a0).1), ((f8 a0).2))).2).2 == 12)
    (br (lenOk (((f10 (((f8 a0).1), ((f8 a0).2))).1).length))
    (br (((((f10 (((f8 a0).1), ((f8 a0).2))).1).length) : Int) == 0)
    (K (((f10 (((f8 a0).1), ((f8 a0).2))).2).1 == 0))
    (K false))
    True)
    (K false))
    (f15_pre a0 ∧
    br (((f10 (((f8 a0).1), ((f8 a0).2))).2).2 == 0)
    (br (f16 ((f10 (((f8 a0).1), ((f8 a0).2))).1, (f15 a0)))
    (f13_pre (a0, (f15 a0)) ∧
    K (((f10 (((f8 a0).1), ((f8 a0).2))).2).1 == (f13 (a0, (f15 a0)))))
    (K false))
    (K false)))))))
    True))) := by kernel_rfl
theorem f3_t (a0 : (List (List Int) × List (List Int)) × List (ByteArray × Int × Int × Int × Int) × List Int) (a1 : List (Int × Int)) (K : Bool → Prop) (hK : ∀ y : Bool, y = f3 (a0, a1) → K y) : RunF Tryz.prog f3_E f3_A 6 Tryz.f3 f3_e.doms f3_e.cods (a0, a1) K := by
  refine ⟨?_⟩
  rw [f3_run a0 a1 K]
  have hT : K true := hK _ rfl
  rw [show (!(f5 ())) = false from rfl, br_f, br_both]
  refine ⟨fun _ => hT, fun hs => ?_⟩
  obtain ⟨m1, m2, m3⟩ := small_pre (not_false_.1 hs)
  rw [br_true_]
  intro _
  rw [br_dec]
  refine ⟨fun _ => hT, fun h5 => ?_⟩
  have e11 : f11 a0 = (probOf a0).2 := rfl
  have e7 : f7 (((f8 a0).1, (f8 a0).2), f9 a1) = if (probOf a0).2 ≠ 0 then (0, (probOf a0).2) else if pairsErr a0 a1 ≠ 0 then (0, pairsErr a0 a1) else (boundF a0 a1, 0) := rfl
  have e10 : f10 ((f8 a0).1, (f8 a0).2) = if (probOf a0).2 ≠ 0 then ([], 0, (probOf a0).2) else if costsOk a0 then ((bestM a0).1, (bestM a0).2, 0) else ([], 0, 12) := rfl
  have hl : a1.length ≤ 1000 := by omega
  refine ⟨m1, hl, ⟨m3, hl⟩, m1, m3, ?_⟩
  rw [e7, e10, e11]
  by_cases hp : (probOf a0).2 ≠ 0
  · simp only [if_pos hp]
    rw [show ((probOf a0).2 != 0) = true from by simpa using hp]
    simp only [br_t, beq_self_eq_true, List.length_nil]
    rw [br_true_]
    intro _
    exact hT
  have hok : okP a0 := Classical.byContradiction hp
  have h6 := hok.v.six
  have hpr : ∀ l, PrsV a0.2.1.length l → f13_pre (a0, l) := fun l h => ⟨hok, h.inA, show l.length ≤ 1000 by have := h.len; omega⟩
  have tail : (f14_pre a0 ∧
      br (!(f14 a0))
      (br (((if costsOk a0 then ((bestM a0).1, (bestM a0).2, 0) else ([], 0, 12) : Prs × Int × Int).2).2 == 12)
      (br (lenOk (((if costsOk a0 then ((bestM a0).1, (bestM a0).2, 0) else ([], 0, 12) : Prs × Int × Int).1).length))
      (br (((((if costsOk a0 then ((bestM a0).1, (bestM a0).2, 0) else ([], 0, 12) : Prs × Int × Int).1).length) : Int) == 0)
      (K (((if costsOk a0 then ((bestM a0).1, (bestM a0).2, 0) else ([], 0, 12) : Prs × Int × Int).2).1 == 0))
      (K false))
      True)
      (K false))
      (f15_pre a0 ∧
      br (((if costsOk a0 then ((bestM a0).1, (bestM a0).2, 0) else ([], 0, 12) : Prs × Int × Int).2).2 == 0)
      (br (f16 ((if costsOk a0 then ((bestM a0).1, (bestM a0).2, 0) else ([], 0, 12) : Prs × Int × Int).1, (f15 a0)))
      (f13_pre (a0, (f15 a0)) ∧
      K (((if costsOk a0 then ((bestM a0).1, (bestM a0).2, 0) else ([], 0, 12) : Prs × Int × Int).2).1 == (f13 (a0, (f15 a0)))))
      (K false))
      (K false))) := by
    refine ⟨hok, ?_⟩
    have e14 : f14 a0 = decide (costsOk a0) := rfl
    rw [e14]
    by_cases hc : costsOk a0
    · have e15 : f15 a0 = (bestM a0).1 := rfl
      have e13 : f13 (a0, (bestM a0).1) = (bestM a0).2 := (bestM_bound a0).symm
      have hv : PrsV a0.2.1.length (bestM a0).1 := by
        rcases mStep_spec a0 (matchL a0.2.1.length 7 0 []) ([], 0) with ⟨_, _, h | ⟨l, hl, h⟩⟩
        · rw [bestM, h]; exact PrsV.nil _
        · rw [bestM, h]; exact matchL_valid _ _ _ (PrsV.nil _) l hl
      simp only [if_pos hc, e15, e13, f16, decide_eq_true hc, Bool.not_true, br_f, beq_self_eq_true, br_t, decide_true]
      exact ⟨hok, hpr _ hv, hT⟩
    · simp only [if_neg hc, decide_eq_false hc, Bool.not_false, br_t, beq_self_eq_true, List.length_nil]
      rw [br_true_]
      intro _
      exact hT
  rw [show ((probOf a0).2 != 0) = false from by simpa using hp, br_f]
  simp only [if_neg hp]
  refine ⟨⟨hok, hl⟩, ?_⟩
  have e12 : f12 (a0, a1) = pairsErr a0 a1 := rfl
  have e13 : f13 (a0, a1) = boundF a0 a1 := rfl
  rw [e12, e13]
  by_cases h0 : pairsErr a0 a1 = 0
  · have hz : ∀ z : Int × Int, (if (0 : Int) ≠ 0 then z else (boundF a0 a1, 0)) = (boundF a0 a1, 0) := fun z => rfl
    simp only [h0, hz, bne_self_eq_false, br_f, beq_self_eq_true, br_t]
    exact ⟨⟨hok, (pairsErr_in h0), hl⟩, tail⟩
  · have hb1 : (pairsErr a0 a1 != 0) = true := by simpa using h0
    have hb2 : (pairsErr a0 a1 == 0) = false := by simpa using h0
    simp only [if_pos h0, hb1, hb2, bne_self_eq_false, br_f, br_t]
    exact tail
theorem f3_fn : f3_e.fn = f3 := rfl
theorem f3_ok : EntryOK Tryz.prog 3 f3_e := by
  refine entryF progOK (EnvOK.cons f5_ok (EnvOK.cons f6_ok (EnvOK.cons f7_ok (EnvOK.cons f8_ok (EnvOK.cons f9_ok (EnvOK.cons f10_ok (EnvOK.cons f11_ok (EnvOK.cons f12_ok (EnvOK.cons f13_ok (EnvOK.cons f14_ok (EnvOK.cons f15_ok (EnvOK.cons f16_ok (EnvOK.nil))))))))))))) (A := f3_A) (d := 6) Tryz.func3 rfl rfl rfl rfl (fun _ _ => trivial) fun x hpre => ?_
  obtain ⟨a0, a1⟩ := x
  exact f3_t a0 a1 _ fun _ h => h.trans (congrFun f3_fn.symm _)
end Go.Proofs.YtglokajinehbmaaGreat
