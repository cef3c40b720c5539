/- What functions of the program compute, each proved once, part 10. -/
import Derived.Test.YtglokajinehbmaaPiD
import Derived.Test.YtglokajinehbmaaFnA
import Derived.Test.YtglokajinehbmaaFnC
import Derived.Test.YtglokajinehbmaaFnD
import Derived.Test.YtglokajinehbmaaFnG
import Derived.Test.YtglokajinehbmaaFnE
import Derived.Test.YtglokajinehbmaaFnH
import Derived.Test.YtglokajinehbmaaFnI

namespace Go.Proofs.Ytglokajinehbmaa
open Go Go.Pi Go.RowKit
set_option maxRecDepth 100000
set_option linter.unusedVariables false
set_option linter.unusedSimpArgs false

def f10 (x : ((List (List Int) × List (List Int)) × List (ByteArray × Int × Int × Int × Int) × List Int) × List (Int × Int) × List (Int × Int)) : Bool := true
def bTail (a0 : Prob) (a2 : Prs) (K : Bool → Prop) : Prop := br (((f34 (((f25 a0).1), ((f25 a0).2))).2).2 != 0)
  (K true)
  (f25_pre a0 ∧
  f39_pre ((f34 (((f25 a0).1), ((f25 a0).2))).1) ∧
  f38_pre ((((f25 a0).1), ((f25 a0).2)), (f39 ((f34 (((f25 a0).1), ((f25 a0).2))).1))) ∧
  br ((f38 ((((f25 a0).1), ((f25 a0).2)), (f39 ((f34 (((f25 a0).1), ((f25 a0).2))).1)))).2 != 0)
  (K false)
  (br ((f38 ((((f25 a0).1), ((f25 a0).2)), (f39 ((f34 (((f25 a0).1), ((f25 a0).2))).1)))).1 != ((f34 (((f25 a0).1), ((f25 a0).2))).2).1)
  (K false)
  (br (decide (((f34 (((f25 a0).1), ((f25 a0).2))).2).1 < ((f52 (((f25 a0).1), ((f25 a0).2))).2).1))
  (K false)
  (f25_pre a0 ∧
  f54_pre a2 ∧
  f53_pre ((((f25 a0).1), ((f25 a0).2)), (f54 a2)) ∧
  br ((f53 ((((f25 a0).1), ((f25 a0).2)), (f54 a2))).2 != 0)
  (K true)
  (br (decide ((f53 ((((f25 a0).1), ((f25 a0).2)), (f54 a2))).1 ≤ ((f52 (((f25 a0).1), ((f25 a0).2))).2).1))
  (K (decide ((f53 ((((f25 a0).1), ((f25 a0).2)), (f54 a2))).1 ≤ ((f34 (((f25 a0).1), ((f25 a0).2))).2).1)))
  (K false))))))
def bMid (a0 : Prob) (a1 a2 : Prs) (K : Bool → Prop) : Prop := f25_pre a0 ∧
  f39_pre a1 ∧
  f38_pre ((((f25 a0).1), ((f25 a0).2)), (f39 a1)) ∧
  br ((f38 ((((f25 a0).1), ((f25 a0).2)), (f39 a1))).2 == 0)
  (br (((f34 (((f25 a0).1), ((f25 a0).2))).2).2 != 0)
  (K false)
  (br (decide ((f38 ((((f25 a0).1), ((f25 a0).2)), (f39 a1))).1 < ((f34 (((f25 a0).1), ((f25 a0).2))).2).1))
  (K false)
  (br (decide ((f38 ((((f25 a0).1), ((f25 a0).2)), (f39 a1))).1 < ((f52 (((f25 a0).1), ((f25 a0).2))).2).1))
  (K false)
  (bTail a0 a2 K))))
  (bTail a0 a2 K)
def bY (a0 : Prob) (a1 a2 : Prs) (K : Bool → Prop) : Prop := br (((f34 (((f25 a0).1), ((f25 a0).2))).2).2 != 0) (br (((f34 (((f25 a0).1), ((f25 a0).2))).2).2 != 12) (K false) (bMid a0 a1 a2 K)) (bMid a0 a1 a2 K)
def bX (a0 : Prob) (a1 a2 : Prs) (K : Bool → Prop) : Prop := br (((f52 (((f25 a0).1), ((f25 a0).2))).2).2 != 0) (br (((f52 (((f25 a0).1), ((f25 a0).2))).2).2 != 12) (K false) (bY a0 a1 a2 K)) (bY a0 a1 a2 K)
def f10_e : Entry := { doms := [(true, (.pair (.pair (.sl (.sl (.int .i64))) (.sl (.sl (.int .i64)))) (.pair (.sl (.pair .str (.pair (.int .i64) (.pair (.int .i64) (.pair (.int .i64) (.int .i64)))))) (.sl (.int .i64))))), (false, (.sl (.pair (.int .i64) (.int .i64)))), (false, (.sl (.pair (.int .i64) (.int .i64))))], cods := [(false, .bool)], pre := fun _ => True, fn := f10, uq := false, total := true }
def f10_E : Env := [(13, f13_e), (21, f21_e), (25, f25_e), (34, f34_e), (35, f35_e), (38, f38_e), (39, f39_e), (52, f52_e), (53, f53_e), (54, f54_e), (51, f51_e)]
def f10_A : Anns := { loops := [], own := [] }
theorem f10_run (a0 : (List (List Int) × List (List Int)) × List (ByteArray × Int × Int × Int × Int) × List Int) (a1 : List (Int × Int)) (a2 : List (Int × Int)) (K : Bool → Prop) : runF Try.prog f10_E f10_A 6 Try.f10 f10_e.doms f10_e.cods (a0, a1, a2) K =
    (br (!(f13 ()))
    (K false)
    (br (!(f21 a0))
    (K true)
    (br ((f35 a0) != 0)
    (K true)
    (br (lenOk (a1.length))
    (br (decide (((a1.length) : Int) > 8))
    (K true)
    (br (lenOk (a2.length))
    (br (decide (((a2.length) : Int) > 5))
    (K true)
    (f25_pre a0 ∧
    f34_pre (((f25 a0).1), ((f25 a0).2)) ∧
    f25_pre a0 ∧
    f52_pre (((f25 a0).1), ((f25 a0).2)) ∧
    br (((f52 (((f25 a0).1), ((f25 a0).2))).2).2 == 12)
    (br (((f34 (((f25 a0).1), ((f25 a0).2))).2).2 != 12)
    (K false)
    (bX a0 a1 a2 K))
    (bX a0 a1 a2 K)))
    True))
    True)))) := by kernel_rfl
theorem f10_t (a0 : (List (List Int) × List (List Int)) × List (ByteArray × Int × Int × Int × Int) × List Int) (a1 : List (Int × Int)) (a2 : List (Int × Int)) (K : Bool → Prop) (hK : ∀ y : Bool, y = f10 (a0, a1, a2) → K y) : RunF Try.prog f10_E f10_A 6 Try.f10 f10_e.doms f10_e.cods (a0, a1, a2) K := by
  refine ⟨?_⟩
  rw [f10_run a0 a1 a2 K]
  have hT : K true := hK _ rfl
  rw [show (!(f13 ())) = false from rfl, br_f, br_both]
  refine ⟨fun _ => hT, fun hs => ?_⟩
  obtain ⟨m1, m2, m3⟩ := small_pre (not_false_.1 hs)
  have e35 : f35 a0 = (probOf a0).2 := rfl
  rw [e35, br_both]
  refine ⟨fun _ => hT, fun hp => ?_⟩
  have hok : okP a0 := by
    have : (probOf a0).2 = 0 := by simpa using hp
    exact this
  have h6 := hok.v.six
  rw [br_true_]
  intro _
  rw [br_dec]
  refine ⟨fun _ => hT, fun h8 => ?_⟩
  rw [br_true_]
  intro _
  rw [br_dec]
  refine ⟨fun _ => hT, fun h5 => ?_⟩
  refine ⟨m1, m3, m1, m3, ?_⟩
  have hpl : planE a0 [] = 0 := (if_pos hok).trans rfl
  have e34 : f34 ((f25 a0).1, (f25 a0).2) = ((bestF a0 []).1, (bestF a0 []).2.1, if (bestF a0 []).2.2 = true then 0 else 12) := by
    show replF a0 [] = _
    rw [replF, if_neg (fun hh => hh hpl)]
  have e52 : f52 ((f25 a0).1, (f25 a0).2) = if costsOk a0 then ((bestM a0).1, (bestM a0).2, 0) else ([], 0, 12) := by
    show (if (probOf a0).2 ≠ 0 then ([], 0, (probOf a0).2) else if costsOk a0 then ((bestM a0).1, (bestM a0).2, 0) else ([], 0, 12)) = _
    rw [if_neg (fun hh => hh hok)]
  have e38 : ∀ l, f38 (((f25 a0).1, (f25 a0).2), f39 l) = if planE a0 l ≠ 0 then (0, planE a0 l) else if l.length ≠ a0.2.1.length then (0, 10) else (costF a0 l, 0) := fun l => rfl
  have e53 : f53 (((f25 a0).1, (f25 a0).2), f54 a2) = if pairsErr a0 a2 ≠ 0 then (0, pairsErr a0 a2) else (boundF a0 a2, 0) := by
    show (if (probOf a0).2 ≠ 0 then (0, (probOf a0).2) else if pairsErr a0 a2 ≠ 0 then (0, pairsErr a0 a2) else (boundF a0 a2, 0)) = _
    rw [if_neg (fun hh => hh hok)]
  have hf : FixV a0 [] := ⟨hok, fun s hs => (by cases hs), by simp⟩
  -- the best plan, where there is one
  have best : (bestF a0 []).2.2 = true → Whole a0 (bestF a0 []).1 ∧ costF a0 (bestF a0 []).1 = (bestF a0 []).2.1 := fun hb => by
    obtain ⟨s1, _, s3⟩ := best_slots hf rfl hb
    exact ⟨⟨hok, s1, s3⟩, (best_some hb).2.1.symm⟩
  have tail : bTail a0 a2 K := by
    unfold bTail
    rw [e34, e52, e53]
    simp only [e38]
    cases hb : (bestF a0 []).2.2 with
    | false =>
      simp only [if_neg (show ¬ (false = true) by decide)]
      exact hT
    | true =>
      obtain ⟨hW, hc⟩ := best hb
      have hle := hW.bestM
      have hlen : (bestF a0 []).1.length ≤ 1000 := by have := hW.len; omega
      have hpl2 : planE a0 (bestF a0 []).1 = 0 := (if_pos hok).trans hW.slots
      simp only [if_pos, bne_self_eq_false, br_f, if_pos hW.costs]
      rw [if_neg (fun hh => hh hpl2), if_neg (fun hh => hh hW.len)]
      simp only [hc, bne_self_eq_false, br_f]
      refine ⟨m1, hlen, ⟨m3, hlen⟩, ?_⟩
      rw [br_dec]
      refine ⟨fun h => by omega, fun _ => ⟨m1, show a2.length ≤ 1000 by omega, ⟨m3, show a2.length ≤ 1000 by omega⟩, ?_⟩⟩
      by_cases hq : pairsErr a0 a2 = 0
      · have hb2 := pairsErr_le hok hq
        rw [if_neg (fun hh => hh hq)]
        simp only [bne_self_eq_false, br_f]
        rw [decide_eq_true hb2, br_t, decide_eq_true (show boundF a0 a2 ≤ (bestF a0 []).2.1 by omega)]
        exact hT
      · rw [if_pos hq]
        simp only
        rw [bne_iff_ne.2 hq, br_t]
        exact hT
  have mid : bMid a0 a1 a2 K := by
    unfold bMid
    rw [e34, e52]
    simp only [e38]
    refine ⟨m1, show a1.length ≤ 1000 by omega, ⟨m3, show a1.length ≤ 1000 by omega⟩, ?_⟩
    by_cases h1 : planE a0 a1 = 0
    · rw [if_neg (fun hh => hh h1)]
      by_cases h2 : a1.length = a0.2.1.length
      · rw [if_neg (fun hh => hh h2)]
        have hW : Whole a0 a1 := ⟨hok, (show planE a0 a1 = slotsErr a0 a1 from if_pos hok).symm.trans h1, h2⟩
        obtain ⟨hb, hbc⟩ := hW.best 0
        rw [List.take_zero] at hb hbc
        have hle := hW.bestM
        rw [hb, if_pos hW.costs]
        simp only [beq_self_eq_true, br_t, if_pos, bne_self_eq_false, br_f]
        rw [br_dec]
        refine ⟨fun h => by omega, fun _ => ?_⟩
        rw [br_dec]
        exact ⟨fun h => by omega, fun _ => tail⟩
      · rw [if_pos h2]
        exact tail
    · rw [if_pos h1]
      simp only
      rw [beq_eq_false_iff_ne.2 h1, br_f]
      exact tail
  have hy : bY a0 a1 a2 K := by
    unfold bY
    rw [e34]
    cases hb : (bestF a0 []).2.2 with
    | true => exact mid
    | false => exact mid
  have hx : bX a0 a1 a2 K := by
    unfold bX
    rw [e52]
    by_cases hc : costsOk a0
    · rw [if_pos hc]; exact hy
    · rw [if_neg hc]; exact hy
  rw [e34, e52]
  by_cases hc : costsOk a0
  · rw [if_pos hc]
    exact hx
  · rw [if_neg hc]
    cases hb : (bestF a0 []).2.2 with
    | true => exact absurd (best hb).1.costs hc
    | false => exact hx
theorem f10_fn : f10_e.fn = f10 := rfl
theorem f10_ok : EntryOK Try.prog 10 f10_e := by
  refine entryF progOK (EnvOK.cons f13_ok (EnvOK.cons f21_ok (EnvOK.cons f25_ok (EnvOK.cons f34_ok (EnvOK.cons f35_ok (EnvOK.cons f38_ok (EnvOK.cons f39_ok (EnvOK.cons f52_ok (EnvOK.cons f53_ok (EnvOK.cons f54_ok (EnvOK.cons f51_ok (EnvOK.nil)))))))))))) (A := f10_A) (d := 6) Try.func10 rfl rfl rfl rfl (fun _ _ => trivial) fun x hpre => ?_
  obtain ⟨a0, a1, a2⟩ := x
  exact f10_t a0 a1 a2 _ fun _ h => h.trans (congrFun f10_fn.symm _)
end Go.Proofs.Ytglokajinehbmaa
