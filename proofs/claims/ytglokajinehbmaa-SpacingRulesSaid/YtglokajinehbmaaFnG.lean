/- What functions of the program compute, each proved once, part 7. -/
import Derived.Test.YtglokajinehbmaaPiD
import Derived.Test.YtglokajinehbmaaFnA
import Derived.Test.YtglokajinehbmaaFnC
import Derived.Test.YtglokajinehbmaaFnD
import Derived.Test.YtglokajinehbmaaFnE
import Derived.Test.YtglokajinehbmaaFnF

namespace Go.Proofs.Ytglokajinehbmaa
open Go Go.Pi Go.RowKit
set_option maxRecDepth 100000
set_option linter.unusedVariables false
set_option linter.unusedSimpArgs false

def f5 (x : (List (List Int) × List (List Int)) × (Int × Int × Bool) × List Int × Int) : Bool := true
theorem few_pre5 {r : Rul} (h : f14 r = true) : f19_pre r ∧ r.1.length ≤ 6 := by
  obtain ⟨⟨h1, h2⟩, h3, h4⟩ := of_decide_eq_true h
  exact ⟨⟨⟨by omega, fun x hx => by have := h3 x hx; omega⟩, by omega, fun x hx => by have := h4 x hx; omega⟩, h1⟩
def f5_e : Entry := { doms := [(true, (.pair (.sl (.sl (.int .i64))) (.sl (.sl (.int .i64))))), (true, (.pair (.int .i64) (.pair (.int .i64) .bool))), (true, (.pair (.sl (.int .i64)) (.int .i64)))], cods := [(false, .bool)], pre := fun _ => True, fn := f5, uq := false, total := true }
def f5_E : Env := [(13, f13_e), (14, f14_e), (16, f16_e), (18, f18_e), (19, f19_e), (20, f20_e), (28, f28_e), (29, f29_e), (30, f30_e), (31, f31_e), (32, f32_e), (33, f33_e)]
def f5_A : Anns := { loops := [], own := [] }
theorem f5_run (a0 : List (List Int) × List (List Int)) (a1 : Int × Int × Bool) (a2 : List Int × Int) (K : Bool → Prop) : runF Try.prog f5_E f5_A 6 Try.f5 f5_e.doms f5_e.cods (a0, a1, a2) K =
    (br (!(f13 ()))
    (K false)
    (br (!(f14 a0))
    (K true)
    (br (lenOk (a2.1.length))
    (br (decide (((a2.1.length) : Int) > 14))
    (K true)
    (f19_pre a0 ∧
    f19_pre a0 ∧
    f29_pre ((f19 a0), a1) ∧
    f19_pre a0 ∧
    f20_pre a2.1 ∧
    f18_pre ((f19 a0), ((f20 a2.1), a2.2)) ∧
    br ((f28 (f19 a0)).2 != (f30 a0).2)
    (K false)
    (br ((f28 (f19 a0)).1 != (f30 a0).1)
    (K false)
    (br ((f30 a0).2 != 0)
    (br ((f29 ((f19 a0), a1)).2 == (f30 a0).2)
    (br ((f29 ((f19 a0), a1)).1 == 0)
    (br ((f18 ((f19 a0), ((f20 a2.1), a2.2))).2 == (f30 a0).2)
    (K ((f18 ((f19 a0), ((f20 a2.1), a2.2))).1 == 0))
    (K false))
    (K false))
    (K false))
    (br (!(f31 (a0, a1.1)))
    (br ((f29 ((f19 a0), a1)).2 != 6)
    (K false)
    (br ((f29 ((f19 a0), a1)).1 != 0)
    (K false)
    (f16_pre (a0, a2) ∧
    br ((f16 (a0, a2)) != 0)
    (br ((f18 ((f19 a0), ((f20 a2.1), a2.2))).2 == (f16 (a0, a2)))
    (K ((f18 ((f19 a0), ((f20 a2.1), a2.2))).1 == 0))
    (K false))
    (br ((f18 ((f19 a0), ((f20 a2.1), a2.2))).2 == 0)
    (f33_pre (a0, a2) ∧
    K ((f18 ((f19 a0), ((f20 a2.1), a2.2))).1 == (f33 (a0, a2))))
    (K false)))))
    (br (!(f31 (a0, a1.2.1)))
    (br ((f29 ((f19 a0), a1)).2 != 6)
    (K false)
    (br ((f29 ((f19 a0), a1)).1 != 0)
    (K false)
    (f16_pre (a0, a2) ∧
    br ((f16 (a0, a2)) != 0)
    (br ((f18 ((f19 a0), ((f20 a2.1), a2.2))).2 == (f16 (a0, a2)))
    (K ((f18 ((f19 a0), ((f20 a2.1), a2.2))).1 == 0))
    (K false))
    (br ((f18 ((f19 a0), ((f20 a2.1), a2.2))).2 == 0)
    (f33_pre (a0, a2) ∧
    K ((f18 ((f19 a0), ((f20 a2.1), a2.2))).1 == (f33 (a0, a2))))
    (K false)))))
    (br ((f29 ((f19 a0), a1)).2 != 0)
    (K false)
    (f32_pre (a0, a1) ∧
    br ((f29 ((f19 a0), a1)).1 != (f32 (a0, a1)))
    (K false)
    (f16_pre (a0, a2) ∧
    br ((f16 (a0, a2)) != 0)
    (br ((f18 ((f19 a0), ((f20 a2.1), a2.2))).2 == (f16 (a0, a2)))
    (K ((f18 ((f19 a0), ((f20 a2.1), a2.2))).1 == 0))
    (K false))
    (br ((f18 ((f19 a0), ((f20 a2.1), a2.2))).2 == 0)
    (f33_pre (a0, a2) ∧
    K ((f18 ((f19 a0), ((f20 a2.1), a2.2))).1 == (f33 (a0, a2))))
    (K false)))))))))))
    True))) := by kernel_rfl
theorem f5_t (a0 : List (List Int) × List (List Int)) (a1 : Int × Int × Bool) (a2 : List Int × Int) (K : Bool → Prop) (hK : ∀ y : Bool, y = f5 (a0, a1, a2) → K y) : RunF Try.prog f5_E f5_A 6 Try.f5 f5_e.doms f5_e.cods (a0, a1, a2) K := by
  refine ⟨?_⟩
  rw [f5_run a0 a1 a2 K]
  have hT : K true := hK _ rfl
  rw [show (!(f13 ())) = false from rfl, br_f, br_both]
  refine ⟨fun _ => hT, fun hs => ?_⟩
  obtain ⟨m1, m2⟩ := few_pre5 (not_false_.1 hs)
  rw [br_true_]
  intro _
  rw [br_dec]
  refine ⟨fun _ => hT, fun h14 => ?_⟩
  have p20 : f20_pre a2.1 := by show a2.1.length ≤ 1048576; omega
  refine ⟨m1, m1, show a0.1.length ≤ 1048576 by omega, m1, p20, ⟨show a0.1.length ≤ 1048576 by omega, show a2.1.length ≤ 1048576 by omega⟩, ?_⟩
  have e30 : f30 a0 = ruleOf a0 := rfl
  have e28 : f28 (f19 a0) = ruleOf a0 := rfl
  have e29 : f29 (f19 a0, a1) = if sepE a0 a1 ≠ 0 then (0, sepE a0 a1) else (secAt a0 a1.1 a1.2.1 a1.2.2, 0) := rfl
  have e18 : f18 (f19 a0, f20 a2.1, a2.2) = if capE a0 a2.1 a2.2 ≠ 0 then (0, capE a0 a2.1 a2.2) else ((capF a0 a2.1 a2.2 : Int), 0) := rfl
  have e31 : ∀ n, f31 (a0, n) = decide (0 ≤ n ∧ n < a0.1.length) := fun n => rfl
  have e16 : f16 (a0, a2) = mixErr a0 a2.1 a2.2 := rfl
  have e33 : f33 (a0, a2) = capF a0 a2.1 a2.2 := rfl
  have e32 : f32 (a0, a1) = secAt a0 a1.1 a1.2.1 a1.2.2 := rfl
  rw [e30, e28, e29, e18, e31, e31, e16, e33, e32]
  simp only [bne_self_eq_false, br_f]
  rw [br_both]
  refine ⟨fun hr => ?_, fun hr => ?_⟩
  · have hr : (ruleOf a0).2 ≠ 0 := by simpa using hr
    have q1 : sepE a0 a1 = (ruleOf a0).2 := if_pos hr
    have q2 : capE a0 a2.1 a2.2 = (ruleOf a0).2 := if_pos hr
    rw [q1, q2, if_pos hr, if_pos hr]
    simp only [beq_self_eq_true, br_t]
    exact hT
  · have hr : (ruleOf a0).2 = 0 := by simpa using hr
    have q2 : capE a0 a2.1 a2.2 = mixErr a0 a2.1 a2.2 := if_neg (fun hh => hh hr)
    rw [q2]
    have tail : f16_pre (a0, a2) ∧ br (mixErr a0 a2.1 a2.2 != 0)
        (br ((if mixErr a0 a2.1 a2.2 ≠ 0 then (0, mixErr a0 a2.1 a2.2) else ((capF a0 a2.1 a2.2 : Int), 0)).2 == mixErr a0 a2.1 a2.2) (K ((if mixErr a0 a2.1 a2.2 ≠ 0 then (0, mixErr a0 a2.1 a2.2) else ((capF a0 a2.1 a2.2 : Int), 0)).1 == 0)) (K false))
        (br ((if mixErr a0 a2.1 a2.2 ≠ 0 then (0, mixErr a0 a2.1 a2.2) else ((capF a0 a2.1 a2.2 : Int), 0)).2 == 0) (f33_pre (a0, a2) ∧ K ((if mixErr a0 a2.1 a2.2 ≠ 0 then (0, mixErr a0 a2.1 a2.2) else ((capF a0 a2.1 a2.2 : Int), 0)).1 == (capF a0 a2.1 a2.2 : Int))) (K false)) := by
      refine ⟨hr, ?_⟩
      by_cases hm : mixErr a0 a2.1 a2.2 = 0
      · rw [if_neg (fun hh => hh hm), hm]
        simp only [bne_self_eq_false, br_f, beq_self_eq_true, br_t]
        exact ⟨mixErr_zero hr hm, hT⟩
      · rw [if_pos hm, bne_iff_ne.2 hm]
        simp only [beq_self_eq_true, br_t]
        exact hT
    by_cases hc1 : 0 ≤ a1.1 ∧ a1.1 < (a0.1.length : Int)
    · by_cases hc2 : 0 ≤ a1.2.1 ∧ a1.2.1 < (a0.1.length : Int)
      · have q1 : sepE a0 a1 = 0 := by rw [sepE, if_neg (fun hh => hh hr), if_pos ⟨hc1, hc2⟩]
        rw [q1, decide_eq_true hc1, decide_eq_true hc2, if_neg (fun hh => hh rfl)]
        simp only [Bool.not_true, br_f, bne_self_eq_false]
        exact ⟨⟨hr, hc1, hc2.1, hc2.2⟩, tail⟩
      · have q1 : sepE a0 a1 = 6 := by rw [sepE, if_neg (fun hh => hh hr), if_neg (fun hh => hc2 hh.2)]
        rw [q1, decide_eq_true hc1, decide_eq_false hc2, if_pos (by decide)]
        simp only [Bool.not_true, Bool.not_false, br_f, br_t, bne_self_eq_false]
        exact tail
    · have q1 : sepE a0 a1 = 6 := by rw [sepE, if_neg (fun hh => hh hr), if_neg (fun hh => hc1 hh.1)]
      rw [q1, decide_eq_false hc1, if_pos (by decide)]
      simp only [Bool.not_false, br_f, br_t, bne_self_eq_false]
      exact tail
theorem f5_fn : f5_e.fn = f5 := rfl
theorem f5_ok : EntryOK Try.prog 5 f5_e := by
  refine entryF progOK (EnvOK.cons f13_ok (EnvOK.cons f14_ok (EnvOK.cons f16_ok (EnvOK.cons f18_ok (EnvOK.cons f19_ok (EnvOK.cons f20_ok (EnvOK.cons f28_ok (EnvOK.cons f29_ok (EnvOK.cons f30_ok (EnvOK.cons f31_ok (EnvOK.cons f32_ok (EnvOK.cons f33_ok (EnvOK.nil))))))))))))) (A := f5_A) (d := 6) Try.func5 rfl rfl rfl (fun _ _ => trivial) fun x hpre => ?_
  obtain ⟨a0, a1, a2⟩ := x
  exact f5_t a0 a1 a2 _ fun _ h => h.trans (congrFun f5_fn.symm _)
end Go.Proofs.Ytglokajinehbmaa
