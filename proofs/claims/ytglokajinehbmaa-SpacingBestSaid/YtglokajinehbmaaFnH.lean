/- What functions of the program compute, each proved once, part 8. -/
import Derived.Test.YtglokajinehbmaaPiD
import Derived.Test.YtglokajinehbmaaFnA
import Derived.Test.YtglokajinehbmaaFnC
import Derived.Test.YtglokajinehbmaaFnD
import Derived.Test.YtglokajinehbmaaFnG
import Derived.Test.YtglokajinehbmaaFnE

namespace Go.Proofs.Ytglokajinehbmaa
open Go Go.Pi Go.RowKit
set_option maxRecDepth 100000
set_option linter.unusedVariables false
set_option linter.unusedSimpArgs false

def f6 (x : ((List (List Int) × List (List Int)) × List (ByteArray × Int × Int × Int × Int) × List Int)) : Bool := true
def f6_e : Entry := { doms := [(true, (.pair (.pair (.sl (.sl (.int .i64))) (.sl (.sl (.int .i64)))) (.pair (.sl (.pair .str (.pair (.int .i64) (.pair (.int .i64) (.pair (.int .i64) (.int .i64)))))) (.sl (.int .i64)))))], cods := [(false, .bool)], pre := fun _ => True, fn := f6, uq := false, total := true }
def f6_E : Env := [(13, f13_e), (21, f21_e), (25, f25_e), (34, f34_e), (35, f35_e), (36, f36_e), (37, f37_e), (38, f38_e), (39, f39_e), (51, f51_e)]
def f6_A : Anns := { loops := [], own := [] }
theorem f6_run (a0 : (List (List Int) × List (List Int)) × List (ByteArray × Int × Int × Int × Int) × List Int) (K : Bool → Prop) : runF Try.prog f6_E f6_A 6 Try.f6 f6_e.doms f6_e.cods a0 K =
    (br (!(f13 ()))
    (K false)
    (br (!(f21 a0))
    (K true)
    (f25_pre a0 ∧
    f34_pre (((f25 a0).1), ((f25 a0).2)) ∧
    br ((f35 a0) != 0)
    (br (((f34 (((f25 a0).1), ((f25 a0).2))).2).2 == (f35 a0))
    (br (lenOk (((f34 (((f25 a0).1), ((f25 a0).2))).1).length))
    (br (((((f34 (((f25 a0).1), ((f25 a0).2))).1).length) : Int) == 0)
    (K (((f34 (((f25 a0).1), ((f25 a0).2))).2).1 == 0))
    (K false))
    True)
    (K false))
    (f36_pre (a0, ([] : List (Int × Int))) ∧
    br (!((f36 (a0, ([] : List (Int × Int)))).2).2)
    (br (((f34 (((f25 a0).1), ((f25 a0).2))).2).2 == 12)
    (br (lenOk (((f34 (((f25 a0).1), ((f25 a0).2))).1).length))
    (br (((((f34 (((f25 a0).1), ((f25 a0).2))).1).length) : Int) == 0)
    (K (((f34 (((f25 a0).1), ((f25 a0).2))).2).1 == 0))
    (K false))
    True)
    (K false))
    (br (((f34 (((f25 a0).1), ((f25 a0).2))).2).2 != 0)
    (K false)
    (br (!(f37 ((f34 (((f25 a0).1), ((f25 a0).2))).1, (f36 (a0, ([] : List (Int × Int)))).1)))
    (K false)
    (br (((f34 (((f25 a0).1), ((f25 a0).2))).2).1 != ((f36 (a0, ([] : List (Int × Int)))).2).1)
    (K false)
    (f25_pre a0 ∧
    f39_pre ((f34 (((f25 a0).1), ((f25 a0).2))).1) ∧
    f38_pre ((((f25 a0).1), ((f25 a0).2)), (f39 ((f34 (((f25 a0).1), ((f25 a0).2))).1))) ∧
    br ((f38 ((((f25 a0).1), ((f25 a0).2)), (f39 ((f34 (((f25 a0).1), ((f25 a0).2))).1)))).2 == 0)
    (K ((f38 ((((f25 a0).1), ((f25 a0).2)), (f39 ((f34 (((f25 a0).1), ((f25 a0).2))).1)))).1 == ((f36 (a0, ([] : List (Int × Int)))).2).1))
    (K false))))))))) := by kernel_rfl
theorem f6_t (a0 : (List (List Int) × List (List Int)) × List (ByteArray × Int × Int × Int × Int) × List Int) (K : Bool → Prop) (hK : ∀ y : Bool, y = f6 a0 → K y) : RunF Try.prog f6_E f6_A 6 Try.f6 f6_e.doms f6_e.cods a0 K := by
  refine ⟨?_⟩
  rw [f6_run a0 K]
  have hT : K true := hK _ rfl
  rw [show (!(f13 ())) = false from rfl, br_f, br_both]
  refine ⟨fun _ => hT, fun hs => ?_⟩
  obtain ⟨m1, m2, m3⟩ := small_pre (not_false_.1 hs)
  have e34 : f34 ((f25 a0).1, (f25 a0).2) = replF a0 [] := rfl
  have e35 : f35 a0 = (probOf a0).2 := rfl
  have e36 : f36 (a0, []) = bestF a0 [] := rfl
  have e37 : ∀ a b, f37 (a, b) = decide (a = b) := fun _ _ => rfl
  refine ⟨m1, m3, ?_⟩
  rw [e34, e35, e36]
  rw [br_both]
  refine ⟨fun hp => ?_, fun hp => ?_⟩
  · have hp : (probOf a0).2 ≠ 0 := by simpa using hp
    have hpl : planE a0 [] = (probOf a0).2 := if_neg hp
    have er : replF a0 [] = ([], 0, (probOf a0).2) := by rw [replF, if_pos (by rw [hpl]; exact hp), hpl]
    rw [er]
    simp only [beq_self_eq_true, br_t, List.length_nil]
    exact hT
  · have hok : okP a0 := by
      have : (probOf a0).2 = 0 := by simpa using hp
      exact this
    have hpl : planE a0 [] = 0 := (if_pos hok).trans rfl
    have hf : FixV a0 [] := ⟨hok, fun s hs => (by cases hs), by simp⟩
    have er : replF a0 [] = ((bestF a0 []).1, (bestF a0 []).2.1, if (bestF a0 []).2.2 = true then 0 else 12) := by rw [replF, if_neg (fun hh => hh hpl)]
    refine ⟨hf, ?_⟩
    rw [er]
    cases hb : (bestF a0 []).2.2 with
    | false =>
      have := (best_none hb).1
      rw [this]
      simp only [Bool.not_false, br_t, if_neg (show ¬ (false = true) by decide), beq_self_eq_true, List.length_nil]
      exact hT
    | true =>
      obtain ⟨s1, _, s3⟩ := best_slots hf rfl hb
      have hc := (best_some hb).2.1
      have h6 := hok.v.six
      simp only [Bool.not_true, br_f, if_pos, bne_self_eq_false, e37, decide_true]
      have hle : (bestF a0 []).1.length ≤ 1000 := by omega
      have e38 : f38 (((f25 a0).1, (f25 a0).2), f39 (bestF a0 []).1) = (costF a0 (bestF a0 []).1, 0) := by
        show (if planE a0 (bestF a0 []).1 ≠ 0 then (0, planE a0 (bestF a0 []).1) else if (bestF a0 []).1.length ≠ a0.2.1.length then (0, 10) else (costF a0 (bestF a0 []).1, 0)) = _
        rw [if_neg (fun hh => hh ((if_pos hok).trans s1)), if_neg (fun hh => hh s3)]
      refine ⟨m1, hle, ⟨m3, hle⟩, ?_⟩
      rw [e38, hc]
      simp only [beq_self_eq_true, br_t]
      exact hT
theorem f6_fn : f6_e.fn = f6 := rfl
theorem f6_ok : EntryOK Try.prog 6 f6_e := by
  refine entryF progOK (EnvOK.cons f13_ok (EnvOK.cons f21_ok (EnvOK.cons f25_ok (EnvOK.cons f34_ok (EnvOK.cons f35_ok (EnvOK.cons f36_ok (EnvOK.cons f37_ok (EnvOK.cons f38_ok (EnvOK.cons f39_ok (EnvOK.cons f51_ok (EnvOK.nil))))))))))) (A := f6_A) (d := 6) Try.func6 rfl rfl rfl (fun _ _ => trivial) fun x hpre => ?_
  exact f6_t x _ fun _ h => h.trans (congrFun f6_fn.symm _)
end Go.Proofs.Ytglokajinehbmaa
