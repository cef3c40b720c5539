/- What functions of the program compute, each proved once, part 8. -/
import Derived.Test.YtglokajinehbmaaPiD
import Derived.Test.YtglokajinehbmaaFnA
import Derived.Test.YtglokajinehbmaaFnC
import Derived.Test.YtglokajinehbmaaFnD
import Derived.Test.YtglokajinehbmaaFnF
import Derived.Test.YtglokajinehbmaaFnE
import Derived.Test.YtglokajinehbmaaFnG

namespace Go.Proofs.Ytglokajinehbmaa
open Go Go.Pi Go.RowKit
set_option maxRecDepth 100000
set_option linter.unusedVariables false
set_option linter.unusedSimpArgs false

def f9 (x : ((List (List Int) × List (List Int)) × List (ByteArray × Int × Int × Int × Int) × List Int) × List (Int × Int) × Int × Int) : Bool := true
def setTo (C : Nat → Int) : Nat → List Int
  | 0 => [0, 0]
  | i + 1 => (setTo C i).set i (C i)
def f9_e : Entry := { doms := [(true, (.pair (.pair (.sl (.sl (.int .i64))) (.sl (.sl (.int .i64)))) (.pair (.sl (.pair .str (.pair (.int .i64) (.pair (.int .i64) (.pair (.int .i64) (.int .i64)))))) (.sl (.int .i64))))), (false, (.sl (.pair (.int .i64) (.int .i64)))), (true, (.pair (.int .i64) (.int .i64)))], cods := [(false, .bool)], pre := fun _ => True, fn := f9, uq := false, total := true }
def f9_E : Env := [(13, f13_e), (17, f17_e), (21, f21_e), (25, f25_e), (35, f35_e), (37, f37_e), (38, f38_e), (39, f39_e), (49, f49_e), (50, f50_e), (51, f51_e)]
def f9_A : Anns := { loops := [(1048576, { tms := [(1, .keep), (3, .keep), (5, .keep), (7, .keep), (9, .keep), (10, .data false (.int .i64))], obs := [(1048576, .keep), (1048577, .keep), (1056768, .arr (.fixed 2) (.int .i64))], fz := [] })], own := [] }
theorem f9_run (a0 : (List (List Int) × List (List Int)) × List (ByteArray × Int × Int × Int × Int) × List Int) (a1 : List (Int × Int)) (a2 : Int × Int) (K : Bool → Prop) : runF Try.prog f9_E f9_A 6 Try.f9 f9_e.doms f9_e.cods (a0, a1, a2) K =
    (br (!(f13 ()))
    (K false)
    (br (!(f21 a0))
    (K true)
    (br ((f35 a0) != 0)
    (K true)
    (br (lenOk (a1.length))
    (br (decide (((a1.length) : Int) > 8))
    (K true)
    (f49_pre (a0, a1) ∧
    br ((f49 (a0, a1)) != 0)
    (K true)
    (br (!(f17 (a2.1, (0, a2.2))))
    (K true)
    (br (decide (a2.2 > 100000))
    (K true)
    (f25_pre a0 ∧
    f39_pre a1 ∧
    f38_pre ((((f25 a0).1), ((f25 a0).2)), (f39 a1)) ∧
    br ((f38 ((((f25 a0).1), ((f25 a0).2)), (f39 a1))).2 != 0)
    (K false)
    (LoopP (V := Int × List Int × Unit) (fun again v => (fun (again1 : Int → List Int → Prop) (v1_0 : Int) (v1_1 : List Int) =>
    br (decide (v1_0 < 2))
    (f25_pre a0 ∧
    f39_pre a1 ∧
    br (decide (0 ≤ v1_0) && decide (v1_0 < 2))
    (f50_pre ((((f25 a0).1), ((f25 a0).2)), ((f39 a1), (([a2.1, a2.2] : List Int).getD v1_0.toNat 0))) ∧
    br ((f50 ((((f25 a0).1), ((f25 a0).2)), ((f39 a1), (([a2.1, a2.2] : List Int).getD v1_0.toNat 0)))).2 != 0)
    (K false)
    (br (decide (((((f50 ((((f25 a0).1), ((f25 a0).2)), ((f39 a1), (([a2.1, a2.2] : List Int).getD v1_0.toNat 0)))).1).length) : Int) > ((a1.length) : Int)))
    (br (lenOk (((f50 ((((f25 a0).1), ((f25 a0).2)), ((f39 a1), (([a2.1, a2.2] : List Int).getD v1_0.toNat 0)))).1).length))
    (br (lenOk (a1.length))
    (K false)
    True)
    True)
    (br (decide ((0 : Int) ≤ 0 ∧ 0 ≤ ((((f50 ((((f25 a0).1), ((f25 a0).2)), ((f39 a1), (([a2.1, a2.2] : List Int).getD v1_0.toNat 0)))).1).length) : Int) ∧ ((((f50 ((((f25 a0).1), ((f25 a0).2)), ((f39 a1), (([a2.1, a2.2] : List Int).getD v1_0.toNat 0)))).1).length) : Int) ≤ ((a1.length) : Int)))
    (br (!(f37 ((f50 ((((f25 a0).1), ((f25 a0).2)), ((f39 a1), (([a2.1, a2.2] : List Int).getD v1_0.toNat 0)))).1, ((a1.take (((((f50 ((((f25 a0).1), ((f25 a0).2)), ((f39 a1), (([a2.1, a2.2] : List Int).getD v1_0.toNat 0)))).1).length) : Int).toNat)).drop 0))))
    (br (lenOk (((f50 ((((f25 a0).1), ((f25 a0).2)), ((f39 a1), (([a2.1, a2.2] : List Int).getD v1_0.toNat 0)))).1).length))
    (br (lenOk (a1.length))
    (br (lenOk (((f50 ((((f25 a0).1), ((f25 a0).2)), ((f39 a1), (([a2.1, a2.2] : List Int).getD v1_0.toNat 0)))).1).length))
    (K false)
    True)
    True)
    True)
    (br (decide (((((f50 ((((f25 a0).1), ((f25 a0).2)), ((f39 a1), (([a2.1, a2.2] : List Int).getD v1_0.toNat 0)))).1).length) : Int) < ((a1.length) : Int)))
    (br (decide (0 ≤ ((((f50 ((((f25 a0).1), ((f25 a0).2)), ((f39 a1), (([a2.1, a2.2] : List Int).getD v1_0.toNat 0)))).1).length) : Int)) && decide (((((f50 ((((f25 a0).1), ((f25 a0).2)), ((f39 a1), (([a2.1, a2.2] : List Int).getD v1_0.toNat 0)))).1).length) : Int) < ((a1.length) : Int)))
    (br (decide (0 ≤ v1_0) && decide (v1_0 < 2))
    (br (lenOk (((f50 ((((f25 a0).1), ((f25 a0).2)), ((f39 a1), (([a2.1, a2.2] : List Int).getD v1_0.toNat 0)))).1).length))
    (br (lenOk (a1.length))
    (br (lenOk (((f50 ((((f25 a0).1), ((f25 a0).2)), ((f39 a1), (([a2.1, a2.2] : List Int).getD v1_0.toNat 0)))).1).length))
    (br (lenOk (((f50 ((((f25 a0).1), ((f25 a0).2)), ((f39 a1), (([a2.1, a2.2] : List Int).getD v1_0.toNat 0)))).1).length))
    (br (lenOk (a1.length))
    (br (lenOk (((f50 ((((f25 a0).1), ((f25 a0).2)), ((f39 a1), (([a2.1, a2.2] : List Int).getD v1_0.toNat 0)))).1).length))
    (br (decide ((a1.getD (((((f50 ((((f25 a0).1), ((f25 a0).2)), ((f39 a1), (([a2.1, a2.2] : List Int).getD v1_0.toNat 0)))).1).length) : Int).toNat) (0, 0)).2 ≤ (([a2.1, a2.2] : List Int).getD v1_0.toNat 0)))
    (K false)
    (f25_pre a0 ∧
    f39_pre ((f50 ((((f25 a0).1), ((f25 a0).2)), ((f39 a1), (([a2.1, a2.2] : List Int).getD v1_0.toNat 0)))).1) ∧
    f51_pre ((((f25 a0).1), ((f25 a0).2)), (f39 ((f50 ((((f25 a0).1), ((f25 a0).2)), ((f39 a1), (([a2.1, a2.2] : List Int).getD v1_0.toNat 0)))).1))) ∧
    br (((f51 ((((f25 a0).1), ((f25 a0).2)), (f39 ((f50 ((((f25 a0).1), ((f25 a0).2)), ((f39 a1), (([a2.1, a2.2] : List Int).getD v1_0.toNat 0)))).1)))).2).2 != 0)
    (K false)
    (br (lenOk (((f51 ((((f25 a0).1), ((f25 a0).2)), (f39 ((f50 ((((f25 a0).1), ((f25 a0).2)), ((f39 a1), (([a2.1, a2.2] : List Int).getD v1_0.toNat 0)))).1)))).1).length))
    (br (lenOk (a1.length))
    (br (((((f51 ((((f25 a0).1), ((f25 a0).2)), (f39 ((f50 ((((f25 a0).1), ((f25 a0).2)), ((f39 a1), (([a2.1, a2.2] : List Int).getD v1_0.toNat 0)))).1)))).1).length) : Int) != ((a1.length) : Int))
    (K false)
    (br (lenOk (((f50 ((((f25 a0).1), ((f25 a0).2)), ((f39 a1), (([a2.1, a2.2] : List Int).getD v1_0.toNat 0)))).1).length))
    (br (decide ((0 : Int) ≤ 0 ∧ 0 ≤ ((((f50 ((((f25 a0).1), ((f25 a0).2)), ((f39 a1), (([a2.1, a2.2] : List Int).getD v1_0.toNat 0)))).1).length) : Int) ∧ ((((f50 ((((f25 a0).1), ((f25 a0).2)), ((f39 a1), (([a2.1, a2.2] : List Int).getD v1_0.toNat 0)))).1).length) : Int) ≤ ((((f51 ((((f25 a0).1), ((f25 a0).2)), (f39 ((f50 ((((f25 a0).1), ((f25 a0).2)), ((f39 a1), (([a2.1, a2.2] : List Int).getD v1_0.toNat 0)))).1)))).1).length) : Int)))
    (br (!(f37 (((((f51 ((((f25 a0).1), ((f25 a0).2)), (f39 ((f50 ((((f25 a0).1), ((f25 a0).2)), ((f39 a1), (([a2.1, a2.2] : List Int).getD v1_0.toNat 0)))).1)))).1).take (((((f50 ((((f25 a0).1), ((f25 a0).2)), ((f39 a1), (([a2.1, a2.2] : List Int).getD v1_0.toNat 0)))).1).length) : Int).toNat)).drop 0), (f50 ((((f25 a0).1), ((f25 a0).2)), ((f39 a1), (([a2.1, a2.2] : List Int).getD v1_0.toNat 0)))).1)))
    (K false)
    (br (decide (((f51 ((((f25 a0).1), ((f25 a0).2)), (f39 ((f50 ((((f25 a0).1), ((f25 a0).2)), ((f39 a1), (([a2.1, a2.2] : List Int).getD v1_0.toNat 0)))).1)))).2).1 > (f38 ((((f25 a0).1), ((f25 a0).2)), (f39 a1))).1))
    (K false)
    (f25_pre a0 ∧
    f39_pre ((f51 ((((f25 a0).1), ((f25 a0).2)), (f39 ((f50 ((((f25 a0).1), ((f25 a0).2)), ((f39 a1), (([a2.1, a2.2] : List Int).getD v1_0.toNat 0)))).1)))).1) ∧
    f38_pre ((((f25 a0).1), ((f25 a0).2)), (f39 ((f51 ((((f25 a0).1), ((f25 a0).2)), (f39 ((f50 ((((f25 a0).1), ((f25 a0).2)), ((f39 a1), (([a2.1, a2.2] : List Int).getD v1_0.toNat 0)))).1)))).1))) ∧
    br ((f38 ((((f25 a0).1), ((f25 a0).2)), (f39 ((f51 ((((f25 a0).1), ((f25 a0).2)), (f39 ((f50 ((((f25 a0).1), ((f25 a0).2)), ((f39 a1), (([a2.1, a2.2] : List Int).getD v1_0.toNat 0)))).1)))).1)))).2 != 0)
    (K false)
    (br ((f38 ((((f25 a0).1), ((f25 a0).2)), (f39 ((f51 ((((f25 a0).1), ((f25 a0).2)), (f39 ((f50 ((((f25 a0).1), ((f25 a0).2)), ((f39 a1), (([a2.1, a2.2] : List Int).getD v1_0.toNat 0)))).1)))).1)))).1 != ((f51 ((((f25 a0).1), ((f25 a0).2)), (f39 ((f50 ((((f25 a0).1), ((f25 a0).2)), ((f39 a1), (([a2.1, a2.2] : List Int).getD v1_0.toNat 0)))).1)))).2).1)
    (K false)
    (br (decide (0 ≤ v1_0) && decide (v1_0 < 2))
    (again1 (IntKind.i64.wrap (v1_0 + 1)) (v1_1.set v1_0.toNat (((f51 ((((f25 a0).1), ((f25 a0).2)), (f39 ((f50 ((((f25 a0).1), ((f25 a0).2)), ((f39 a1), (([a2.1, a2.2] : List Int).getD v1_0.toNat 0)))).1)))).2).1)))
    False)))))
    False)
    True))
    True)
    True)))
    True)
    True)
    True)
    True)
    True)
    True)
    False)
    False)
    (br (lenOk (((f50 ((((f25 a0).1), ((f25 a0).2)), ((f39 a1), (([a2.1, a2.2] : List Int).getD v1_0.toNat 0)))).1).length))
    (br (lenOk (a1.length))
    (br (lenOk (((f50 ((((f25 a0).1), ((f25 a0).2)), ((f39 a1), (([a2.1, a2.2] : List Int).getD v1_0.toNat 0)))).1).length))
    (br (lenOk (((f50 ((((f25 a0).1), ((f25 a0).2)), ((f39 a1), (([a2.1, a2.2] : List Int).getD v1_0.toNat 0)))).1).length))
    (br (lenOk (a1.length))
    (f25_pre a0 ∧
    f39_pre ((f50 ((((f25 a0).1), ((f25 a0).2)), ((f39 a1), (([a2.1, a2.2] : List Int).getD v1_0.toNat 0)))).1) ∧
    f51_pre ((((f25 a0).1), ((f25 a0).2)), (f39 ((f50 ((((f25 a0).1), ((f25 a0).2)), ((f39 a1), (([a2.1, a2.2] : List Int).getD v1_0.toNat 0)))).1))) ∧
    br (((f51 ((((f25 a0).1), ((f25 a0).2)), (f39 ((f50 ((((f25 a0).1), ((f25 a0).2)), ((f39 a1), (([a2.1, a2.2] : List Int).getD v1_0.toNat 0)))).1)))).2).2 != 0)
    (K false)
    (br (lenOk (((f51 ((((f25 a0).1), ((f25 a0).2)), (f39 ((f50 ((((f25 a0).1), ((f25 a0).2)), ((f39 a1), (([a2.1, a2.2] : List Int).getD v1_0.toNat 0)))).1)))).1).length))
    (br (lenOk (a1.length))
    (br (((((f51 ((((f25 a0).1), ((f25 a0).2)), (f39 ((f50 ((((f25 a0).1), ((f25 a0).2)), ((f39 a1), (([a2.1, a2.2] : List Int).getD v1_0.toNat 0)))).1)))).1).length) : Int) != ((a1.length) : Int))
    (K false)
    (br (lenOk (((f50 ((((f25 a0).1), ((f25 a0).2)), ((f39 a1), (([a2.1, a2.2] : List Int).getD v1_0.toNat 0)))).1).length))
    (br (decide ((0 : Int) ≤ 0 ∧ 0 ≤ ((((f50 ((((f25 a0).1), ((f25 a0).2)), ((f39 a1), (([a2.1, a2.2] : List Int).getD v1_0.toNat 0)))).1).length) : Int) ∧ ((((f50 ((((f25 a0).1), ((f25 a0).2)), ((f39 a1), (([a2.1, a2.2] : List Int).getD v1_0.toNat 0)))).1).length) : Int) ≤ ((((f51 ((((f25 a0).1), ((f25 a0).2)), (f39 ((f50 ((((f25 a0).1), ((f25 a0).2)), ((f39 a1), (([a2.1, a2.2] : List Int).getD v1_0.toNat 0)))).1)))).1).length) : Int)))
    (br (!(f37 (((((f51 ((((f25 a0).1), ((f25 a0).2)), (f39 ((f50 ((((f25 a0).1), ((f25 a0).2)), ((f39 a1), (([a2.1, a2.2] : List Int).getD v1_0.toNat 0)))).1)))).1).take (((((f50 ((((f25 a0).1), ((f25 a0).2)), ((f39 a1), (([a2.1, a2.2] : List Int).getD v1_0.toNat 0)))).1).length) : Int).toNat)).drop 0), (f50 ((((f25 a0).1), ((f25 a0).2)), ((f39 a1), (([a2.1, a2.2] : List Int).getD v1_0.toNat 0)))).1)))
    (K false)
    (br (decide (((f51 ((((f25 a0).1), ((f25 a0).2)), (f39 ((f50 ((((f25 a0).1), ((f25 a0).2)), ((f39 a1), (([a2.1, a2.2] : List Int).getD v1_0.toNat 0)))).1)))).2).1 > (f38 ((((f25 a0).1), ((f25 a0).2)), (f39 a1))).1))
    (K false)
    (f25_pre a0 ∧
    f39_pre ((f51 ((((f25 a0).1), ((f25 a0).2)), (f39 ((f50 ((((f25 a0).1), ((f25 a0).2)), ((f39 a1), (([a2.1, a2.2] : List Int).getD v1_0.toNat 0)))).1)))).1) ∧
    f38_pre ((((f25 a0).1), ((f25 a0).2)), (f39 ((f51 ((((f25 a0).1), ((f25 a0).2)), (f39 ((f50 ((((f25 a0).1), ((f25 a0).2)), ((f39 a1), (([a2.1, a2.2] : List Int).getD v1_0.toNat 0)))).1)))).1))) ∧
    br ((f38 ((((f25 a0).1), ((f25 a0).2)), (f39 ((f51 ((((f25 a0).1), ((f25 a0).2)), (f39 ((f50 ((((f25 a0).1), ((f25 a0).2)), ((f39 a1), (([a2.1, a2.2] : List Int).getD v1_0.toNat 0)))).1)))).1)))).2 != 0)
    (K false)
    (br ((f38 ((((f25 a0).1), ((f25 a0).2)), (f39 ((f51 ((((f25 a0).1), ((f25 a0).2)), (f39 ((f50 ((((f25 a0).1), ((f25 a0).2)), ((f39 a1), (([a2.1, a2.2] : List Int).getD v1_0.toNat 0)))).1)))).1)))).1 != ((f51 ((((f25 a0).1), ((f25 a0).2)), (f39 ((f50 ((((f25 a0).1), ((f25 a0).2)), ((f39 a1), (([a2.1, a2.2] : List Int).getD v1_0.toNat 0)))).1)))).2).1)
    (K false)
    (br (decide (0 ≤ v1_0) && decide (v1_0 < 2))
    (again1 (IntKind.i64.wrap (v1_0 + 1)) (v1_1.set v1_0.toNat (((f51 ((((f25 a0).1), ((f25 a0).2)), (f39 ((f50 ((((f25 a0).1), ((f25 a0).2)), ((f39 a1), (([a2.1, a2.2] : List Int).getD v1_0.toNat 0)))).1)))).2).1)))
    False)))))
    False)
    True))
    True)
    True))
    True)
    True)
    True)
    True)
    True)))
    False)))
    False)
    (f25_pre a0 ∧
    f39_pre a1 ∧
    f51_pre ((((f25 a0).1), ((f25 a0).2)), (f39 a1)) ∧
    br (decide ((v1_1.getD 0 0) ≤ (v1_1.getD 1 0)))
    (br (((f51 ((((f25 a0).1), ((f25 a0).2)), (f39 a1))).2).2 == 0)
    (br (f37 ((f51 ((((f25 a0).1), ((f25 a0).2)), (f39 a1))).1, a1))
    (K (((f51 ((((f25 a0).1), ((f25 a0).2)), (f39 a1))).2).1 == (f38 ((((f25 a0).1), ((f25 a0).2)), (f39 a1))).1))
    (K false))
    (K false))
    (K false)))
    (fun v1_0 v1_1 => again (v1_0, v1_1, ())) v.1 v.2.1) (0, ([0, 0] : List Int), ())))))))
    True)))) := by kernel_rfl
theorem f9_t (a0 : (List (List Int) × List (List Int)) × List (ByteArray × Int × Int × Int × Int) × List Int) (a1 : List (Int × Int)) (a2 : Int × Int) (K : Bool → Prop) (hK : ∀ y : Bool, y = f9 (a0, a1, a2) → K y) : RunF Try.prog f9_E f9_A 6 Try.f9 f9_e.doms f9_e.cods (a0, a1, a2) K := by
  refine ⟨?_⟩
  rw [f9_run a0 a1 a2 K]
  have hT : K true := hK _ rfl
  rw [show (!(f13 ())) = false from rfl, br_f, br_both]
  refine ⟨fun _ => hT, fun hs => ?_⟩
  obtain ⟨m1, m2, m3⟩ := small_pre (not_false_.1 hs)
  have e35 : f35 a0 = (probOf a0).2 := rfl
  rw [e35, br_both]
  refine ⟨fun _ => hT, fun hp => ?_⟩
  have hok : okP a0 := by
    have : (probOf a0).2 = 0 := by simpa using hp
    exact this
  have hv := hok.v
  have h6 := hv.six
  rw [br_true_]
  intro _
  rw [br_dec]
  refine ⟨fun _ => hT, fun h8 => ?_⟩
  have e49 : f49 (a0, a1) = if slotsErr a0 a1 ≠ 0 then slotsErr a0 a1 else if a1.length ≠ a0.2.1.length then 10 else 0 := rfl
  refine ⟨hok, ?_⟩
  rw [e49, br_both]
  refine ⟨fun _ => hT, fun h49 => ?_⟩
  have h49 : (if slotsErr a0 a1 ≠ 0 then slotsErr a0 a1 else if a1.length ≠ a0.2.1.length then 10 else 0) = 0 := by simpa using h49
  have hsl : slotsErr a0 a1 = 0 := by
    by_cases h : slotsErr a0 a1 = 0
    · exact h
    · rw [if_pos h] at h49
      exact h49
  rw [if_neg (fun hh => hh hsl)] at h49
  have hlen : a1.length = a0.2.1.length := by
    by_cases h : a1.length = a0.2.1.length
    · exact h
    · rw [if_pos h] at h49
      simp at h49
  have hW : Whole a0 a1 := ⟨hok, hsl, hlen⟩
  have hpl : planE a0 a1 = 0 := (if_pos hok).trans hsl
  rw [br_both]
  refine ⟨fun _ => hT, fun hd => ?_⟩
  have hd := f17_t1.1 (not_false_.1 hd)
  rw [br_dec]
  refine ⟨fun _ => hT, fun hd2 => ?_⟩
  have e39 : ∀ l, f39 l = l := fun _ => rfl
  have p39 : ∀ l : List (Int × Int), l.length ≤ 8 → f39_pre l := fun l hl => by show l.length ≤ 1000; omega
  have e38 : ∀ l, Whole a0 l → f38 (((f25 a0).1, (f25 a0).2), l) = (costF a0 l, 0) := fun l hl => by
    show (if planE a0 l ≠ 0 then (0, planE a0 l) else if l.length ≠ a0.2.1.length then (0, 10) else (costF a0 l, 0)) = _
    rw [if_neg (fun hh => hh ((if_pos hok).trans hl.slots)), if_neg (fun hh => hh hl.len)]
  have h18 : a1.length ≤ 8 := by omega
  refine ⟨m1, p39 a1 h18, ⟨m3, show a1.length ≤ 1000 by omega⟩, ?_⟩
  simp only [e39, e38 a1 hW, bne_self_eq_false, br_f]
  have e51 : ∀ n, f51 (((f25 a0).1, (f25 a0).2), a1.take n) = ((bestF a0 (a1.take n)).1, (bestF a0 (a1.take n)).2.1, 0) := fun n => by
    show replF a0 (a1.take n) = _
    rw [replF, if_neg (fun hh => hh ((if_pos hok).trans (slots_take hsl n))), if_pos (hW.best n).1]
  have e50 : ∀ t, 0 ≤ t → t ≤ 100000 → f50 (((f25 a0).1, (f25 a0).2), a1, t) = (a1.take (fixN a1 t a1.length), 0) := fun t h1 h2 => by
    show (if fixErr a0 a1 t ≠ 0 then ([], fixErr a0 a1 t) else (fixF a1 t, 0)) = _
    have : fixErr a0 a1 t = 0 := by rw [fixErr, if_neg (fun hh => hh hpl), if_pos ⟨h1, h2⟩]
    rw [if_neg (fun hh => hh this)]
    rfl
  have e37 : ∀ a b, f37 (a, b) = decide (a = b) := fun _ _ => rfl
  refine LoopP.of (fun q : Int × List Int × Unit => ∃ i : Nat, i ≤ 2 ∧ q.1 = (i : Int) ∧ q.2.1 = setTo (fun i => (bestF a0 (a1.take (fixN a1 ([a2.1, a2.2].getD i 0) a1.length))).2.1) i) (fun q => (2 - q.1).toNat) (fun again q hq hag => ?_) ⟨0, by omega, rfl, rfl⟩
  obtain ⟨ii, l, u⟩ := q
  obtain ⟨i, hi, e1, e2⟩ := hq
  simp only at e1 e2
  subst e1
  dsimp only
  rw [br_dec]
  refine ⟨fun hlt => ?_, fun hlt => ?_⟩
  · have hlt : i < 2 := by omega
    have hnext : again ((i : Int) + 1, l.set i (bestF a0 (a1.take (fixN a1 ([a2.1, a2.2].getD i 0) a1.length))).2.1, ()) := hag _ ⟨i + 1, by omega, by simp only; omega, by simp only; rw [e2]; rfl⟩ (by simp only; omega)
    have ht : 0 ≤ [a2.1, a2.2].getD i 0 ∧ [a2.1, a2.2].getD i 0 ≤ 100000 := by
      have : i = 0 ∨ i = 1 := by omega
      rcases this with rfl | rfl
      · exact ⟨hd.1, show a2.1 ≤ 100000 by omega⟩
      · exact ⟨show 0 ≤ a2.2 by omega, show a2.2 ≤ 100000 by omega⟩
    rw [Int.toNat_natCast]
    generalize [a2.1, a2.2].getD i 0 = t at *
    have hi2 : (decide (0 ≤ (i : Int)) && decide ((i : Int) < 2)) = true := by simp; omega
    have hn := fixN_le a1 t a1.length
    have hgt := fixN_gt a1 t a1.length
    rw [e50 t ht.1 ht.2]
    generalize hN : fixN a1 t a1.length = n at *
    have htl : (a1.take n).length = n := by rw [List.length_take]; omega
    obtain ⟨w1, w2, w3⟩ := hW.bestW n
    have w4 := (hW.best n).2
    rw [htl] at w2
    have hwl : (bestF a0 (a1.take n)).1.length = a1.length := by rw [w1.len, hlen]
    have e38' : f38 (((f25 a0).1, (f25 a0).2), (bestF a0 (a1.take n)).1) = ((bestF a0 (a1.take n)).2.1, 0) := by rw [e38 _ w1, w3]
    rw [hi2]
    refine ⟨m1, p39 a1 h18, ?_⟩
    simp only [br_t, e51, e38', htl, hwl, bne_self_eq_false, br_f, e37, Int.toNat_natCast, List.drop_zero, w2, decide_true, Bool.not_true]
    refine ⟨⟨m3, by simp only; omega⟩, ?_⟩
    rw [br_dec]
    refine ⟨fun h => by omega, fun _ => ?_⟩
    rw [br_false_]
    refine ⟨decide_eq_true (by omega), ?_⟩
    have tail : f25_pre a0 ∧ f39_pre (a1.take n) ∧ f51_pre (((f25 a0).1, (f25 a0).2), a1.take n) ∧ br (lenOk a1.length) (br (lenOk a1.length) (br (lenOk n) (br (decide ((0 : Int) ≤ 0 ∧ 0 ≤ (n : Int) ∧ (n : Int) ≤ (a1.length : Int)))
        (br (decide ((bestF a0 (a1.take n)).2.1 > costF a0 a1)) (K false) (f25_pre a0 ∧ f39_pre (bestF a0 (a1.take n)).1 ∧ f38_pre (((f25 a0).1, (f25 a0).2), (bestF a0 (a1.take n)).1) ∧ again (IntKind.i64.wrap ((i : Int) + 1), l.set i (bestF a0 (a1.take n)).2.1, ()))) False) True) True) True := by
      refine ⟨m1, p39 _ (by omega), ⟨m3, by simp only; omega⟩, ?_⟩
      rw [br_true_, br_true_, br_true_]
      intro _ _ _
      rw [br_false_]
      refine ⟨decide_eq_true (by omega), ?_⟩
      rw [br_dec]
      refine ⟨fun h => by omega, fun _ => ⟨m1, p39 _ (by omega), ⟨m3, by simp only; omega⟩, ?_⟩⟩
      rw [wr (n := (i : Int) + 1) (by omega) (by omega)]
      exact hnext
    rw [br_dec]
    refine ⟨fun hlt2 => ?_, fun _ => ?_⟩
    · rw [br_false_]
      refine ⟨inb (by omega) (by omega), ?_⟩
      rw [br_true_, br_true_, br_true_, br_true_, br_true_, br_true_]
      intro _ _ _ _ _ _
      rw [br_dec]
      exact ⟨fun h => absurd h (hgt n (Nat.le_refl _) (by omega)), fun _ => tail⟩
    · rw [br_true_, br_true_, br_true_, br_true_, br_true_]
      intro _ _ _ _ _
      exact tail
  · have : i = 2 := by omega
    subst this
    have e51' : f51 (((f25 a0).1, (f25 a0).2), a1) = (a1, costF a0 a1, 0) := by
      show replF a0 a1 = _
      rw [replF, if_neg (fun hh => hh hpl), hW.self]
      rfl
    refine ⟨m1, p39 a1 h18, ⟨m3, by simp only; omega⟩, ?_⟩
    rw [e51', e2]
    have hle := hW.later (fixN_mono a1 hd.2 a1.length) (fixN_le a1 a2.2 a1.length)
    rw [br_dec]
    refine ⟨fun _ => ?_, fun h => absurd ?_ h⟩
    · simp only [beq_self_eq_true, br_t, e37, decide_true]
      exact hT
    · exact hle
theorem f9_fn : f9_e.fn = f9 := rfl
theorem f9_ok : EntryOK Try.prog 9 f9_e := by
  refine entryF progOK (EnvOK.cons f13_ok (EnvOK.cons f17_ok (EnvOK.cons f21_ok (EnvOK.cons f25_ok (EnvOK.cons f35_ok (EnvOK.cons f37_ok (EnvOK.cons f38_ok (EnvOK.cons f39_ok (EnvOK.cons f49_ok (EnvOK.cons f50_ok (EnvOK.cons f51_ok (EnvOK.nil)))))))))))) (A := f9_A) (d := 6) Try.func9 rfl rfl rfl (fun _ _ => trivial) fun x hpre => ?_
  obtain ⟨a0, a1, a2⟩ := x
  exact f9_t a0 a1 a2 _ fun _ h => h.trans (congrFun f9_fn.symm _)
end Go.Proofs.Ytglokajinehbmaa
