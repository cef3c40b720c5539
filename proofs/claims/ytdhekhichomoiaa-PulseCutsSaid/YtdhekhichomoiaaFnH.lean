/- What functions of the program compute, each proved once, part 8. -/
import Derived.Test.YtdhekhichomoiaaPiC
import Derived.Test.YtdhekhichomoiaaFnA
import Derived.Test.YtdhekhichomoiaaFnC
import Derived.Test.YtdhekhichomoiaaFnD
import Derived.Test.YtdhekhichomoiaaFnF
import Derived.Test.YtdhekhichomoiaaFnE
import Derived.Test.YtdhekhichomoiaaFnB
import Derived.Test.YtdhekhichomoiaaFnG

namespace Go.Proofs.Ytdhekhichomoiaa
open Go Go.Pi Go.RowKit
set_option maxRecDepth 100000
set_option linter.unusedVariables false
set_option linter.unusedSimpArgs false

def f13 (x : List (Int × Int) × Int × Int × Int) : Bool := true
/-- Where the pieces end. -/
def posOf (A B n : Nat) : Nat → Nat
  | 0 => 0
  | 1 => A
  | 2 => B
  | _ => n
def partS (P F : Nat → Int) : Nat → Int
  | 0 => 0
  | r + 1 => partS P F r + P r - 4 * F r
theorem partS_bd {P F : Nat → Int} (h : ∀ r, (0 ≤ P r ∧ P r ≤ 10000000000) ∧ 0 ≤ F r ∧ F r ≤ 10000000000) : ∀ r : Nat, -(r * 100000000000) ≤ partS P F r ∧ partS P F r ≤ r * 100000000000
  | 0 => by simp [partS]
  | r + 1 => by
    have h1 := partS_bd h r
    have h2 := h r
    simp only [partS]
    omega
theorem range4 {α : Type} (f : Nat → α) : (List.range 4).map f = [f 0, f 1, f 2, f 3] := rfl
def f13_e : Entry := { doms := [(false, (.sl (.pair (.int .i64) (.int .i64)))), (false, (.int .i64)), (true, (.pair (.int .i64) (.int .i64)))], cods := [(false, .bool)], pre := fun _ => True, fn := f13, uq := false, total := true }
def f13_E : Env := [(16, f16_e), (18, f18_e), (26, f26_e), (27, f27_e), (28, f28_e), (29, f29_e), (63, f63_e), (71, f71_e), (72, f72_e), (73, f73_e), (78, f78_e), (79, f79_e), (80, f80_e), (81, f81_e), (33, f33_e)]
def f13_A : Anns := { loops := [(1048576, { tms := [(0, .keep), (1, .keep), (7, .keep), (8, .keep), (9, .keep), (10, .data false (.int .i64))], obs := [(1048576, .keep), (1055745, .keep), (1055747, .cells [.data (.sl (.pair (.int .i64) (.int .i64))), .data (.sl (.pair (.int .i64) (.int .i64))), .data (.int .i64)])], fz := [1055745] }),
  (1048578, { tms := [(0, .keep), (1, .keep), (9, .keep), (14, .data false (.int .i64))], obs := [(1048576, .keep), (1055745, .keep), (1055747, .keep)], fz := [] }),
  (1048580, { tms := [(0, .keep), (17, .keep), (21, .keep), (22, .data false (.int .i64))], obs := [(1074182, .keep), (1078272, .arr (.fixed 4) (.pair (.int .i64) (.int .i64)))], fz := [] }),
  (1048582, { tms := [(17, .keep), (21, .keep), (23, .data false (.int .i64)), (24, .data false (.int .i64))], obs := [(1074182, .keep), (1078272, .keep)], fz := [] }),
  (1572981, { tms := [(0, .keep), (17, .keep)], obs := [(1074182, .keep)], fz := [] }),
  (1572997, { tms := [(17, .keep), (21, .keep)], obs := [(1074182, .keep), (1078272, .arr (.fixed 4) (.pair (.int .i64) (.int .i64)))], fz := [] })], own := [] }
theorem f13_run (a0 : List (Int × Int)) (a1 : Int) (a2 : Int × Int) (K : Bool → Prop) : runF Try.prog f13_E f13_A 6 Try.f13 f13_e.doms f13_e.cods (a0, a1, a2) K =
    (br (!(f16 ()))
    (K false)
    (br (lenOk (a0.length))
    (br (decide (((a0.length) : Int) > 30))
    (K true)
    (br ((f28 a0) != 0)
    (K true)
    (br (!(f18 (a1, (1, 12))))
    (K true)
    (br (lenOk (a0.length))
    (f78_pre (a2.1, (IntKind.i64.wrap (((a0.length) : Int) + 1))) ∧
    br (lenOk (a0.length))
    (f78_pre (a2.2, (IntKind.i64.wrap ((IntKind.i64.wrap (((a0.length) : Int) - (f78 (a2.1, (IntKind.i64.wrap (((a0.length) : Int) + 1)))))) + 1))) ∧
    br (decide (0 ≤ a1) && decide (a1 = a1) && roomOk a1.toNat 16)
    (LoopP (V := Int × List (Int × Int) × List (Int × Int) × Int × Unit) (fun again v => (fun (again1 : Int → List (Int × Int) → List (Int × Int) → Int → Prop) (v1_0 : Int) (v1_1 : List (Int × Int)) (v1_2 : List (Int × Int)) (v1_3 : Int) =>
    br (decide (v1_0 < 3))
    (br (decide ((0 : Int) ≤ 0 ∧ 0 ≤ (f78 (a2.1, (IntKind.i64.wrap (((a0.length) : Int) + 1)))) ∧ (f78 (a2.1, (IntKind.i64.wrap (((a0.length) : Int) + 1)))) ≤ ((a0.length) : Int)))
    (br (decide ((0 : Int) ≤ (f78 (a2.1, (IntKind.i64.wrap (((a0.length) : Int) + 1)))) ∧ (f78 (a2.1, (IntKind.i64.wrap (((a0.length) : Int) + 1)))) ≤ (IntKind.i64.wrap ((f78 (a2.1, (IntKind.i64.wrap (((a0.length) : Int) + 1)))) + (f78 (a2.2, (IntKind.i64.wrap ((IntKind.i64.wrap (((a0.length) : Int) - (f78 (a2.1, (IntKind.i64.wrap (((a0.length) : Int) + 1)))))) + 1)))))) ∧ (IntKind.i64.wrap ((f78 (a2.1, (IntKind.i64.wrap (((a0.length) : Int) + 1)))) + (f78 (a2.2, (IntKind.i64.wrap ((IntKind.i64.wrap (((a0.length) : Int) - (f78 (a2.1, (IntKind.i64.wrap (((a0.length) : Int) + 1)))))) + 1)))))) ≤ ((a0.length) : Int)))
    (br (decide ((0 : Int) ≤ (IntKind.i64.wrap ((f78 (a2.1, (IntKind.i64.wrap (((a0.length) : Int) + 1)))) + (f78 (a2.2, (IntKind.i64.wrap ((IntKind.i64.wrap (((a0.length) : Int) - (f78 (a2.1, (IntKind.i64.wrap (((a0.length) : Int) + 1)))))) + 1)))))) ∧ (IntKind.i64.wrap ((f78 (a2.1, (IntKind.i64.wrap (((a0.length) : Int) + 1)))) + (f78 (a2.2, (IntKind.i64.wrap ((IntKind.i64.wrap (((a0.length) : Int) - (f78 (a2.1, (IntKind.i64.wrap (((a0.length) : Int) + 1)))))) + 1)))))) ≤ ((a0.length) : Int) ∧ ((a0.length) : Int) ≤ ((a0.length) : Int)))
    (br (decide (0 ≤ v1_0) && decide (v1_0 < 3))
    (br (lenOk ((([((a0.take ((f78 (a2.1, (IntKind.i64.wrap (((a0.length) : Int) + 1)))).toNat)).drop 0), ((a0.take ((IntKind.i64.wrap ((f78 (a2.1, (IntKind.i64.wrap (((a0.length) : Int) + 1)))) + (f78 (a2.2, (IntKind.i64.wrap ((IntKind.i64.wrap (((a0.length) : Int) - (f78 (a2.1, (IntKind.i64.wrap (((a0.length) : Int) + 1)))))) + 1)))))).toNat)).drop ((f78 (a2.1, (IntKind.i64.wrap (((a0.length) : Int) + 1)))).toNat)), ((a0.take (((a0.length) : Int).toNat)).drop ((IntKind.i64.wrap ((f78 (a2.1, (IntKind.i64.wrap (((a0.length) : Int) + 1)))) + (f78 (a2.2, (IntKind.i64.wrap ((IntKind.i64.wrap (((a0.length) : Int) - (f78 (a2.1, (IntKind.i64.wrap (((a0.length) : Int) + 1)))))) + 1)))))).toNat))] : List (List (Int × Int))).getD v1_0.toNat []).length))
    (br ((((([((a0.take ((f78 (a2.1, (IntKind.i64.wrap (((a0.length) : Int) + 1)))).toNat)).drop 0), ((a0.take ((IntKind.i64.wrap ((f78 (a2.1, (IntKind.i64.wrap (((a0.length) : Int) + 1)))) + (f78 (a2.2, (IntKind.i64.wrap ((IntKind.i64.wrap (((a0.length) : Int) - (f78 (a2.1, (IntKind.i64.wrap (((a0.length) : Int) + 1)))))) + 1)))))).toNat)).drop ((f78 (a2.1, (IntKind.i64.wrap (((a0.length) : Int) + 1)))).toNat)), ((a0.take (((a0.length) : Int).toNat)).drop ((IntKind.i64.wrap ((f78 (a2.1, (IntKind.i64.wrap (((a0.length) : Int) + 1)))) + (f78 (a2.2, (IntKind.i64.wrap ((IntKind.i64.wrap (((a0.length) : Int) - (f78 (a2.1, (IntKind.i64.wrap (((a0.length) : Int) + 1)))))) + 1)))))).toNat))] : List (List (Int × Int))).getD v1_0.toNat []).length) : Int) == 0)
    (again1 (IntKind.i64.wrap (v1_0 + 1)) v1_1 v1_2 v1_3)
    (f71_pre (v1_1, (v1_2, v1_3)) ∧
    f26_pre (([((a0.take ((f78 (a2.1, (IntKind.i64.wrap (((a0.length) : Int) + 1)))).toNat)).drop 0), ((a0.take ((IntKind.i64.wrap ((f78 (a2.1, (IntKind.i64.wrap (((a0.length) : Int) + 1)))) + (f78 (a2.2, (IntKind.i64.wrap ((IntKind.i64.wrap (((a0.length) : Int) - (f78 (a2.1, (IntKind.i64.wrap (((a0.length) : Int) + 1)))))) + 1)))))).toNat)).drop ((f78 (a2.1, (IntKind.i64.wrap (((a0.length) : Int) + 1)))).toNat)), ((a0.take (((a0.length) : Int).toNat)).drop ((IntKind.i64.wrap ((f78 (a2.1, (IntKind.i64.wrap (((a0.length) : Int) + 1)))) + (f78 (a2.2, (IntKind.i64.wrap ((IntKind.i64.wrap (((a0.length) : Int) - (f78 (a2.1, (IntKind.i64.wrap (((a0.length) : Int) + 1)))))) + 1)))))).toNat))] : List (List (Int × Int))).getD v1_0.toNat []) ∧
    br ((f72 (((f71 (v1_1, (v1_2, v1_3))).1, ((f71 (v1_1, (v1_2, v1_3))).2)), (f26 (([((a0.take ((f78 (a2.1, (IntKind.i64.wrap (((a0.length) : Int) + 1)))).toNat)).drop 0), ((a0.take ((IntKind.i64.wrap ((f78 (a2.1, (IntKind.i64.wrap (((a0.length) : Int) + 1)))) + (f78 (a2.2, (IntKind.i64.wrap ((IntKind.i64.wrap (((a0.length) : Int) - (f78 (a2.1, (IntKind.i64.wrap (((a0.length) : Int) + 1)))))) + 1)))))).toNat)).drop ((f78 (a2.1, (IntKind.i64.wrap (((a0.length) : Int) + 1)))).toNat)), ((a0.take (((a0.length) : Int).toNat)).drop ((IntKind.i64.wrap ((f78 (a2.1, (IntKind.i64.wrap (((a0.length) : Int) + 1)))) + (f78 (a2.2, (IntKind.i64.wrap ((IntKind.i64.wrap (((a0.length) : Int) - (f78 (a2.1, (IntKind.i64.wrap (((a0.length) : Int) + 1)))))) + 1)))))).toNat))] : List (List (Int × Int))).getD v1_0.toNat [])))).2 != 0)
    (K false)
    (br ((f79 (((f72 (((f71 (v1_1, (v1_2, v1_3))).1, ((f71 (v1_1, (v1_2, v1_3))).2)), (f26 (([((a0.take ((f78 (a2.1, (IntKind.i64.wrap (((a0.length) : Int) + 1)))).toNat)).drop 0), ((a0.take ((IntKind.i64.wrap ((f78 (a2.1, (IntKind.i64.wrap (((a0.length) : Int) + 1)))) + (f78 (a2.2, (IntKind.i64.wrap ((IntKind.i64.wrap (((a0.length) : Int) - (f78 (a2.1, (IntKind.i64.wrap (((a0.length) : Int) + 1)))))) + 1)))))).toNat)).drop ((f78 (a2.1, (IntKind.i64.wrap (((a0.length) : Int) + 1)))).toNat)), ((a0.take (((a0.length) : Int).toNat)).drop ((IntKind.i64.wrap ((f78 (a2.1, (IntKind.i64.wrap (((a0.length) : Int) + 1)))) + (f78 (a2.2, (IntKind.i64.wrap ((IntKind.i64.wrap (((a0.length) : Int) - (f78 (a2.1, (IntKind.i64.wrap (((a0.length) : Int) + 1)))))) + 1)))))).toNat))] : List (List (Int × Int))).getD v1_0.toNat [])))).1).1, (((f72 (((f71 (v1_1, (v1_2, v1_3))).1, ((f71 (v1_1, (v1_2, v1_3))).2)), (f26 (([((a0.take ((f78 (a2.1, (IntKind.i64.wrap (((a0.length) : Int) + 1)))).toNat)).drop 0), ((a0.take ((IntKind.i64.wrap ((f78 (a2.1, (IntKind.i64.wrap (((a0.length) : Int) + 1)))) + (f78 (a2.2, (IntKind.i64.wrap ((IntKind.i64.wrap (((a0.length) : Int) - (f78 (a2.1, (IntKind.i64.wrap (((a0.length) : Int) + 1)))))) + 1)))))).toNat)).drop ((f78 (a2.1, (IntKind.i64.wrap (((a0.length) : Int) + 1)))).toNat)), ((a0.take (((a0.length) : Int).toNat)).drop ((IntKind.i64.wrap ((f78 (a2.1, (IntKind.i64.wrap (((a0.length) : Int) + 1)))) + (f78 (a2.2, (IntKind.i64.wrap ((IntKind.i64.wrap (((a0.length) : Int) - (f78 (a2.1, (IntKind.i64.wrap (((a0.length) : Int) + 1)))))) + 1)))))).toNat))] : List (List (Int × Int))).getD v1_0.toNat [])))).1).2))) != 0)
    (K false)
    (again1 (IntKind.i64.wrap (v1_0 + 1)) (((f72 (((f71 (v1_1, (v1_2, v1_3))).1, ((f71 (v1_1, (v1_2, v1_3))).2)), (f26 (([((a0.take ((f78 (a2.1, (IntKind.i64.wrap (((a0.length) : Int) + 1)))).toNat)).drop 0), ((a0.take ((IntKind.i64.wrap ((f78 (a2.1, (IntKind.i64.wrap (((a0.length) : Int) + 1)))) + (f78 (a2.2, (IntKind.i64.wrap ((IntKind.i64.wrap (((a0.length) : Int) - (f78 (a2.1, (IntKind.i64.wrap (((a0.length) : Int) + 1)))))) + 1)))))).toNat)).drop ((f78 (a2.1, (IntKind.i64.wrap (((a0.length) : Int) + 1)))).toNat)), ((a0.take (((a0.length) : Int).toNat)).drop ((IntKind.i64.wrap ((f78 (a2.1, (IntKind.i64.wrap (((a0.length) : Int) + 1)))) + (f78 (a2.2, (IntKind.i64.wrap ((IntKind.i64.wrap (((a0.length) : Int) - (f78 (a2.1, (IntKind.i64.wrap (((a0.length) : Int) + 1)))))) + 1)))))).toNat))] : List (List (Int × Int))).getD v1_0.toNat [])))).1).1) ((((f72 (((f71 (v1_1, (v1_2, v1_3))).1, ((f71 (v1_1, (v1_2, v1_3))).2)), (f26 (([((a0.take ((f78 (a2.1, (IntKind.i64.wrap (((a0.length) : Int) + 1)))).toNat)).drop 0), ((a0.take ((IntKind.i64.wrap ((f78 (a2.1, (IntKind.i64.wrap (((a0.length) : Int) + 1)))) + (f78 (a2.2, (IntKind.i64.wrap ((IntKind.i64.wrap (((a0.length) : Int) - (f78 (a2.1, (IntKind.i64.wrap (((a0.length) : Int) + 1)))))) + 1)))))).toNat)).drop ((f78 (a2.1, (IntKind.i64.wrap (((a0.length) : Int) + 1)))).toNat)), ((a0.take (((a0.length) : Int).toNat)).drop ((IntKind.i64.wrap ((f78 (a2.1, (IntKind.i64.wrap (((a0.length) : Int) + 1)))) + (f78 (a2.2, (IntKind.i64.wrap ((IntKind.i64.wrap (((a0.length) : Int) - (f78 (a2.1, (IntKind.i64.wrap (((a0.length) : Int) + 1)))))) + 1)))))).toNat))] : List (List (Int × Int))).getD v1_0.toNat [])))).1).2).1) ((((f72 (((f71 (v1_1, (v1_2, v1_3))).1, ((f71 (v1_1, (v1_2, v1_3))).2)), (f26 (([((a0.take ((f78 (a2.1, (IntKind.i64.wrap (((a0.length) : Int) + 1)))).toNat)).drop 0), ((a0.take ((IntKind.i64.wrap ((f78 (a2.1, (IntKind.i64.wrap (((a0.length) : Int) + 1)))) + (f78 (a2.2, (IntKind.i64.wrap ((IntKind.i64.wrap (((a0.length) : Int) - (f78 (a2.1, (IntKind.i64.wrap (((a0.length) : Int) + 1)))))) + 1)))))).toNat)).drop ((f78 (a2.1, (IntKind.i64.wrap (((a0.length) : Int) + 1)))).toNat)), ((a0.take (((a0.length) : Int).toNat)).drop ((IntKind.i64.wrap ((f78 (a2.1, (IntKind.i64.wrap (((a0.length) : Int) + 1)))) + (f78 (a2.2, (IntKind.i64.wrap ((IntKind.i64.wrap (((a0.length) : Int) - (f78 (a2.1, (IntKind.i64.wrap (((a0.length) : Int) + 1)))))) + 1)))))).toNat))] : List (List (Int × Int))).getD v1_0.toNat [])))).1).2).2)))))
    True)
    False)
    False)
    False)
    False)
    (br (v1_3 != ((a0.length) : Int))
    (br (lenOk (a0.length))
    (K false)
    True)
    (br (((v1_1.length) : Int) != a1)
    (br (lenOk (a0.length))
    (br (lenOk (v1_1.length))
    (K false)
    True)
    True)
    (br (decide ((0 : Int) ≤ (IntKind.i64.wrap (((a0.length) : Int) - (minmax false ((a0.length) : Int) (IntKind.i64.wrap (a1 - 1))))) ∧ (IntKind.i64.wrap (((a0.length) : Int) - (minmax false ((a0.length) : Int) (IntKind.i64.wrap (a1 - 1))))) ≤ ((a0.length) : Int) ∧ ((a0.length) : Int) ≤ ((a0.length) : Int)))
    (br (lenOk (a0.length))
    (br (lenOk (v1_1.length))
    (br (lenOk (a0.length))
    (br (lenOk (a0.length))
    (br (!(f29 (v1_2, ((a0.take (((a0.length) : Int).toNat)).drop ((IntKind.i64.wrap (((a0.length) : Int) - (minmax false ((a0.length) : Int) (IntKind.i64.wrap (a1 - 1))))).toNat)))))
    (K false)
    (LoopP (V := Int × Unit) (fun again v => (fun (again2 : Int → Prop) (v2_0 : Int) =>
    br (decide (v2_0 < a1))
    (f26_pre a0 ∧
    br ((f27 ((f26 a0), v2_0)).2 != 0)
    (K false)
    (br (decide (0 ≤ v2_0) && decide (v2_0 < ((v1_1.length) : Int)))
    (br (!((((f27 ((f26 a0), v2_0)).1).1 == (v1_1.getD v2_0.toNat (0, 0)).1) && ((((f27 ((f26 a0), v2_0)).1).2 == (v1_1.getD v2_0.toNat (0, 0)).2) && true)))
    (K false)
    (again2 (IntKind.i64.wrap (v2_0 + 1))))
    False))
    (f26_pre a0 ∧
    f71_pre (v1_1, (v1_2, v1_3)) ∧
    JoinQ (V := Unit) (fun J => (fun (join3 : Prop) =>
    br ((f63 (f26 a0)).2 != 0)
    (K false)
    (br (lenOk (a0.length))
    (br (decide (((a0.length) : Int) ≤ a1))
    (br ((f73 ((f71 (v1_1, (v1_2, v1_3))).1, ((f71 (v1_1, (v1_2, v1_3))).2))).2 != 0)
    (K false)
    (br (!((((f73 ((f71 (v1_1, (v1_2, v1_3))).1, ((f71 (v1_1, (v1_2, v1_3))).2))).1).1 == ((f63 (f26 a0)).1).1) && (((((f73 ((f71 (v1_1, (v1_2, v1_3))).1, ((f71 (v1_1, (v1_2, v1_3))).2))).1).2).1 == (((f63 (f26 a0)).1).2).1) && ((((((f73 ((f71 (v1_1, (v1_2, v1_3))).1, ((f71 (v1_1, (v1_2, v1_3))).2))).1).2).2).1 == ((((f63 (f26 a0)).1).2).2).1) && ((((((f73 ((f71 (v1_1, (v1_2, v1_3))).1, ((f71 (v1_1, (v1_2, v1_3))).2))).1).2).2).2 == ((((f63 (f26 a0)).1).2).2).2) && true)))))
    (K false)
    (br (lenOk (a0.length))
    (br (decide (((a0.length) : Int) > a1))
    (br ((f73 ((f71 (v1_1, (v1_2, v1_3))).1, ((f71 (v1_1, (v1_2, v1_3))).2))).2 != 19)
    (K false)
    (join3))
    (join3))
    True)))
    (br (lenOk (a0.length))
    (br (decide (((a0.length) : Int) > a1))
    (br ((f73 ((f71 (v1_1, (v1_2, v1_3))).1, ((f71 (v1_1, (v1_2, v1_3))).2))).2 != 19)
    (K false)
    (join3))
    (join3))
    True))
    True)) (J ())) (fun v =>
    JoinQ (V := List (Int × Int) × Unit) (fun J => (fun (join5 : List (Int × Int) → Prop) =>
    LoopP (V := Int × List (Int × Int) × Unit) (fun again v => (fun (again4 : Int → List (Int × Int) → Prop) (v4_0 : Int) (v4_1 : List (Int × Int)) =>
    br (lenOk (a0.length))
    (br (decide (v4_0 < ((a0.length) : Int)))
    (br (decide (0 ≤ (v4_0.tmod 4)) && decide ((v4_0.tmod 4) < 4))
    (br (decide (0 ≤ v4_0) && decide (v4_0 < ((a0.length) : Int)))
    (br (decide (0 ≤ (v4_0.tmod 4)) && decide ((v4_0.tmod 4) < 4))
    (again4 (IntKind.i64.wrap (v4_0 + 1)) (v4_1.set ((v4_0.tmod 4).toNat) (f80 ((v4_1.getD ((v4_0.tmod 4).toNat) (0, 0)), (a0.getD v4_0.toNat (0, 0))))))
    False)
    False)
    False)
    (join5 v4_1))
    True)
    (fun v4_0 v4_1 => again (v4_0, v4_1, ())) v.1 v.2.1) (0, ([(0, 0), (0, 0), (0, 0), (0, 0)] : List (Int × Int)), ())) (fun j5_0 => J (j5_0, ()))) (fun v => (fun (j5_0 : List (Int × Int)) =>
    LoopP (V := Int × Int × Unit) (fun again v => (fun (again6 : Int → Int → Prop) (v6_0 : Int) (v6_1 : Int) =>
    br (decide (v6_1 < 4))
    (br (decide (0 ≤ v6_1) && decide (v6_1 < 4))
    (br (!(f18 ((([((f63 (f26 a0)).1).1, (((f63 (f26 a0)).1).2).1, ((((f63 (f26 a0)).1).2).2).1, ((((f63 (f26 a0)).1).2).2).2] : List Int).getD v6_1.toNat 0), (0, 1099511627776))))
    (K false)
    (br (decide (0 ≤ v6_1) && decide (v6_1 < 4))
    (br (decide (0 ≤ v6_1) && decide (v6_1 < 4))
    (again6 (IntKind.i64.wrap ((IntKind.i64.wrap (v6_0 + (([((f63 (f26 a0)).1).1, (((f63 (f26 a0)).1).2).1, ((((f63 (f26 a0)).1).2).2).1, ((((f63 (f26 a0)).1).2).2).2] : List Int).getD v6_1.toNat 0))) - (IntKind.i64.wrap (4 * (f81 (j5_0.getD v6_1.toNat (0, 0))))))) (IntKind.i64.wrap (v6_1 + 1)))
    False)
    False))
    False)
    (K (v6_0 == 0)))
    (fun v6_0 v6_1 => again (v6_0, v6_1, ())) v.1 v.2.1) (0, 0, ())) v.1))))
    (fun v2_0 => again (v2_0, ())) v.1) (0, ())))
    True)
    True)
    True)
    True)
    False))))
    (fun v1_0 v1_1 v1_2 v1_3 => again (v1_0, v1_1, v1_2, v1_3, ())) v.1 v.2.1 v.2.2.1 v.2.2.2.1) (0, (List.replicate a1.toNat ((0, 0) : Int × Int)), ([] : List (Int × Int)), 0, ()))
    False)
    True)
    True))))
    True)) := by kernel_rfl
theorem f13_t (a0 : List (Int × Int)) (a1 : Int) (a2 : Int × Int) (K : Bool → Prop) (hK : ∀ y : Bool, y = f13 (a0, a1, a2) → K y) : RunF Try.prog f13_E f13_A 6 Try.f13 f13_e.doms f13_e.cods (a0, a1, a2) K := by
  refine ⟨?_⟩
  rw [f13_run a0 a1 a2 K]
  have kt : K true := hK _ (by simp [f13])
  rw [show f16 () = true from rfl, Bool.not_true, br_f, br_true_, lenOk_iff]
  intro hl0
  rw [br_dec]
  refine ⟨fun _ => kt, fun h30 => ?_⟩
  rw [br_both]
  refine ⟨fun _ => kt, fun hB => ?_⟩
  have hB : (f33 a0).2 = 0 := by
    have h : f28 a0 = 0 := by simpa using hB
    exact h
  rw [br_both]
  refine ⟨fun _ => kt, fun h18 => ?_⟩
  have hL : 1 ≤ a1 ∧ a1 ≤ 12 := by simpa [f18] using h18
  have hok := blk_ok hB
  have hblk : Blk a0 := ⟨hok.2.1, hok.2.2⟩
  rw [br_true_]
  intro _
  rw [wr (n := (a0.length : Int) + 1) (by omega) (by omega)]
  have hA := f78_range (t := a2.1) (m := (a0.length : Int) + 1) (by omega) (by omega)
  refine ⟨by show (a0.length : Int) + 1 ≠ 0; omega, ?_⟩
  generalize f78 (a2.1, (a0.length : Int) + 1) = A at hA
  rw [br_true_]
  intro _
  rw [wr (n := (a0.length : Int) - A) (by omega) (by omega), wr (n := (a0.length : Int) - A + 1) (by omega) (by omega)]
  have hBr := f78_range (t := a2.2) (m := (a0.length : Int) - A + 1) (by omega) (by omega)
  refine ⟨by show (a0.length : Int) - A + 1 ≠ 0; omega, ?_⟩
  generalize f78 (a2.2, (a0.length : Int) - A + 1) = B0 at hBr
  rw [wr (n := A + B0) (by omega) (by omega)]
  obtain ⟨B, hBd⟩ : ∃ B, B = A + B0 := ⟨_, rfl⟩
  rw [← hBd]
  have hAB : A ≤ B ∧ B ≤ a0.length := by omega
  obtain ⟨L, hLd⟩ : ∃ L : Nat, L = a1.toNat := ⟨_, rfl⟩
  have hLL : 1 ≤ L ∧ L ≤ 12 := by omega
  have hL1 : (L : Int) = a1 := by omega
  rw [← hLd, br_false_]
  refine ⟨by simp only [Bool.and_eq_true, decide_eq_true_eq, roomOk_iff]; refine ⟨⟨by omega, trivial⟩, by omega⟩, ?_⟩
  have hd1 : decide ((0 : Int) ≤ 0 ∧ 0 ≤ A ∧ A ≤ (a0.length : Int)) = true := decide_eq_true ⟨by omega, by omega, by omega⟩
  have hd2 : decide ((0 : Int) ≤ A ∧ A ≤ B ∧ B ≤ (a0.length : Int)) = true := decide_eq_true ⟨by omega, by omega, by omega⟩
  have hd3 : decide ((0 : Int) ≤ B ∧ B ≤ (a0.length : Int) ∧ (a0.length : Int) ≤ (a0.length : Int)) = true := decide_eq_true ⟨by omega, by omega, by omega⟩
  have i71 : ∀ s, f71 s = s := fun s => rfl
  have i26 : ∀ l, f26 l = l := fun l => rfl
  have etaS : ∀ s : List (Int × Int) × List (Int × Int) × Int, (s.1, s.2.1, s.2.2) = s := fun s => rfl
  have etaS2 : ∀ s : List (Int × Int) × List (Int × Int) × Int, (s.1, s.2) = s := fun s => rfl
  have hp26 : f26_pre a0 := by show a0.length ≤ _; omega
  have hlag : ∀ q, (sumOf L q).1.length = L := fun q => lagsOf_len
  have hnn : (a0.length : Int).toNat = a0.length := by omega
  rw [hnn, List.take_length]
  refine LoopP.up 3 (fun i v => v.1 = (sumOf L (a0.take (posOf A.toNat B.toNat a0.length i.toNat))).1 ∧ v.2.1 = (sumOf L (a0.take (posOf A.toNat B.toNat a0.length i.toNat))).2.1 ∧ v.2.2.1 = (sumOf L (a0.take (posOf A.toNat B.toNat a0.length i.toNat))).2.2) (fun again i v hi0 hn hI hag => ?_) (by omega) ?_
  rotate_left
  · refine ⟨?_, by show [] = List.drop _ (a0.take 0); simp, rfl⟩
    show List.replicate L (0, 0) = lagsOf L []
    apply List.ext_getElem (by simp [lagsOf])
    intro k h1 h2
    simp [lagsOf, f99, sumN]
  obtain ⟨v1, v2, v3, u⟩ := v
  simp only at hI hag ⊢
  obtain ⟨hI1, hI2, hI3⟩ := hI
  subst hI1 hI2 hI3
  rw [br_dec]
  refine ⟨fun hi => ?_, fun hi => ?_⟩
  · have hb : (decide (0 ≤ i) && decide (i < 3)) = true := by simp [hi0, hi]
    rw [hd1, hd2, hd3, hb, br_t, br_t, br_t, br_t, wr (n := i + 1) (by omega) (by omega)]
    obtain ⟨p, hp⟩ : ∃ p, p = ([((a0.take A.toNat).drop 0), ((a0.take B.toNat).drop A.toNat), (a0.drop B.toNat)] : List (List (Int × Int))).getD i.toNat [] := ⟨_, rfl⟩
    rw [← hp]
    obtain ⟨q, hq⟩ : ∃ q, q = a0.take (posOf A.toNat B.toNat a0.length i.toNat) := ⟨_, rfl⟩
    have hjoin : q ++ p = a0.take (posOf A.toNat B.toNat a0.length (i + 1).toNat) := by
      have h3 : i = 0 ∨ i = 1 ∨ i = 2 := by omega
      rcases h3 with rfl | rfl | rfl
      · rw [hq, hp]
        show a0.take 0 ++ (a0.take A.toNat).drop 0 = a0.take A.toNat
        simp
      · rw [hq, hp]
        show a0.take A.toNat ++ (a0.take B.toNat).drop A.toNat = a0.take B.toNat
        exact take_join (by omega)
      · rw [hq, hp]
        show a0.take B.toNat ++ a0.drop B.toNat = a0.take a0.length
        rw [List.take_append_drop, List.take_length]
    rw [← hq, br_true_]
    intro _
    rw [← hjoin] at hag
    have hall : ∀ z ∈ q ++ p, z ∈ a0 := fun z hz => by
      rw [hjoin] at hz
      exact List.mem_of_mem_take hz
    have hlen : (q ++ p).length ≤ 30 := by
      rw [hjoin, List.length_take]
      omega
    have hbq : Blk (q ++ p) := ⟨by omega, fun z hz => hok.2.2 z (hall z hz)⟩
    rw [List.length_append] at hlen
    rw [br_both]
    refine ⟨fun h0 => hag _ hi ?_, fun h0 => ?_⟩
    · have hpn : p = [] := List.eq_nil_of_length_eq_zero (by have h0 : (p.length : Int) = 0 := by simpa using h0
                                                             omega)
      rw [hpn, List.append_nil]
      exact ⟨rfl, rfl, rfl⟩
    · have hpp : 0 < p.length := by
        rcases Nat.eq_zero_or_pos p.length with h | h
        · rw [h] at h0; simp at h0
        · exact h
      have htl : (sumOf L q).2.1.length ≤ 30 := by
        show (q.drop _).length ≤ 30
        rw [List.length_drop]
        omega
      have hadd := added_S hbq hpp hLL
      have hchk : f79 (sumOf L (q ++ p)) = 0 := by
        show (chkS (sumOf L (q ++ p))).2 = 0
        rw [chk_S hbq hLL]
      refine ⟨⟨by rw [hlag]; omega, by show (sumOf L q).2.1.length ≤ _; omega⟩, by show p.length ≤ _; omega, ?_⟩
      simp only [i71, i26, etaS, etaS2, hadd, hchk]
      rw [show ((0 : Int) != 0) = false from rfl, br_f, br_f]
      exact hag _ hi ⟨rfl, rfl, rfl⟩
  have hq : a0.take (posOf A.toNat B.toNat a0.length i.toNat) = a0 := by
    rw [show i.toNat = 3 by omega]
    exact List.take_length
  rw [hq]
  have hcnt : (sumOf L a0).2.2 = (a0.length : Int) := rfl
  rw [hcnt, hlag, bne_self_eq_false, br_f, hL1, bne_self_eq_false, br_f]
  have hmn : IntKind.i64.wrap ((a0.length : Int) - minmax false (a0.length : Int) (IntKind.i64.wrap (a1 - 1))) = ((a0.length + 1 - L : Nat) : Int) := by
    rw [wr (n := a1 - 1) (by omega) (by omega)]
    simp only [minmax]
    split
    · rw [wr (by omega) (by omega)]; omega
    · rw [wr (by omega) (by omega)]; omega
  rw [hmn, br_false_]
  refine ⟨decide_eq_true ⟨by omega, by omega, by omega⟩, ?_⟩
  rw [br_true_]
  intro _
  rw [br_true_]
  intro _
  rw [br_true_]
  intro _
  rw [br_true_]
  intro _
  have e2 : ((a0.length + 1 - L : Nat) : Int).toNat = a0.length + 1 - L := by omega
  have e29 : f29 ((sumOf L a0).2.1, a0.drop (a0.length + 1 - L)) = true := by
    show decide (a0.drop (a0.length + 1 - L) = a0.drop (a0.length + 1 - L)) = true
    simp
  rw [e2, e29, Bool.not_true, br_f]
  have etaN : ((sumOf L a0).1, (sumOf L a0).2.1, (a0.length : Int)) = sumOf L a0 := rfl
  rw [etaN]
  refine LoopP.up a1 (fun i _ => True) (fun again2 j v hj0 hjn _ hag2 => ?_) (by omega) trivial
  dsimp only
  rw [br_dec]
  refine ⟨fun hj => ?_, fun hj => ?_⟩
  · have e27 : f27 (a0, j) = (f99 (a0, j), 0) := by
      have hz : f42 ((f33 a0).2, if 0 ≤ j ∧ j ≤ 48 then 0 else 2) = 0 := by
        rw [hB, if_pos ⟨hj0, by omega⟩]
        rfl
      rw [f27, if_neg (fun hh => hh hz)]
    have eg : (sumOf L a0).1.getD j.toNat (0, 0) = f99 (a0, j) := by
      show (lagsOf L a0).getD j.toNat (0, 0) = _
      rw [lagsOf_get (by omega), show ((j.toNat : Nat) : Int) = j by omega]
    have hb : (decide (0 ≤ j) && decide (j < a1)) = true := by simp [hj0, hj]
    refine ⟨hp26, ?_⟩
    simp only [i26, e27, eg, hb]
    rw [show ((0 : Int) != 0) = false from rfl, br_f, br_t, wr (n := j + 1) (by omega) (by omega)]
    simp only [beq_self_eq_true, Bool.and_true, Bool.not_true, br_f]
    exact hag2 () hj trivial
  refine ⟨hp26, ⟨by rw [hlag]; omega, by show (a0.drop _).length ≤ _; rw [List.length_drop]; omega⟩, ?_⟩
  have e63 : f63 a0 = (f116 (f113 a0), 0) := by rw [f63, if_neg (fun hh => hh hB)]
  simp only [i26, i71, etaS2, e63]
  have hS := chk_S hblk hLL
  refine JoinQ.use0 True (fun G hG => ?_) (fun _ => ?_)
  · have hG := hG trivial
    rw [show ((0 : Int) != 0) = false from rfl, br_f, br_true_]
    intro _
    by_cases hle : (a0.length : Int) ≤ a1
    · have hE : byE (sumOf L a0) = 0 := by
        have : decide ((sumOf L a0).2.2 ≤ ((sumOf L a0).1.length : Int)) = true := decide_eq_true (by rw [hcnt, hlag]; omega)
        rw [byE, hS, this]
        rfl
      have e73 : f73 (sumOf L a0) = (f116 (f113 a0), 0) := by
        rw [f73, if_neg (fun hh => hh hE)]
        show (byF (lagsOf L a0), 0) = _
        rw [powers_eq hblk hLL (by omega)]
      have hd : decide ((a0.length : Int) ≤ a1) = true := decide_eq_true hle
      have hd' : decide ((a0.length : Int) > a1) = false := decide_eq_false (by omega)
      rw [hd, hd', e73]
      simp only [br_t, br_f, beq_self_eq_true, Bool.and_true, Bool.not_true]
      rw [show ((0 : Int) != 0) = false from rfl, br_f, br_true_]
      intro _
      exact hG
    · have hE : byE (sumOf L a0) = 19 := by
        have : decide ((sumOf L a0).2.2 ≤ ((sumOf L a0).1.length : Int)) = false := decide_eq_false (by rw [hcnt, hlag]; omega)
        rw [byE, hS, this]
        rfl
      have e73 : (f73 (sumOf L a0)).2 = 19 := by
        rw [f73, if_pos (by rw [hE]; decide), hE]
      have hd : decide ((a0.length : Int) ≤ a1) = false := decide_eq_false hle
      have hd' : decide ((a0.length : Int) > a1) = true := decide_eq_true (by omega)
      rw [hd, hd', e73]
      simp only [br_t, br_f]
      rw [br_true_]
      intro _
      rw [show ((19 : Int) != 19) = false from rfl, br_f]
      exact hG
  refine JoinQ.use (fun v => v.1 = (List.range 4).map (fun r => foldE (at0 a0) r a0.length)) (fun G hG => ?_) (fun v hv => ?_)
  · refine LoopP.up a0.length (fun i v => v.1 = (List.range 4).map (fun r => foldE (at0 a0) r i.toNat)) (fun again i v hi0 hn hI hag => ?_) (by omega) rfl
    obtain ⟨v, u⟩ := v
    simp only at hI hag ⊢
    subst hI
    rw [br_true_]
    intro _
    rw [br_dec]
    refine ⟨fun hi => ?_, fun hi => hG _ ?_⟩
    · have hm : i.tmod 4 = i % 4 := Int.tmod_eq_emod_of_nonneg hi0
      have hb : (decide (0 ≤ i % 4) && decide (i % 4 < 4)) = true := by simp only [Bool.and_eq_true, decide_eq_true_eq]; omega
      have hb2 : (decide (0 ≤ i) && decide (i < (a0.length : Int))) = true := by simp [hi0, hi]
      have hmt : (i % 4).toNat = i.toNat % 4 := by omega
      rw [hm, hb, hb2, br_t, br_t, br_t, wr (n := i + 1) (by omega) (by omega), hmt, range_getD (by omega)]
      refine hag _ hi ?_
      have hst : f80 (foldE (at0 a0) (i.toNat % 4) i.toNat, a0.getD i.toNat (0, 0)) = foldE (at0 a0) (i.toNat % 4) (i.toNat + 1) := by
        have h1 := fold_small hblk (i.toNat % 4) i.toNat
        have h2 := hblk.at i.toNat
        simp only [bd] at h1 h2
        simp only [foldE, if_true]
        show f126 (_, at0 a0 i.toNat) = _
        simp only [f126, padd]
        rw [wr (by omega) (by omega), wr (by omega) (by omega)]
      rw [hst]
      show ((List.range 4).map _).set _ _ = (List.range 4).map (fun r => foldE (at0 a0) r (i + 1).toNat)
      rw [show (i + 1).toNat = i.toNat + 1 by omega]
      apply List.ext_getElem (by simp)
      intro k h1 h2
      simp only [List.getElem_set, List.getElem_map, List.getElem_range]
      split
      · rename_i e
        rw [e]
      · rename_i e
        simp only [foldE]
        rw [if_neg e]
    · rw [show i.toNat = a0.length by omega]
  obtain ⟨fo, u⟩ := v
  simp only at hv
  subst hv
  obtain ⟨P, hP⟩ : ∃ P : Nat → Int, P = fun r => nm (lineE (at0 a0) r a0.length) := ⟨_, rfl⟩
  obtain ⟨F, hF⟩ : ∃ F : Nat → Int, F = fun r => nm (foldE (at0 a0) r a0.length) := ⟨_, rfl⟩
  have hPr : ∀ r, f118 (lineAt a0 r) = P r := fun r => by
    rw [(line_E hblk r).1, (nm_small (line_small hblk r)).1, hP]
  have hfs : ∀ r, bd 48000 (foldE (at0 a0) r a0.length) := fun r => by
    have := fold_small hblk r a0.length
    simp only [bd] at this ⊢
    omega
  have hFr : ∀ r, f81 (foldE (at0 a0) r a0.length) = F r := fun r => by
    show f118 _ = _
    rw [(nm_small (hfs r)).1, hF]
  have hbd : ∀ r, (0 ≤ P r ∧ P r ≤ 10000000000) ∧ 0 ≤ F r ∧ F r ≤ 10000000000 := fun r => by
    rw [hP, hF]
    exact ⟨(nm_small (line_small hblk r)).2, (nm_small (hfs r)).2⟩
  have hlist : ([(f116 (f113 a0)).1, (f116 (f113 a0)).2.1, (f116 (f113 a0)).2.2.1, (f116 (f113 a0)).2.2.2] : List Int) = (List.range 4).map P := by
    show [f118 (lineAt a0 0), f118 (lineAt a0 1), f118 (lineAt a0 2), f118 (lineAt a0 3)] = _
    rw [hPr, hPr, hPr, hPr]
    rfl
  have hpar : partS P F 4 = 0 := by
    have := parseval (at0 a0) a0.length
    simp only [partS, hP, hF]
    omega
  refine LoopP.up2 4 (fun r u _ => u = partS P F r.toNat) (fun again u r v hr0 hrn hI hag => ?_) (by omega) rfl
  dsimp only
  subst hI
  rw [hlist, br_dec]
  refine ⟨fun hr => ?_, fun hr => ?_⟩
  · have hb : (decide (0 ≤ r) && decide (r < 4)) = true := by simp [hr0, hr]
    have h1 := hbd r.toNat
    have h2 := partS_bd hbd r.toNat
    have h18' : f18 (P r.toNat, 0, 1099511627776) = true := by simp [f18]; omega
    rw [hb, range_getD (by omega), range_getD (by omega), hFr, h18', Bool.not_true, br_t, br_f, br_t, br_t]
    rw [wr (n := partS P F r.toNat + P r.toNat) (by omega) (by omega), wr (n := 4 * F r.toNat) (by omega) (by omega), wr (n := partS P F r.toNat + P r.toNat - 4 * F r.toNat) (by omega) (by omega), wr (n := r + 1) (by omega) (by omega)]
    refine hag _ _ hr ?_
    rw [show (r + 1).toNat = r.toNat + 1 by omega]
    rfl
  · rw [show r.toNat = 4 by omega, hpar]
    exact kt
theorem f13_fn : f13_e.fn = f13 := rfl
theorem f13_ok : EntryOK Try.prog 13 f13_e := by
  refine entryF progOK (EnvOK.cons f16_ok (EnvOK.cons f18_ok (EnvOK.cons f26_ok (EnvOK.cons f27_ok (EnvOK.cons f28_ok (EnvOK.cons f29_ok (EnvOK.cons f63_ok (EnvOK.cons f71_ok (EnvOK.cons f72_ok (EnvOK.cons f73_ok (EnvOK.cons f78_ok (EnvOK.cons f79_ok (EnvOK.cons f80_ok (EnvOK.cons f81_ok (EnvOK.cons f33_ok (EnvOK.nil)))))))))))))))) (A := f13_A) (d := 6) Try.func13 rfl rfl (fun _ _ => trivial) fun x hpre => ?_
  obtain ⟨a0, a1, a2⟩ := x
  exact f13_t a0 a1 a2 _ fun _ h => h.trans (congrFun f13_fn.symm _)
end Go.Proofs.Ytdhekhichomoiaa
