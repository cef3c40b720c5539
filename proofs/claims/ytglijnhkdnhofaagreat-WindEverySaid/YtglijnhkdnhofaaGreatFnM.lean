/- What functions of the program compute, each proved once, part 13. -/
import Derived.Test.YtglijnhkdnhofaaGreatPiD
import Derived.Test.YtglijnhkdnhofaaGreatFnA
import Derived.Test.YtglijnhkdnhofaaGreatFnG
import Derived.Test.YtglijnhkdnhofaaGreatFnH
import Derived.Test.YtglijnhkdnhofaaGreatFnI
import Derived.Test.YtglijnhkdnhofaaGreatFnD
import Derived.Test.YtglijnhkdnhofaaGreatFnF
import Derived.Test.YtglijnhkdnhofaaGreatFnJ
import Derived.Test.YtglijnhkdnhofaaGreatFnK
import Derived.Test.YtglijnhkdnhofaaGreatFnL

namespace Go.Proofs.YtglijnhkdnhofaaGreat
open Go Go.Pi Go.RowKit
set_option maxRecDepth 100000
set_option linter.unusedVariables false
set_option linter.unusedSimpArgs false

def f5 (x : List ((Int × Int × Int) × Int × Int) × (Int × Int × Int × Int) × Int × Int × Int) : Bool := true
def f5_e : Entry := { doms := [(false, (.sl (.pair (.pair (.int .i64) (.pair (.int .i64) (.int .i64))) (.pair (.int .i64) (.int .i64))))), (true, (.pair (.int .i64) (.pair (.int .i64) (.pair (.int .i64) (.int .i64))))), (true, (.pair (.int .i64) (.pair (.int .i64) (.int .i64))))], cods := [(false, .bool)], pre := fun _ => True, fn := f5, uq := false, total := true }
def f5_E : Env := [(8, f8_e), (9, f9_e), (10, f10_e), (11, f11_e), (12, f12_e), (13, f13_e), (14, f14_e), (24, f24_e), (29, f29_e), (30, f30_e), (31, f31_e), (32, f32_e), (33, f33_e), (34, f34_e), (35, f35_e), (36, f36_e), (37, f37_e), (38, f38_e)]
def f5_A : Anns := { loops := [(1048576, { tms := [(0, .keep), (4, .keep), (5, .keep), (7, .keep), (9, .keep), (11, .keep), (15, .keep), (17, .data false .bool), (18, .data false .bool), (19, .data false (.int .i64))], obs := [(1048576, .keep), (1048577, .keep), (1054727, .keep), (1057798, .keep), (1058823, .keep)], fz := [] }),
  (1573005, { tms := [(0, .keep), (5, .keep), (9, .keep)], obs := [(1048577, .keep), (1054727, .keep)], fz := [] })], own := [], unroll := 4 }
theorem f5_run (a0 : List ((Int × Int × Int) × Int × Int)) (a1 : Int × Int × Int × Int) (a2 : Int × Int × Int) (K : Bool → Prop) : runF Tryz.prog f5_E f5_A 6 Tryz.f5 f5_e.doms f5_e.cods (a0, a1, a2) K =
    (br (!(f8 ()))
    (K false)
    (br (!(f9 a0))
    (K true)
    (br ((f24 a0) != 0)
    (K true)
    (f30_pre a0 ∧
    br (decide ((f29 (f30 a0)) < 3))
    (K true)
    (br ((f31 a1) != 0)
    (K true)
    (br ((f32 a2) != 0)
    (K true)
    (f11_pre a0 ∧
    f11_pre a0 ∧
    br ((f33 ((f11 a0), a1)).2 != 0)
    (br ((f33 ((f11 a0), a1)).2 == 0)
    (br ((f12 ((f11 a0), a2)).2 == 12)
    (K (!(f33 ((f11 a0), a1)).1))
    (K false))
    (K false))
    (br ((f12 ((f11 a0), a2)).2 != 0)
    (br ((f33 ((f11 a0), a1)).2 == 0)
    (br ((f12 ((f11 a0), a2)).2 == 12)
    (K (!(f33 ((f11 a0), a1)).1))
    (K false))
    (K false))
    (f11_pre a0 ∧
    f11_pre a0 ∧
    f11_pre a0 ∧
    br ((f14 (f11 a0)).2 != 0)
    (K false)
    (br ((f13 ((f11 a0), a2)).2 != 0)
    (K false)
    (br ((f10 (f11 a0)).2 != 0)
    (K false)
    (br (((((f10 (f11 a0)).1).length) : Int) == 0)
    (br (lenOk (((f10 (f11 a0)).1).length))
    (K false)
    True)
    (br (decide (((((f10 (f11 a0)).1).length) : Int) > 200))
    (br (lenOk (((f10 (f11 a0)).1).length))
    (br (lenOk (((f10 (f11 a0)).1).length))
    (K false)
    True)
    True)
    (br (decide ((((f12 ((f11 a0), a2)).1).1).2 < 1))
    (br (lenOk (((f10 (f11 a0)).1).length))
    (br (lenOk (((f10 (f11 a0)).1).length))
    (K false)
    True)
    True)
    (br (decide ((((f12 ((f11 a0), a2)).1).2).2 < 1))
    (br (lenOk (((f10 (f11 a0)).1).length))
    (br (lenOk (((f10 (f11 a0)).1).length))
    (K false)
    True)
    True)
    (f34_pre ((((f12 ((f11 a0), a2)).1).1), (((f12 ((f11 a0), a2)).1).2)) ∧
    br (lenOk (((f10 (f11 a0)).1).length))
    (br (lenOk (((f10 (f11 a0)).1).length))
    (br (!((((f13 ((f11 a0), a2)).1).1 == (f34 ((((f12 ((f11 a0), a2)).1).1), (((f12 ((f11 a0), a2)).1).2))).1) && ((((f13 ((f11 a0), a2)).1).2 == (f34 ((((f12 ((f11 a0), a2)).1).1), (((f12 ((f11 a0), a2)).1).2))).2) && true)))
    (K false)
    (LoopP (V := Bool × Bool × Int × Unit) (fun again v => (fun (again1 : Bool → Bool → Int → Prop) (v1_0 : Bool) (v1_1 : Bool) (v1_2 : Int) =>
    br (lenOk (((f10 (f11 a0)).1).length))
    (br (decide (v1_2 < ((((f10 (f11 a0)).1).length) : Int)))
    (br (decide (0 ≤ v1_2) && decide (v1_2 < ((((f10 (f11 a0)).1).length) : Int)))
    (br ((f31 ((((f10 (f11 a0)).1).getD v1_2.toNat (0, (0, (0, 0)))).1, (((((f10 (f11 a0)).1).getD v1_2.toNat (0, (0, (0, 0)))).2).1, (((((f10 (f11 a0)).1).getD v1_2.toNat (0, (0, (0, 0)))).2).2)))) != 0)
    (K false)
    (f11_pre a0 ∧
    br (decide (0 ≤ v1_2) && decide (v1_2 < ((((f10 (f11 a0)).1).length) : Int)))
    (br (decide (0 ≤ v1_2) && decide (v1_2 < ((((f10 (f11 a0)).1).length) : Int)))
    (br (decide (0 ≤ v1_2) && decide (v1_2 < ((((f10 (f11 a0)).1).length) : Int)))
    (f35_pre ((f36 (a2, ((f37 ((((f10 (f11 a0)).1).getD v1_2.toNat (0, (0, (0, 0)))).1, (((((f10 (f11 a0)).1).getD v1_2.toNat (0, (0, (0, 0)))).2).1, (((((f10 (f11 a0)).1).getD v1_2.toNat (0, (0, (0, 0)))).2).2)))).1, ((f37 ((((f10 (f11 a0)).1).getD v1_2.toNat (0, (0, (0, 0)))).1, (((((f10 (f11 a0)).1).getD v1_2.toNat (0, (0, (0, 0)))).2).1, (((((f10 (f11 a0)).1).getD v1_2.toNat (0, (0, (0, 0)))).2).2)))).2)))), (((((f10 (f11 a0)).1).getD v1_2.toNat (0, (0, (0, 0)))).2).2).2) ∧
    br ((f33 ((f11 a0), ((((f10 (f11 a0)).1).getD v1_2.toNat (0, (0, (0, 0)))).1, (((((f10 (f11 a0)).1).getD v1_2.toNat (0, (0, (0, 0)))).2).1, (((((f10 (f11 a0)).1).getD v1_2.toNat (0, (0, (0, 0)))).2).2))))).2 != 0)
    (K false)
    (br (!(f33 ((f11 a0), ((((f10 (f11 a0)).1).getD v1_2.toNat (0, (0, (0, 0)))).1, (((((f10 (f11 a0)).1).getD v1_2.toNat (0, (0, (0, 0)))).2).1, (((((f10 (f11 a0)).1).getD v1_2.toNat (0, (0, (0, 0)))).2).2))))).1)
    (K false)
    (br v1_0
    (br v1_1
    (again1 true true (IntKind.i64.wrap (v1_2 + 1)))
    (again1 true (((f35 ((f36 (a2, ((f37 ((((f10 (f11 a0)).1).getD v1_2.toNat (0, (0, (0, 0)))).1, (((((f10 (f11 a0)).1).getD v1_2.toNat (0, (0, (0, 0)))).2).1, (((((f10 (f11 a0)).1).getD v1_2.toNat (0, (0, (0, 0)))).2).2)))).1, ((f37 ((((f10 (f11 a0)).1).getD v1_2.toNat (0, (0, (0, 0)))).1, (((((f10 (f11 a0)).1).getD v1_2.toNat (0, (0, (0, 0)))).2).1, (((((f10 (f11 a0)).1).getD v1_2.toNat (0, (0, (0, 0)))).2).2)))).2)))), (((((f10 (f11 a0)).1).getD v1_2.toNat (0, (0, (0, 0)))).2).2).2)).1 == (((f12 ((f11 a0), a2)).1).2).1) && (((f35 ((f36 (a2, ((f37 ((((f10 (f11 a0)).1).getD v1_2.toNat (0, (0, (0, 0)))).1, (((((f10 (f11 a0)).1).getD v1_2.toNat (0, (0, (0, 0)))).2).1, (((((f10 (f11 a0)).1).getD v1_2.toNat (0, (0, (0, 0)))).2).2)))).1, ((f37 ((((f10 (f11 a0)).1).getD v1_2.toNat (0, (0, (0, 0)))).1, (((((f10 (f11 a0)).1).getD v1_2.toNat (0, (0, (0, 0)))).2).1, (((((f10 (f11 a0)).1).getD v1_2.toNat (0, (0, (0, 0)))).2).2)))).2)))), (((((f10 (f11 a0)).1).getD v1_2.toNat (0, (0, (0, 0)))).2).2).2)).2 == (((f12 ((f11 a0), a2)).1).2).2) && true)) (IntKind.i64.wrap (v1_2 + 1))))
    (br v1_1
    (again1 (((f35 ((f36 (a2, ((f37 ((((f10 (f11 a0)).1).getD v1_2.toNat (0, (0, (0, 0)))).1, (((((f10 (f11 a0)).1).getD v1_2.toNat (0, (0, (0, 0)))).2).1, (((((f10 (f11 a0)).1).getD v1_2.toNat (0, (0, (0, 0)))).2).2)))).1, ((f37 ((((f10 (f11 a0)).1).getD v1_2.toNat (0, (0, (0, 0)))).1, (((((f10 (f11 a0)).1).getD v1_2.toNat (0, (0, (0, 0)))).2).1, (((((f10 (f11 a0)).1).getD v1_2.toNat (0, (0, (0, 0)))).2).2)))).2)))), (((((f10 (f11 a0)).1).getD v1_2.toNat (0, (0, (0, 0)))).2).2).2)).1 == (((f12 ((f11 a0), a2)).1).1).1) && (((f35 ((f36 (a2, ((f37 ((((f10 (f11 a0)).1).getD v1_2.toNat (0, (0, (0, 0)))).1, (((((f10 (f11 a0)).1).getD v1_2.toNat (0, (0, (0, 0)))).2).1, (((((f10 (f11 a0)).1).getD v1_2.toNat (0, (0, (0, 0)))).2).2)))).1, ((f37 ((((f10 (f11 a0)).1).getD v1_2.toNat (0, (0, (0, 0)))).1, (((((f10 (f11 a0)).1).getD v1_2.toNat (0, (0, (0, 0)))).2).1, (((((f10 (f11 a0)).1).getD v1_2.toNat (0, (0, (0, 0)))).2).2)))).2)))), (((((f10 (f11 a0)).1).getD v1_2.toNat (0, (0, (0, 0)))).2).2).2)).2 == (((f12 ((f11 a0), a2)).1).1).2) && true)) true (IntKind.i64.wrap (v1_2 + 1)))
    (again1 (((f35 ((f36 (a2, ((f37 ((((f10 (f11 a0)).1).getD v1_2.toNat (0, (0, (0, 0)))).1, (((((f10 (f11 a0)).1).getD v1_2.toNat (0, (0, (0, 0)))).2).1, (((((f10 (f11 a0)).1).getD v1_2.toNat (0, (0, (0, 0)))).2).2)))).1, ((f37 ((((f10 (f11 a0)).1).getD v1_2.toNat (0, (0, (0, 0)))).1, (((((f10 (f11 a0)).1).getD v1_2.toNat (0, (0, (0, 0)))).2).1, (((((f10 (f11 a0)).1).getD v1_2.toNat (0, (0, (0, 0)))).2).2)))).2)))), (((((f10 (f11 a0)).1).getD v1_2.toNat (0, (0, (0, 0)))).2).2).2)).1 == (((f12 ((f11 a0), a2)).1).1).1) && (((f35 ((f36 (a2, ((f37 ((((f10 (f11 a0)).1).getD v1_2.toNat (0, (0, (0, 0)))).1, (((((f10 (f11 a0)).1).getD v1_2.toNat (0, (0, (0, 0)))).2).1, (((((f10 (f11 a0)).1).getD v1_2.toNat (0, (0, (0, 0)))).2).2)))).1, ((f37 ((((f10 (f11 a0)).1).getD v1_2.toNat (0, (0, (0, 0)))).1, (((((f10 (f11 a0)).1).getD v1_2.toNat (0, (0, (0, 0)))).2).1, (((((f10 (f11 a0)).1).getD v1_2.toNat (0, (0, (0, 0)))).2).2)))).2)))), (((((f10 (f11 a0)).1).getD v1_2.toNat (0, (0, (0, 0)))).2).2).2)).2 == (((f12 ((f11 a0), a2)).1).1).2) && true)) (((f35 ((f36 (a2, ((f37 ((((f10 (f11 a0)).1).getD v1_2.toNat (0, (0, (0, 0)))).1, (((((f10 (f11 a0)).1).getD v1_2.toNat (0, (0, (0, 0)))).2).1, (((((f10 (f11 a0)).1).getD v1_2.toNat (0, (0, (0, 0)))).2).2)))).1, ((f37 ((((f10 (f11 a0)).1).getD v1_2.toNat (0, (0, (0, 0)))).1, (((((f10 (f11 a0)).1).getD v1_2.toNat (0, (0, (0, 0)))).2).1, (((((f10 (f11 a0)).1).getD v1_2.toNat (0, (0, (0, 0)))).2).2)))).2)))), (((((f10 (f11 a0)).1).getD v1_2.toNat (0, (0, (0, 0)))).2).2).2)).1 == (((f12 ((f11 a0), a2)).1).2).1) && (((f35 ((f36 (a2, ((f37 ((((f10 (f11 a0)).1).getD v1_2.toNat (0, (0, (0, 0)))).1, (((((f10 (f11 a0)).1).getD v1_2.toNat (0, (0, (0, 0)))).2).1, (((((f10 (f11 a0)).1).getD v1_2.toNat (0, (0, (0, 0)))).2).2)))).1, ((f37 ((((f10 (f11 a0)).1).getD v1_2.toNat (0, (0, (0, 0)))).1, (((((f10 (f11 a0)).1).getD v1_2.toNat (0, (0, (0, 0)))).2).1, (((((f10 (f11 a0)).1).getD v1_2.toNat (0, (0, (0, 0)))).2).2)))).2)))), (((((f10 (f11 a0)).1).getD v1_2.toNat (0, (0, (0, 0)))).2).2).2)).2 == (((f12 ((f11 a0), a2)).1).2).2) && true)) (IntKind.i64.wrap (v1_2 + 1)))))))
    False)
    False)
    False))
    False)
    (br (!v1_0)
    (K false)
    (br (!v1_1)
    (K false)
    (JoinQ (V := Unit) (fun J => (fun (join2 : Prop) =>
    br (f33 ((f11 a0), a1)).1
    (f38_pre ((f36 (a2, ((f37 a1).1, ((f37 a1).2)))), (a1.2.2.2, (((f12 ((f11 a0), a2)).1).1))) ∧
    br (decide ((f38 ((f36 (a2, ((f37 a1).1, ((f37 a1).2)))), (a1.2.2.2, (((f12 ((f11 a0), a2)).1).1)))) < 0))
    (K false)
    (f38_pre ((f36 (a2, ((f37 a1).1, ((f37 a1).2)))), (a1.2.2.2, (((f12 ((f11 a0), a2)).1).2))) ∧
    br (decide ((f38 ((f36 (a2, ((f37 a1).1, ((f37 a1).2)))), (a1.2.2.2, (((f12 ((f11 a0), a2)).1).2)))) > 0))
    (K false)
    (f38_pre ((f37 a1).1, (a1.2.2.2, ((((f14 (f11 a0)).1).1).1, 1))) ∧
    br (decide ((f38 ((f37 a1).1, (a1.2.2.2, ((((f14 (f11 a0)).1).1).1, 1)))) < 0))
    (K false)
    (f38_pre ((f37 a1).1, (a1.2.2.2, ((((f14 (f11 a0)).1).1).2, 1))) ∧
    br (decide ((f38 ((f37 a1).1, (a1.2.2.2, ((((f14 (f11 a0)).1).1).2, 1)))) > 0))
    (K false)
    (f38_pre (((f37 a1).2).1, (a1.2.2.2, (((((f14 (f11 a0)).1).2).1).1, 1))) ∧
    br (decide ((f38 (((f37 a1).2).1, (a1.2.2.2, (((((f14 (f11 a0)).1).2).1).1, 1)))) < 0))
    (K false)
    (f38_pre (((f37 a1).2).1, (a1.2.2.2, (((((f14 (f11 a0)).1).2).1).2, 1))) ∧
    br (decide ((f38 (((f37 a1).2).1, (a1.2.2.2, (((((f14 (f11 a0)).1).2).1).2, 1)))) > 0))
    (K false)
    (f38_pre (((f37 a1).2).2, (a1.2.2.2, (((((f14 (f11 a0)).1).2).2).1, 1))) ∧
    br (decide ((f38 (((f37 a1).2).2, (a1.2.2.2, (((((f14 (f11 a0)).1).2).2).1, 1)))) < 0))
    (K false)
    (f38_pre (((f37 a1).2).2, (a1.2.2.2, (((((f14 (f11 a0)).1).2).2).2, 1))) ∧
    br (decide ((f38 (((f37 a1).2).2, (a1.2.2.2, (((((f14 (f11 a0)).1).2).2).2, 1)))) > 0))
    (K false)
    (join2)))))))))
    (join2)) (J ())) (fun v =>
    br (decide ((0 : Int) ≤ 0 ∧ 0 ≤ (IntKind.i64.wrap (((a0.length) : Int) - 1)) ∧ (IntKind.i64.wrap (((a0.length) : Int) - 1)) ≤ ((a0.length) : Int)))
    (f11_pre ((a0.take ((IntKind.i64.wrap (((a0.length) : Int) - 1)).toNat)).drop 0) ∧
    br (lenOk (a0.length))
    (br ((f12 ((f11 ((a0.take ((IntKind.i64.wrap (((a0.length) : Int) - 1)).toNat)).drop 0)), a2)).2 != 0)
    (br ((f12 ((f11 ((a0.take ((IntKind.i64.wrap (((a0.length) : Int) - 1)).toNat)).drop 0)), a2)).2 == 19)
    (K true)
    (K ((f12 ((f11 ((a0.take ((IntKind.i64.wrap (((a0.length) : Int) - 1)).toNat)).drop 0)), a2)).2 == 10)))
    (br (decide ((((f12 ((f11 ((a0.take ((IntKind.i64.wrap (((a0.length) : Int) - 1)).toNat)).drop 0)), a2)).1).1).2 ≥ 1))
    (br (decide ((((f12 ((f11 ((a0.take ((IntKind.i64.wrap (((a0.length) : Int) - 1)).toNat)).drop 0)), a2)).1).2).2 ≥ 1))
    (f38_pre ((((f12 ((f11 ((a0.take ((IntKind.i64.wrap (((a0.length) : Int) - 1)).toNat)).drop 0)), a2)).1).1).1, ((((f12 ((f11 ((a0.take ((IntKind.i64.wrap (((a0.length) : Int) - 1)).toNat)).drop 0)), a2)).1).1).2, (((f12 ((f11 a0), a2)).1).1))) ∧
    br (decide ((f38 ((((f12 ((f11 ((a0.take ((IntKind.i64.wrap (((a0.length) : Int) - 1)).toNat)).drop 0)), a2)).1).1).1, ((((f12 ((f11 ((a0.take ((IntKind.i64.wrap (((a0.length) : Int) - 1)).toNat)).drop 0)), a2)).1).1).2, (((f12 ((f11 a0), a2)).1).1)))) ≤ 0))
    (f38_pre ((((f12 ((f11 ((a0.take ((IntKind.i64.wrap (((a0.length) : Int) - 1)).toNat)).drop 0)), a2)).1).2).1, ((((f12 ((f11 ((a0.take ((IntKind.i64.wrap (((a0.length) : Int) - 1)).toNat)).drop 0)), a2)).1).2).2, (((f12 ((f11 a0), a2)).1).2))) ∧
    K (decide ((f38 ((((f12 ((f11 ((a0.take ((IntKind.i64.wrap (((a0.length) : Int) - 1)).toNat)).drop 0)), a2)).1).2).1, ((((f12 ((f11 ((a0.take ((IntKind.i64.wrap (((a0.length) : Int) - 1)).toNat)).drop 0)), a2)).1).2).2, (((f12 ((f11 a0), a2)).1).2)))) ≥ 0)))
    (K false))
    (K false))
    (K false)))
    True)
    False)))))
    True)
    (fun v1_0 v1_1 v1_2 => again (v1_0, v1_1, v1_2, ())) v.1 v.2.1 v.2.2.1) (false, false, 0, ())))
    True)
    True)))))))))))))))) := by kernel_rfl
theorem f5_t (a0 : List ((Int × Int × Int) × Int × Int)) (a1 : Int × Int × Int × Int) (a2 : Int × Int × Int) (K : Bool → Prop) (hK : ∀ y : Bool, y = f5 (a0, a1, a2) → K y) : RunF Tryz.prog f5_E f5_A 6 Tryz.f5 f5_e.doms f5_e.cods (a0, a1, a2) K := by
  refine ⟨?_⟩
  rw [f5_run a0 a1 a2 K]
  have e8 : f8 () = true := rfl
  have hT : K true := hK _ rfl
  have hKb : ∀ b : Bool, b = true → K b := fun b h => hK _ (by rw [h]; rfl)
  have e9 : f9 a0 = decide (a0.length ≤ 8) := rfl
  have e11 : ∀ l, f11 l = l := fun _ => rfl
  have e12 : ∀ l d, f12 (l, d) = rangeW l d := fun _ _ => rfl
  have e13 : f13 (a0, a2) = headW a0 a2 := rfl
  have e10 : f10 a0 = vtxW a0 := rfl
  have e24 : f24 a0 = (rdOf a0).2 := rfl
  have e30 : f30 a0 = a0.map (·.1) := rfl
  have e29 : f29 (a0.map (·.1)) = rkR (a0.map (·.1)) := rfl
  have e31 : ∀ v, f31 v = windE v := fun _ => rfl
  have e32 : f32 a2 = dirE a2 := rfl
  simp only [e11, e12, e13, e10, e24, e30, e29, e31, e32]
  rw [e8, e9]
  refine br_two (fun h => by cases h) fun _ => br_two (fun _ => hT) fun h9 => ?_
  have hl : a0.length ≤ 8 := by simpa using h9
  refine br_two (fun _ => hT) fun h24 => ?_
  have h24 : (rdOf a0).2 = 0 := bne_f.1 h24
  have rok := rdOf_ok h24
  refine ⟨show a0.length ≤ 1048576 by omega, ?_⟩
  have hdirs : Dirs (a0.map (·.1)) := ⟨fun d hd => by obtain ⟨r, hr, rfl⟩ := List.mem_map.1 hd; exact (rok.dir r hr).1, fun d hd => by obtain ⟨r, hr, rfl⟩ := List.mem_map.1 hd; exact (rok.dir r hr).2⟩
  rw [rkR_eq hdirs]
  refine br_if (fun _ => hT) fun hrk => ?_
  have h3 : (rkOwn (a0.map (·.1))).length = 3 := by have := rkOwn_len (a0.map (·.1)); omega
  refine br_two (fun _ => hT) fun hw => br_two (fun _ => hT) fun hd => ?_
  have hw : windE a1 = 0 := bne_f.1 hw
  have hd : dirE a2 = 0 := bne_f.1 hd
  obtain ⟨w1, w2, w3⟩ := windE_zero hw
  have hdl := (dirE_zero hd).1
  have p11 : f11_pre a0 := show a0.length ≤ 1048576 by omega
  have e33 : ∀ v, windE v = 0 → f33 (a0, v) = (a0.all (agR · v), 0) := fun v hv => by
    show (if (rdOf a0).2 ≠ 0 then (false, (rdOf a0).2) else if windE v ≠ 0 then (false, windE v) else (a0.all (agR · v), 0)) = _
    rw [if_neg (fun hh => hh h24), if_neg (fun hh => hh hv)]
  rw [rangeW_is h24 hd h3, e33 a1 hw]
  have hagr := agR_ok rok.rdLe w2 (show 0 < a1.2.2.2 by omega) w1.2
  refine ⟨p11, p11, br_two (fun h => by simp at h) fun _ => ?_⟩
  by_cases h0 : (vtx a0).length = 0
  · rw [if_pos h0]
    refine br_two (fun _ => br_two (fun _ => br_two (fun _ => hKb _ ?_) fun h => by simp at h) fun h => by simp at h) fun h => by simp at h
    simp only [Bool.not_eq_true']
    refine Bool.eq_false_iff.2 fun hh => ?_
    have := (span_le rok h3 (show 0 < a1.2.2.2 by omega) (hagr.1 hh) a2).1
    omega
  have h0' : 0 < (vtx a0).length := by omega
  have ehw : ∀ d, dirE d = 0 → headW a0 d = (((spanW (vtx a0) d).1.1 / (spanW (vtx a0) d).1.2, -(-(spanW (vtx a0) d).2.1 / (spanW (vtx a0) d).2.2)), 0) := fun d h => headW_is h24 h h3 h0'
  have e14 : f14 a0 = (((headW a0 (1, 0, 0)).1, (headW a0 (0, 1, 0)).1, (headW a0 (0, 0, 1)).1), 0) := by
    unfold f14
    rw [if_neg, if_neg, if_neg]
    · rw [ehw (0, 0, 1) (by decide)]; exact fun hh => hh rfl
    · rw [ehw (0, 1, 0) (by decide)]; exact fun hh => hh rfl
    · rw [ehw (1, 0, 0) (by decide)]; exact fun hh => hh rfl
  have eV : vtxW a0 = (vtx a0, 0) := by
    unfold vtxW
    rw [if_neg (fun hh => hh h24), if_neg (fun hh => hh h3), if_neg (by omega)]
  have fsS := spanW_fs (l := a0) (d := a2) (by rw [rangeW_is h24 hd h3, if_neg (by omega)])
  rw [rangeW_is h24 hd h3, if_neg (by omega)] at fsS
  obtain ⟨fsa, fsb⟩ := fsS
  have e34 : f34 (spanW (vtx a0) a2) = ((spanW (vtx a0) a2).1.1 / (spanW (vtx a0) a2).1.2, -(-(spanW (vtx a0) a2).2.1 / (spanW (vtx a0) a2).2.2)) := rfl
  have p34 : f34_pre (spanW (vtx a0) a2) := ⟨fsa, fsb⟩
  have vlen := vtx_160 rok.six
  obtain ⟨vlo, mlo, elo, llo⟩ := span_lo rok.rdLe h0' a2
  obtain ⟨vhi, mhi, ehi, lhi⟩ := span_hi rok.rdLe h0' a2
  rw [if_neg h0, e14, eV, ehw a2 hd]
  dsimp only
  have ends : ∀ p q, 0 < q → agQ a0 p q → (spanW (vtx a0) a2).1.1 * q ≤ dot a2 p * (spanW (vtx a0) a2).1.2 ∧ dot a2 p * (spanW (vtx a0) a2).2.2 ≤ (spanW (vtx a0) a2).2.1 * q := fun p q hq ha => (span_le rok h3 hq ha a2).2
  have bx := fun p q hq ha => box_le rok h3 (p := p) (q := q) hq ha (1, 0, 0)
  have by_ := fun p q hq ha => box_le rok h3 (p := p) (q := q) hq ha (0, 1, 0)
  have bz := fun p q hq ha => box_le rok h3 (p := p) (q := q) hq ha (0, 0, 1)
  have fx := ehw (1, 0, 0) (by decide)
  have fy := ehw (0, 1, 0) (by decide)
  have fz := ehw (0, 0, 1) (by decide)
  have fewer := fun l' h' h3' hs => span_fewer rok h0' (l' := l') h' h3' hs a2
  have hfs : ∀ d, dirE d = 0 → FS (spanW (vtx a0) d).1 ∧ FS (spanW (vtx a0) d).2 := fun d h => by
    have := spanW_fs (l := a0) (d := d) (by rw [rangeW_is h24 h h3, if_neg (by omega)])
    rwa [rangeW_is h24 h h3, if_neg (by omega)] at this
  obtain ⟨gx1, gx2⟩ := hfs (1, 0, 0) (by decide)
  obtain ⟨gy1, gy2⟩ := hfs (0, 1, 0) (by decide)
  obtain ⟨gz1, gz2⟩ := hfs (0, 0, 1) (by decide)
  have flo : ∀ x : Int × Int, FS x → Fit (x.1 / x.2) := fun x hx => ediv_fit (fit_le hx.1 (by omega)) hx.2.1
  have cei : ∀ x : Int × Int, FS x → Fit (-(-x.1 / x.2)) := fun x hx => by
    have := ediv_fit (a := -x.1) (b := x.2) (fit_le (show -200000000 ≤ -x.1 ∧ -x.1 ≤ 200000000 by have := hx.1; omega) (by omega)) hx.2.1
    exact ⟨by have := this.2; omega, by have := this.1; omega⟩
  have qx := And.intro (flo _ gx1) (cei _ gx2)
  have qy := And.intro (flo _ gy1) (cei _ gy2)
  have qz := And.intro (flo _ gz1) (cei _ gz2)
  rw [fx, fy, fz]
  dsimp only
  generalize (spanW (vtx a0) (1, 0, 0)).1.1 / (spanW (vtx a0) (1, 0, 0)).1.2 = xlo at bx qx ⊢
  generalize -(-(spanW (vtx a0) (1, 0, 0)).2.1 / (spanW (vtx a0) (1, 0, 0)).2.2) = xhi at bx qx ⊢
  generalize (spanW (vtx a0) (0, 1, 0)).1.1 / (spanW (vtx a0) (0, 1, 0)).1.2 = ylo at by_ qy ⊢
  generalize -(-(spanW (vtx a0) (0, 1, 0)).2.1 / (spanW (vtx a0) (0, 1, 0)).2.2) = yhi at by_ qy ⊢
  generalize (spanW (vtx a0) (0, 0, 1)).1.1 / (spanW (vtx a0) (0, 0, 1)).1.2 = zlo at bz qz ⊢
  generalize -(-(spanW (vtx a0) (0, 0, 1)).2.1 / (spanW (vtx a0) (0, 0, 1)).2.2) = zhi at bz qz ⊢
  have p34' : f34_pre ((spanW (vtx a0) a2).1, (spanW (vtx a0) a2).2) := p34
  have e34' : f34 ((spanW (vtx a0) a2).1, (spanW (vtx a0) a2).2) = ((spanW (vtx a0) a2).1.1 / (spanW (vtx a0) a2).1.2, -(-(spanW (vtx a0) a2).2.1 / (spanW (vtx a0) a2).2.2)) := rfl
  rw [e34']
  have e37 : ∀ v : WV, f37 v = (v.1, v.2.1, v.2.2.1) := fun _ => rfl
  have e36 : ∀ v : V3, f36 (a2, v) = w64 (dot a2 v) := fun _ => rfl
  have e35 : ∀ n d, f35 (n, d) = low n d := fun _ _ => rfl
  have e38 : ∀ a b c d, f38 (a, b, c, d) = cmpQ (a, b, c, d) := fun _ _ _ _ => rfl
  simp only [e37, e36, e35, e38, cmpQ]
  generalize spanW (vtx a0) a2 = S at *
  obtain ⟨⟨s1, s2⟩, s3, s4⟩ := S
  dsimp only at *
  refine ⟨p11, p11, p11, br_two (fun h => by simp at h) fun _ => br_two (fun h => by simp at h) fun _ => br_two (fun h => by simp at h) fun _ => ?_⟩
  refine br_two (fun h => by rw [beq_iff_eq] at h; omega) fun _ => br_if (fun h => by omega) fun _ => ?_
  refine br_if (fun h => by have := fsa.2.1; dsimp only at this; omega) fun _ => br_if (fun h => by have := fsb.2.1; dsimp only at this; omega) fun _ => ⟨p34', br_weak (br_weak (br_two (fun h => by simp at h) fun _ => ?_))⟩
  refine LoopP.up3 ((vtx a0).length : Int) (fun i lo hi _ => (∀ v ∈ (vtx a0).take i.toNat, (s1, s2) = low (dot (wpt v) a2) v.2.2.2 → lo = true) ∧ ∀ v ∈ (vtx a0).take i.toNat, (s3, s4) = low (dot (wpt v) a2) v.2.2.2 → hi = true) (fun again lo hi i u hi0 hin hI hag => ?_) (by omega) ⟨fun v hv => by simp at hv, fun v hv => by simp at hv⟩
  obtain ⟨k, rfl⟩ := Int.eq_ofNat_of_zero_le hi0
  rw [Int.toNat_natCast] at hI
  dsimp only
  rw [Int.toNat_natCast]
  refine br_weak (br_if (fun hlt => ?_) fun hge => ?_)
  · have hk : k < (vtx a0).length := by omega
    have hb := inb (show (0 : Int) ≤ (k : Int) by omega) hlt
    have hm := getD_mem (d := ((0 : Int), (0 : Int), (0 : Int), (0 : Int))) hk
    have htk : (vtx a0).take (k + 1) = (vtx a0).take k ++ [(vtx a0).getD k (0, 0, 0, 0)] := by
      rw [List.take_add_one, List.getElem?_eq_getElem hk, getD_lt hk]; rfl
    have hag' : ∀ lo' hi', (lo = true ∨ (s1, s2) = low (dot (wpt ((vtx a0).getD k (0, 0, 0, 0))) a2) ((vtx a0).getD k (0, 0, 0, 0)).2.2.2 → lo' = true) → (hi = true ∨ (s3, s4) = low (dot (wpt ((vtx a0).getD k (0, 0, 0, 0))) a2) ((vtx a0).getD k (0, 0, 0, 0)).2.2.2 → hi' = true) → again (lo', hi', w64 ((k : Int) + 1), ()) := fun lo' hi' h1 h2 => by
      rw [w64_in (by omega) (by omega)]
      refine hag lo' hi' () hlt ?_
      rw [show ((k : Int) + 1).toNat = k + 1 by omega, htk]
      refine ⟨fun v hv hs => ?_, fun v hv hs => ?_⟩
      · rcases List.mem_append.1 hv with hv | hv
        · exact h1 (.inl (hI.1 v hv hs))
        · rw [List.mem_singleton] at hv; subst hv; exact h1 (.inr hs)
      · rcases List.mem_append.1 hv with hv | hv
        · exact h2 (.inl (hI.2 v hv hs))
        · rw [List.mem_singleton] at hv; subst hv; exact h2 (.inr hs)
    have hv := vtx_is rok.rdLe hm
    have e33' := e33 _ hv.windE
    have eD := dot_le hdl hv.pt
    have eW : windE ((vtx a0).getD k (0, 0, 0, 0)) = 0 := hv.windE
    generalize (vtx a0).getD k (0, 0, 0, 0) = v at *
    obtain ⟨x, y, z, den⟩ := v
    dsimp only at e33' eD eW ⊢
    have eD : -(3 * (9 * 4860000)) ≤ dot a2 (x, y, z) ∧ dot a2 (x, y, z) ≤ 3 * (9 * 4860000) := eD
    rw [e33', eW, w64_in (n := dot a2 (x, y, z)) (by omega) (by omega)]
    have hden := hv.den
    have hden9 := hv.le
    dsimp only at hden hden9
    have ec : dot (wpt (x, y, z, den)) a2 = dot a2 (x, y, z) := dot_comm _ _
    rw [ec] at hag'
    have hg : (a0.all (agR · (x, y, z, den))) = true := hv.all
    have cmpE : ∀ a b : Int, (((low (dot a2 (x, y, z)) den).1 == a) && (((low (dot a2 (x, y, z)) den).2 == b) && true)) = true ↔ (a, b) = low (dot a2 (x, y, z)) den := fun a b => by
      generalize low (dot a2 (x, y, z)) den = f
      obtain ⟨f1, f2⟩ := f
      simp only [Bool.and_true, Bool.and_eq_true, beq_iff_eq, Prod.mk.injEq]
      exact ⟨fun h => ⟨h.1.symm, h.2.symm⟩, fun h => ⟨h.1.symm, h.2.symm⟩⟩
    refine br_must hb (br_two (fun h => by simp at h) fun _ => ⟨p11, br_must hb (br_must hb (br_must hb ⟨⟨⟨by dsimp only; omega, by dsimp only; omega⟩, ⟨by dsimp only; omega, by dsimp only; omega⟩, by dsimp only; omega⟩, br_two (fun h => by simp at h) fun _ => br_two (fun h => by rw [hg] at h; cases h) fun _ => ?_⟩))⟩)
    refine br_two (fun hlo => br_two (fun hhi => hag' _ _ (fun _ => rfl) (fun _ => rfl)) fun hhi => hag' _ _ (fun _ => rfl) fun h => ?_) fun hlo => br_two (fun hhi => hag' _ _ (fun h => ?_) (fun _ => rfl)) fun hhi => hag' _ _ (fun h => ?_) fun h => ?_
    · rcases h with h | h
      · rw [hhi] at h; cases h
      · exact (cmpE _ _).2 h
    · rcases h with h | h
      · rw [hlo] at h; cases h
      · exact (cmpE _ _).2 h
    · rcases h with h | h
      · rw [hlo] at h; cases h
      · exact (cmpE _ _).2 h
    · rcases h with h | h
      · rw [hhi] at h; cases h
      · exact (cmpE _ _).2 h
  · have hk : k = (vtx a0).length := by omega
    rw [hk, List.take_of_length_le (Nat.le_refl _)] at hI
    have hlo := hI.1 vlo mlo elo
    have hhi := hI.2 vhi mhi ehi
    subst hlo hhi
    refine br_two (fun h => by cases h) fun _ => br_two (fun h => by cases h) fun _ => ?_
    have eD := dot_le hdl w2
    have eD' : w64 (dot a2 (a1.1, a1.2.1, a1.2.2.1)) = dot a2 (wpt a1) := w64_in (by show _ ≤ dot a2 (wpt a1); omega) (by show dot a2 (wpt a1) ≤ _; omega)
    rw [eD']
    have one : Fit 1 := by decide
    have k1 := fit_le w2.1 (show (1000000000000 : Int) ≤ 9223372036854775807 by omega)
    have k2 := fit_le w2.2.1 (show (1000000000000 : Int) ≤ 9223372036854775807 by omega)
    have k3 := fit_le w2.2.2 (show (1000000000000 : Int) ≤ 9223372036854775807 by omega)
    have kd : Fit a1.2.2.2 := ⟨by omega, by omega⟩
    have kG : Fit (dot a2 (wpt a1)) := ⟨by omega, by omega⟩
    have ks1 : Fit s1 := fit_le fsa.1 (by omega)
    have ks2 : Fit s2 := ⟨by have := fsa.2; dsimp only at this; omega, by have := fsa.2; dsimp only at this; omega⟩
    have ks3 : Fit s3 := fit_le fsb.1 (by omega)
    have ks4 : Fit s4 := ⟨by have := fsb.2; dsimp only at this; omega, by have := fsb.2; dsimp only at this; omega⟩
    have pd : 0 < a1.2.2.2 := by omega
    have p2 : 0 < s2 := fsa.2.1
    have p4 : 0 < s4 := fsb.2.1
    refine JoinQ.use0 True (fun G hG => ?_) fun _ => ?_
    · have hj := hG trivial
      refine br_two (fun hh => ?_) fun _ => hj
      have hq := hagr.1 hh
      obtain ⟨r1, r2⟩ := ends _ _ pd hq
      have tx := bx _ _ pd hq
      have ty := by_ _ _ pd hq
      have tz := bz _ _ pd hq
      have ax : dot (1, 0, 0) (wpt a1) = a1.1 := by simp [dot, wpt]
      have ay : dot (0, 1, 0) (wpt a1) = a1.2.1 := by simp [dot, wpt]
      have az : dot (0, 0, 1) (wpt a1) = a1.2.2.1 := by simp [dot, wpt]
      rw [ax] at tx
      rw [ay] at ty
      rw [az] at tz
      refine ⟨⟨kG, kd, ks1, ks2, pd, p2⟩, br_if (fun h => absurd (sgn_neg.1 h) (by omega)) fun _ => ⟨⟨kG, kd, ks3, ks4, pd, p4⟩, br_if (fun h => absurd (sgn_pos.1 h) (by omega)) fun _ => ?_⟩⟩
      refine ⟨⟨k1, kd, qx.1, one, pd, Int.zero_lt_one⟩, br_if (fun h => absurd (sgn_neg.1 h) (by omega)) fun _ => ⟨⟨k1, kd, qx.2, one, pd, Int.zero_lt_one⟩, br_if (fun h => absurd (sgn_pos.1 h) (by omega)) fun _ => ?_⟩⟩
      refine ⟨⟨k2, kd, qy.1, one, pd, Int.zero_lt_one⟩, br_if (fun h => absurd (sgn_neg.1 h) (by omega)) fun _ => ⟨⟨k2, kd, qy.2, one, pd, Int.zero_lt_one⟩, br_if (fun h => absurd (sgn_pos.1 h) (by omega)) fun _ => ?_⟩⟩
      exact ⟨⟨k3, kd, qz.1, one, pd, Int.zero_lt_one⟩, br_if (fun h => absurd (sgn_neg.1 h) (by omega)) fun _ => ⟨⟨k3, kd, qz.2, one, pd, Int.zero_lt_one⟩, br_if (fun h => absurd (sgn_pos.1 h) (by omega)) fun _ => hj⟩⟩
    · have hpos := rok.pos
      rw [show IntKind.i64.wrap ((a0.length : Int) - 1) = (a0.length : Int) - 1 from wr (by omega) (by omega)]
      refine br_must (by simp; omega) ?_
      have hsub : ∀ r ∈ (a0.take (((a0.length : Int) - 1).toNat)).drop 0, r ∈ a0 := take_sub
      have hlen' : ((a0.take (((a0.length : Int) - 1).toNat)).drop 0).length ≤ 6 := by
        rw [List.drop_zero, List.length_take]; have := rok.six; omega
      have few := fewer ((a0.take (((a0.length : Int) - 1).toNat)).drop 0)
      generalize (a0.take (((a0.length : Int) - 1).toNat)).drop 0 = l' at hsub hlen' few ⊢
      refine ⟨show l'.length ≤ 1048576 by omega, br_weak ?_⟩
      by_cases hz : l'.length = 0
      · have er : rangeW l' a2 = (no4, 10) := by
          unfold rangeW rdOf
          rw [if_pos hz]; exact if_pos (by decide)
        rw [er]
        exact br_two (fun _ => br_two (fun h => by simp at h) fun _ => hKb _ (by simp)) fun h => by simp at h
      have hr' := rdOf_none (by omega) hlen' (fun r hr => rdOf_all h24 r (hsub r hr))
      have rok' := rdOf_ok (show (rdOf l').2 = 0 by rw [hr'])
      by_cases h3' : (rkOwn (l'.map (·.1))).length = 3
      · have hpos' := (span_le rok' h3' (vtx_is rok.rdLe mlo).den (agQ_sub hsub (vtx_is rok.rdLe mlo).ag) a2).1
        have hfw := few rok' h3' hsub
        have er := rangeW_is (show (rdOf l').2 = 0 by rw [hr']) hd h3'
        rw [if_neg (by omega)] at er
        have fs' := spanW_fs (l := l') (d := a2) (by rw [er])
        rw [er] at fs' ⊢
        generalize spanW (vtx l') a2 = S' at *
        obtain ⟨⟨t1, t2⟩, t3, t4⟩ := S'
        dsimp only at *
        obtain ⟨⟨g1, g2, g3⟩, ⟨g4, g5, g6⟩⟩ := fs'
        dsimp only at g1 g2 g3 g4 g5 g6
        have kt1 : Fit t1 := fit_le g1 (by omega)
        have kt2 : Fit t2 := ⟨by omega, by omega⟩
        have kt3 : Fit t3 := fit_le g4 (by omega)
        have kt4 : Fit t4 := ⟨by omega, by omega⟩
        refine br_two (fun h => by simp at h) fun _ => br_if (fun _ => br_if (fun _ => ⟨⟨kt1, kt2, ks1, ks2, g2, p2⟩, br_if (fun _ => ⟨⟨kt3, kt4, ks3, ks4, g5, p4⟩, hKb _ (decide_eq_true (sgn_nonneg.2 (by omega)))⟩) fun h => absurd (sgn_nonpos.2 (by omega)) h⟩) fun h => by omega) fun h => by omega
      · have er : rangeW l' a2 = (no4, 19) := by
          unfold rangeW
          rw [if_neg (by rw [hr']; exact fun hh => hh rfl), if_neg (fun hh => hh hd), if_pos h3']
        rw [er]
        exact br_two (fun _ => br_two (fun _ => hT) fun h => by simp at h) fun h => by simp at h
theorem f5_fn : f5_e.fn = f5 := rfl
theorem f5_ok : EntryOK Tryz.prog 5 f5_e := by
  refine entryF progOK (EnvOK.cons f8_ok (EnvOK.cons f9_ok (EnvOK.cons f10_ok (EnvOK.cons f11_ok (EnvOK.cons f12_ok (EnvOK.cons f13_ok (EnvOK.cons f14_ok (EnvOK.cons f24_ok (EnvOK.cons f29_ok (EnvOK.cons f30_ok (EnvOK.cons f31_ok (EnvOK.cons f32_ok (EnvOK.cons f33_ok (EnvOK.cons f34_ok (EnvOK.cons f35_ok (EnvOK.cons f36_ok (EnvOK.cons f37_ok (EnvOK.cons f38_ok (EnvOK.nil))))))))))))))))))) (A := f5_A) (d := 6) Tryz.func5 rfl rfl rfl rfl (fun _ _ => trivial) fun x hpre => ?_
  obtain ⟨a0, a1, a2⟩ := x
  exact f5_t a0 a1 a2 _ fun _ h => h.trans (congrFun f5_fn.symm _)
end Go.Proofs.YtglijnhkdnhofaaGreat
