/- What functions of the program compute, each proved once, part 3. -/
import Derived.Test.YtglijnhkdnhofaaPiD
import Derived.Test.YtglijnhkdnhofaaFnA
import Derived.Test.YtglijnhkdnhofaaFnB

section
namespace Go.Proofs.Ytglijnhkdnhofaa
open Go Go.Pi Go.RowKit
set_option maxRecDepth 100000
set_option linter.unusedVariables false
set_option linter.unusedSimpArgs false

def f96 (l : List ((Int × Int × Int) × Int × Int)) : List (Int × Int × Int × Int) := vtx l
def f96_pre (l : List ((Int × Int × Int) × Int × Int)) : Prop := RdLe l
theorem bit0 : ∀ e : Fin 8, ((IntKind.i64.wrap (((BitVec.ofInt IntKind.i64.bits ((e.1 : Int).fdiv (2 ^ 0)) &&& BitVec.ofInt IntKind.i64.bits 1).toNat : Nat))) == 1) = decide (e.1 % 2 = 1) := by decide
theorem bit1 : ∀ e : Fin 8, ((IntKind.i64.wrap (((BitVec.ofInt IntKind.i64.bits ((e.1 : Int).fdiv (2 ^ 1)) &&& BitVec.ofInt IntKind.i64.bits 1).toNat : Nat))) == 1) = decide (e.1 / 2 % 2 = 1) := by decide
theorem bit2 : ∀ e : Fin 8, ((IntKind.i64.wrap (((BitVec.ofInt IntKind.i64.bits ((e.1 : Int).fdiv (2 ^ 2)) &&& BitVec.ofInt IntKind.i64.bits 1).toNat : Nat))) == 1) = decide (e.1 / 4 % 2 = 1) := by decide
theorem putAll_snoc (m : Kn) (f : Nat → List WV) (n : Nat) : putAll m ((List.range (n + 1)).flatMap f) = putAll (putAll m ((List.range n).flatMap f)) (f n) := by rw [flatMap_succ, putAll_append]
theorem erase_perm {α : Type} {l : List α} {i : Nat} (h : i < l.length) : (l[i] :: l.eraseIdx i).Perm l := by
  have e : l = l.take i ++ l[i] :: l.drop (i + 1) := by rw [← List.drop_eq_getElem_cons h, List.take_append_drop]
  rw [List.eraseIdx_eq_take_drop_succ]
  have := (List.perm_middle (a := l[i]) (l₁ := l.take i) (l₂ := l.drop (i + 1))).symm
  rwa [← e] at this
def f96_e : Entry := { doms := [(false, (.sl (.pair (.pair (.int .i64) (.pair (.int .i64) (.int .i64))) (.pair (.int .i64) (.int .i64)))))], cods := [(false, (.sl (.pair (.int .i64) (.pair (.int .i64) (.pair (.int .i64) (.int .i64))))))], pre := f96_pre, fn := f96, uq := false, total := false }
def f96_E : Env := [(83, f83_e), (101, f101_e), (104, f104_e), (128, f128_e)]
def f96_A : Anns := { loops := [(1048576, { tms := [(0, .keep), (3, .keep), (19, .keep), (20, .data false (.int .i64))], obs := [(1049600, .map true false (.pair (.int .i64) (.pair (.int .i64) (.pair (.int .i64) (.int .i64)))) .bool)], fz := [] }),
  (1048578, { tms := [(0, .keep), (3, .keep), (4, .keep), (19, .keep), (20, .keep), (23, .keep), (24, .data false (.int .i64))], obs := [(1049600, .map true false (.pair (.int .i64) (.pair (.int .i64) (.pair (.int .i64) (.int .i64)))) .bool)], fz := [] }),
  (1048580, { tms := [(0, .keep), (3, .keep), (4, .keep), (5, .keep), (19, .keep), (20, .keep), (23, .keep), (24, .keep), (27, .keep), (28, .data false (.int .i64))], obs := [(1049600, .map true false (.pair (.int .i64) (.pair (.int .i64) (.pair (.int .i64) (.int .i64)))) .bool)], fz := [] }),
  (1048584, { tms := [(0, .keep), (3, .keep), (4, .keep), (5, .keep), (7, .keep), (8, .keep), (19, .keep), (20, .keep), (23, .keep), (24, .keep), (27, .keep), (28, .keep), (59, .data false (.int .i64))], obs := [(1049600, .map true false (.pair (.int .i64) (.pair (.int .i64) (.pair (.int .i64) (.int .i64)))) .bool), (1059853, .keep), (1060864, .cells [.data (.int .i64), .data (.int .i64), .data (.int .i64), .data (.int .i64), .data (.int .i64), .data (.int .i64), .data (.int .i64), .data (.int .i64), .data (.int .i64), .data (.int .i64), .data (.int .i64), .data (.int .i64)]), (1152921916924771330, .keep), (1152921916925819906, .keep), (1152921916926868482, .keep)], fz := [] }),
  (1048588, { tms := [(15, .ref 1089539), (97, .keep)], obs := [(1049600, .keep), (1086465, .it 1049600 (.pair (.int .i64) (.pair (.int .i64) (.pair (.int .i64) (.int .i64)))) .bool), (1089539, .arr (.uniq) (.pair (.int .i64) (.pair (.int .i64) (.pair (.int .i64) (.int .i64)))))], fz := [] })], own := [], unroll := 4 }
theorem f96_run (a0 : List ((Int × Int × Int) × Int × Int)) (K : (List (Int × Int × Int × Int)) → Prop) : runF Try.prog f96_E f96_A 6 Try.f96 f96_e.doms f96_e.cods a0 K =
    (br (lenOk (a0.length))
    (LoopP (V := Int × List ((Int × Int × Int × Int) × Bool) × Unit) (fun again v => (fun (again1 : Int → List ((Int × Int × Int × Int) × Bool) → Prop) (v1_0 : Int) (v1_1 : List ((Int × Int × Int × Int) × Bool)) =>
    br (decide (v1_0 < ((a0.length) : Int)))
    (LoopP (V := Int × List ((Int × Int × Int × Int) × Bool) × Unit) (fun again v => (fun (again2 : Int → List ((Int × Int × Int × Int) × Bool) → Prop) (v2_0 : Int) (v2_1 : List ((Int × Int × Int × Int) × Bool)) =>
    br (decide (v2_0 < v1_0))
    (LoopP (V := Int × List ((Int × Int × Int × Int) × Bool) × Unit) (fun again v => (fun (again3 : Int → List ((Int × Int × Int × Int) × Bool) → Prop) (v3_0 : Int) (v3_1 : List ((Int × Int × Int × Int) × Bool)) =>
    br (decide (v3_0 < v2_0))
    (br (decide (0 ≤ v3_0) && decide (v3_0 < ((a0.length) : Int)))
    (br (decide (0 ≤ v2_0) && decide (v2_0 < ((a0.length) : Int)))
    (br (decide (0 ≤ v1_0) && decide (v1_0 < ((a0.length) : Int)))
    (br ((f104 ((((a0.getD v3_0.toNat ((0, (0, 0)), (0, 0))).1).1, (((a0.getD v3_0.toNat ((0, (0, 0)), (0, 0))).1).2)), ((((a0.getD v2_0.toNat ((0, (0, 0)), (0, 0))).1).1, (((a0.getD v2_0.toNat ((0, (0, 0)), (0, 0))).1).2)), (((a0.getD v1_0.toNat ((0, (0, 0)), (0, 0))).1).1, (((a0.getD v1_0.toNat ((0, (0, 0)), (0, 0))).1).2))))) == 0)
    (again3 (IntKind.i64.wrap (v3_0 + 1)) v3_1)
    (LoopP (V := Int × List ((Int × Int × Int × Int) × Bool) × Int × Int × Int × Int × Int × Int × Int × Int × Int × Int × Int × Int × Unit) (fun again v => (fun (again4 : Int → List ((Int × Int × Int × Int) × Bool) → Int → Int → Int → Int → Int → Int → Int → Int → Int → Int → Int → Int → Prop) (v4_0 : Int) (v4_1 : List ((Int × Int × Int × Int) × Bool)) (v4_2 : Int) (v4_3 : Int) (v4_4 : Int) (v4_5 : Int) (v4_6 : Int) (v4_7 : Int) (v4_8 : Int) (v4_9 : Int) (v4_10 : Int) (v4_11 : Int) (v4_12 : Int) (v4_13 : Int) =>
    br (decide (v4_0 < 8))
    (br ((IntKind.i64.wrap (((BitVec.ofInt IntKind.i64.bits (v4_0.fdiv (2 ^ 0)) &&& BitVec.ofInt IntKind.i64.bits 1).toNat : Nat))) == 1)
    (br ((IntKind.i64.wrap (((BitVec.ofInt IntKind.i64.bits (v4_0.fdiv (2 ^ 1)) &&& BitVec.ofInt IntKind.i64.bits 1).toNat : Nat))) == 1)
    (br ((IntKind.i64.wrap (((BitVec.ofInt IntKind.i64.bits (v4_0.fdiv (2 ^ 2)) &&& BitVec.ofInt IntKind.i64.bits 1).toNat : Nat))) == 1)
    (f101_pre ((((v4_2, (v4_3, v4_4)), ((v4_5, (v4_6, v4_7)), (v4_8, (v4_9, v4_10)))), (((a0.getD v3_0.toNat ((0, (0, 0)), (0, 0))).2).2, (((a0.getD v2_0.toNat ((0, (0, 0)), (0, 0))).2).2, ((a0.getD v1_0.toNat ((0, (0, 0)), (0, 0))).2).2))), 1) ∧
    br (f83 (a0, ((f101 ((((v4_2, (v4_3, v4_4)), ((v4_5, (v4_6, v4_7)), (v4_8, (v4_9, v4_10)))), (((a0.getD v3_0.toNat ((0, (0, 0)), (0, 0))).2).2, (((a0.getD v2_0.toNat ((0, (0, 0)), (0, 0))).2).2, ((a0.getD v1_0.toNat ((0, (0, 0)), (0, 0))).2).2))), 1)).1, (((f101 ((((v4_2, (v4_3, v4_4)), ((v4_5, (v4_6, v4_7)), (v4_8, (v4_9, v4_10)))), (((a0.getD v3_0.toNat ((0, (0, 0)), (0, 0))).2).2, (((a0.getD v2_0.toNat ((0, (0, 0)), (0, 0))).2).2, ((a0.getD v1_0.toNat ((0, (0, 0)), (0, 0))).2).2))), 1)).2).1, (((f101 ((((v4_2, (v4_3, v4_4)), ((v4_5, (v4_6, v4_7)), (v4_8, (v4_9, v4_10)))), (((a0.getD v3_0.toNat ((0, (0, 0)), (0, 0))).2).2, (((a0.getD v2_0.toNat ((0, (0, 0)), (0, 0))).2).2, ((a0.getD v1_0.toNat ((0, (0, 0)), (0, 0))).2).2))), 1)).2).2)))))
    (again4 (IntKind.i64.wrap (v4_0 + 1)) (mput (.pair (.int .i64) (.pair (.int .i64) (.pair (.int .i64) (.int .i64)))) .bool v4_1 ((f101 ((((v4_2, (v4_3, v4_4)), ((v4_5, (v4_6, v4_7)), (v4_8, (v4_9, v4_10)))), (((a0.getD v3_0.toNat ((0, (0, 0)), (0, 0))).2).2, (((a0.getD v2_0.toNat ((0, (0, 0)), (0, 0))).2).2, ((a0.getD v1_0.toNat ((0, (0, 0)), (0, 0))).2).2))), 1)).1, (((f101 ((((v4_2, (v4_3, v4_4)), ((v4_5, (v4_6, v4_7)), (v4_8, (v4_9, v4_10)))), (((a0.getD v3_0.toNat ((0, (0, 0)), (0, 0))).2).2, (((a0.getD v2_0.toNat ((0, (0, 0)), (0, 0))).2).2, ((a0.getD v1_0.toNat ((0, (0, 0)), (0, 0))).2).2))), 1)).2).1, (((f101 ((((v4_2, (v4_3, v4_4)), ((v4_5, (v4_6, v4_7)), (v4_8, (v4_9, v4_10)))), (((a0.getD v3_0.toNat ((0, (0, 0)), (0, 0))).2).2, (((a0.getD v2_0.toNat ((0, (0, 0)), (0, 0))).2).2, ((a0.getD v1_0.toNat ((0, (0, 0)), (0, 0))).2).2))), 1)).2).2))) true) v4_2 v4_3 v4_4 v4_5 v4_6 v4_7 v4_8 v4_9 v4_10 (((a0.getD v3_0.toNat ((0, (0, 0)), (0, 0))).2).2) (((a0.getD v2_0.toNat ((0, (0, 0)), (0, 0))).2).2) (((a0.getD v1_0.toNat ((0, (0, 0)), (0, 0))).2).2))
    (again4 (IntKind.i64.wrap (v4_0 + 1)) v4_1 v4_2 v4_3 v4_4 v4_5 v4_6 v4_7 v4_8 v4_9 v4_10 (((a0.getD v3_0.toNat ((0, (0, 0)), (0, 0))).2).2) (((a0.getD v2_0.toNat ((0, (0, 0)), (0, 0))).2).2) (((a0.getD v1_0.toNat ((0, (0, 0)), (0, 0))).2).2)))
    (f101_pre ((((v4_2, (v4_3, v4_4)), ((v4_5, (v4_6, v4_7)), (v4_8, (v4_9, v4_10)))), (((a0.getD v3_0.toNat ((0, (0, 0)), (0, 0))).2).2, (((a0.getD v2_0.toNat ((0, (0, 0)), (0, 0))).2).2, ((a0.getD v1_0.toNat ((0, (0, 0)), (0, 0))).2).1))), 1) ∧
    br (f83 (a0, ((f101 ((((v4_2, (v4_3, v4_4)), ((v4_5, (v4_6, v4_7)), (v4_8, (v4_9, v4_10)))), (((a0.getD v3_0.toNat ((0, (0, 0)), (0, 0))).2).2, (((a0.getD v2_0.toNat ((0, (0, 0)), (0, 0))).2).2, ((a0.getD v1_0.toNat ((0, (0, 0)), (0, 0))).2).1))), 1)).1, (((f101 ((((v4_2, (v4_3, v4_4)), ((v4_5, (v4_6, v4_7)), (v4_8, (v4_9, v4_10)))), (((a0.getD v3_0.toNat ((0, (0, 0)), (0, 0))).2).2, (((a0.getD v2_0.toNat ((0, (0, 0)), (0, 0))).2).2, ((a0.getD v1_0.toNat ((0, (0, 0)), (0, 0))).2).1))), 1)).2).1, (((f101 ((((v4_2, (v4_3, v4_4)), ((v4_5, (v4_6, v4_7)), (v4_8, (v4_9, v4_10)))), (((a0.getD v3_0.toNat ((0, (0, 0)), (0, 0))).2).2, (((a0.getD v2_0.toNat ((0, (0, 0)), (0, 0))).2).2, ((a0.getD v1_0.toNat ((0, (0, 0)), (0, 0))).2).1))), 1)).2).2)))))
    (again4 (IntKind.i64.wrap (v4_0 + 1)) (mput (.pair (.int .i64) (.pair (.int .i64) (.pair (.int .i64) (.int .i64)))) .bool v4_1 ((f101 ((((v4_2, (v4_3, v4_4)), ((v4_5, (v4_6, v4_7)), (v4_8, (v4_9, v4_10)))), (((a0.getD v3_0.toNat ((0, (0, 0)), (0, 0))).2).2, (((a0.getD v2_0.toNat ((0, (0, 0)), (0, 0))).2).2, ((a0.getD v1_0.toNat ((0, (0, 0)), (0, 0))).2).1))), 1)).1, (((f101 ((((v4_2, (v4_3, v4_4)), ((v4_5, (v4_6, v4_7)), (v4_8, (v4_9, v4_10)))), (((a0.getD v3_0.toNat ((0, (0, 0)), (0, 0))).2).2, (((a0.getD v2_0.toNat ((0, (0, 0)), (0, 0))).2).2, ((a0.getD v1_0.toNat ((0, (0, 0)), (0, 0))).2).1))), 1)).2).1, (((f101 ((((v4_2, (v4_3, v4_4)), ((v4_5, (v4_6, v4_7)), (v4_8, (v4_9, v4_10)))), (((a0.getD v3_0.toNat ((0, (0, 0)), (0, 0))).2).2, (((a0.getD v2_0.toNat ((0, (0, 0)), (0, 0))).2).2, ((a0.getD v1_0.toNat ((0, (0, 0)), (0, 0))).2).1))), 1)).2).2))) true) v4_2 v4_3 v4_4 v4_5 v4_6 v4_7 v4_8 v4_9 v4_10 (((a0.getD v3_0.toNat ((0, (0, 0)), (0, 0))).2).2) (((a0.getD v2_0.toNat ((0, (0, 0)), (0, 0))).2).2) (((a0.getD v1_0.toNat ((0, (0, 0)), (0, 0))).2).1))
    (again4 (IntKind.i64.wrap (v4_0 + 1)) v4_1 v4_2 v4_3 v4_4 v4_5 v4_6 v4_7 v4_8 v4_9 v4_10 (((a0.getD v3_0.toNat ((0, (0, 0)), (0, 0))).2).2) (((a0.getD v2_0.toNat ((0, (0, 0)), (0, 0))).2).2) (((a0.getD v1_0.toNat ((0, (0, 0)), (0, 0))).2).1))))
    (br ((IntKind.i64.wrap (((BitVec.ofInt IntKind.i64.bits (v4_0.fdiv (2 ^ 2)) &&& BitVec.ofInt IntKind.i64.bits 1).toNat : Nat))) == 1)
    (f101_pre ((((v4_2, (v4_3, v4_4)), ((v4_5, (v4_6, v4_7)), (v4_8, (v4_9, v4_10)))), (((a0.getD v3_0.toNat ((0, (0, 0)), (0, 0))).2).2, (((a0.getD v2_0.toNat ((0, (0, 0)), (0, 0))).2).1, ((a0.getD v1_0.toNat ((0, (0, 0)), (0, 0))).2).2))), 1) ∧
    br (f83 (a0, ((f101 ((((v4_2, (v4_3, v4_4)), ((v4_5, (v4_6, v4_7)), (v4_8, (v4_9, v4_10)))), (((a0.getD v3_0.toNat ((0, (0, 0)), (0, 0))).2).2, (((a0.getD v2_0.toNat ((0, (0, 0)), (0, 0))).2).1, ((a0.getD v1_0.toNat ((0, (0, 0)), (0, 0))).2).2))), 1)).1, (((f101 ((((v4_2, (v4_3, v4_4)), ((v4_5, (v4_6, v4_7)), (v4_8, (v4_9, v4_10)))), (((a0.getD v3_0.toNat ((0, (0, 0)), (0, 0))).2).2, (((a0.getD v2_0.toNat ((0, (0, 0)), (0, 0))).2).1, ((a0.getD v1_0.toNat ((0, (0, 0)), (0, 0))).2).2))), 1)).2).1, (((f101 ((((v4_2, (v4_3, v4_4)), ((v4_5, (v4_6, v4_7)), (v4_8, (v4_9, v4_10)))), (((a0.getD v3_0.toNat ((0, (0, 0)), (0, 0))).2).2, (((a0.getD v2_0.toNat ((0, (0, 0)), (0, 0))).2).1, ((a0.getD v1_0.toNat ((0, (0, 0)), (0, 0))).2).2))), 1)).2).2)))))
    (again4 (IntKind.i64.wrap (v4_0 + 1)) (mput (.pair (.int .i64) (.pair (.int .i64) (.pair (.int .i64) (.int .i64)))) .bool v4_1 ((f101 ((((v4_2, (v4_3, v4_4)), ((v4_5, (v4_6, v4_7)), (v4_8, (v4_9, v4_10)))), (((a0.getD v3_0.toNat ((0, (0, 0)), (0, 0))).2).2, (((a0.getD v2_0.toNat ((0, (0, 0)), (0, 0))).2).1, ((a0.getD v1_0.toNat ((0, (0, 0)), (0, 0))).2).2))), 1)).1, (((f101 ((((v4_2, (v4_3, v4_4)), ((v4_5, (v4_6, v4_7)), (v4_8, (v4_9, v4_10)))), (((a0.getD v3_0.toNat ((0, (0, 0)), (0, 0))).2).2, (((a0.getD v2_0.toNat ((0, (0, 0)), (0, 0))).2).1, ((a0.getD v1_0.toNat ((0, (0, 0)), (0, 0))).2).2))), 1)).2).1, (((f101 ((((v4_2, (v4_3, v4_4)), ((v4_5, (v4_6, v4_7)), (v4_8, (v4_9, v4_10)))), (((a0.getD v3_0.toNat ((0, (0, 0)), (0, 0))).2).2, (((a0.getD v2_0.toNat ((0, (0, 0)), (0, 0))).2).1, ((a0.getD v1_0.toNat ((0, (0, 0)), (0, 0))).2).2))), 1)).2).2))) true) v4_2 v4_3 v4_4 v4_5 v4_6 v4_7 v4_8 v4_9 v4_10 (((a0.getD v3_0.toNat ((0, (0, 0)), (0, 0))).2).2) (((a0.getD v2_0.toNat ((0, (0, 0)), (0, 0))).2).1) (((a0.getD v1_0.toNat ((0, (0, 0)), (0, 0))).2).2))
    (again4 (IntKind.i64.wrap (v4_0 + 1)) v4_1 v4_2 v4_3 v4_4 v4_5 v4_6 v4_7 v4_8 v4_9 v4_10 (((a0.getD v3_0.toNat ((0, (0, 0)), (0, 0))).2).2) (((a0.getD v2_0.toNat ((0, (0, 0)), (0, 0))).2).1) (((a0.getD v1_0.toNat ((0, (0, 0)), (0, 0))).2).2)))
    (f101_pre ((((v4_2, (v4_3, v4_4)), ((v4_5, (v4_6, v4_7)), (v4_8, (v4_9, v4_10)))), (((a0.getD v3_0.toNat ((0, (0, 0)), (0, 0))).2).2, (((a0.getD v2_0.toNat ((0, (0, 0)), (0, 0))).2).1, ((a0.getD v1_0.toNat ((0, (0, 0)), (0, 0))).2).1))), 1) ∧
    br (f83 (a0, ((f101 ((((v4_2, (v4_3, v4_4)), ((v4_5, (v4_6, v4_7)), (v4_8, (v4_9, v4_10)))), (((a0.getD v3_0.toNat ((0, (0, 0)), (0, 0))).2).2, (((a0.getD v2_0.toNat ((0, (0, 0)), (0, 0))).2).1, ((a0.getD v1_0.toNat ((0, (0, 0)), (0, 0))).2).1))), 1)).1, (((f101 ((((v4_2, (v4_3, v4_4)), ((v4_5, (v4_6, v4_7)), (v4_8, (v4_9, v4_10)))), (((a0.getD v3_0.toNat ((0, (0, 0)), (0, 0))).2).2, (((a0.getD v2_0.toNat ((0, (0, 0)), (0, 0))).2).1, ((a0.getD v1_0.toNat ((0, (0, 0)), (0, 0))).2).1))), 1)).2).1, (((f101 ((((v4_2, (v4_3, v4_4)), ((v4_5, (v4_6, v4_7)), (v4_8, (v4_9, v4_10)))), (((a0.getD v3_0.toNat ((0, (0, 0)), (0, 0))).2).2, (((a0.getD v2_0.toNat ((0, (0, 0)), (0, 0))).2).1, ((a0.getD v1_0.toNat ((0, (0, 0)), (0, 0))).2).1))), 1)).2).2)))))
    (again4 (IntKind.i64.wrap (v4_0 + 1)) (mput (.pair (.int .i64) (.pair (.int .i64) (.pair (.int .i64) (.int .i64)))) .bool v4_1 ((f101 ((((v4_2, (v4_3, v4_4)), ((v4_5, (v4_6, v4_7)), (v4_8, (v4_9, v4_10)))), (((a0.getD v3_0.toNat ((0, (0, 0)), (0, 0))).2).2, (((a0.getD v2_0.toNat ((0, (0, 0)), (0, 0))).2).1, ((a0.getD v1_0.toNat ((0, (0, 0)), (0, 0))).2).1))), 1)).1, (((f101 ((((v4_2, (v4_3, v4_4)), ((v4_5, (v4_6, v4_7)), (v4_8, (v4_9, v4_10)))), (((a0.getD v3_0.toNat ((0, (0, 0)), (0, 0))).2).2, (((a0.getD v2_0.toNat ((0, (0, 0)), (0, 0))).2).1, ((a0.getD v1_0.toNat ((0, (0, 0)), (0, 0))).2).1))), 1)).2).1, (((f101 ((((v4_2, (v4_3, v4_4)), ((v4_5, (v4_6, v4_7)), (v4_8, (v4_9, v4_10)))), (((a0.getD v3_0.toNat ((0, (0, 0)), (0, 0))).2).2, (((a0.getD v2_0.toNat ((0, (0, 0)), (0, 0))).2).1, ((a0.getD v1_0.toNat ((0, (0, 0)), (0, 0))).2).1))), 1)).2).2))) true) v4_2 v4_3 v4_4 v4_5 v4_6 v4_7 v4_8 v4_9 v4_10 (((a0.getD v3_0.toNat ((0, (0, 0)), (0, 0))).2).2) (((a0.getD v2_0.toNat ((0, (0, 0)), (0, 0))).2).1) (((a0.getD v1_0.toNat ((0, (0, 0)), (0, 0))).2).1))
    (again4 (IntKind.i64.wrap (v4_0 + 1)) v4_1 v4_2 v4_3 v4_4 v4_5 v4_6 v4_7 v4_8 v4_9 v4_10 (((a0.getD v3_0.toNat ((0, (0, 0)), (0, 0))).2).2) (((a0.getD v2_0.toNat ((0, (0, 0)), (0, 0))).2).1) (((a0.getD v1_0.toNat ((0, (0, 0)), (0, 0))).2).1)))))
    (br ((IntKind.i64.wrap (((BitVec.ofInt IntKind.i64.bits (v4_0.fdiv (2 ^ 1)) &&& BitVec.ofInt IntKind.i64.bits 1).toNat : Nat))) == 1)
    (br ((IntKind.i64.wrap (((BitVec.ofInt IntKind.i64.bits (v4_0.fdiv (2 ^ 2)) &&& BitVec.ofInt IntKind.i64.bits 1).toNat : Nat))) == 1)
    (f101_pre ((((v4_2, (v4_3, v4_4)), ((v4_5, (v4_6, v4_7)), (v4_8, (v4_9, v4_10)))), (((a0.getD v3_0.toNat ((0, (0, 0)), (0, 0))).2).1, (((a0.getD v2_0.toNat ((0, (0, 0)), (0, 0))).2).2, ((a0.getD v1_0.toNat ((0, (0, 0)), (0, 0))).2).2))), 1) ∧
    br (f83 (a0, ((f101 ((((v4_2, (v4_3, v4_4)), ((v4_5, (v4_6, v4_7)), (v4_8, (v4_9, v4_10)))), (((a0.getD v3_0.toNat ((0, (0, 0)), (0, 0))).2).1, (((a0.getD v2_0.toNat ((0, (0, 0)), (0, 0))).2).2, ((a0.getD v1_0.toNat ((0, (0, 0)), (0, 0))).2).2))), 1)).1, (((f101 ((((v4_2, (v4_3, v4_4)), ((v4_5, (v4_6, v4_7)), (v4_8, (v4_9, v4_10)))), (((a0.getD v3_0.toNat ((0, (0, 0)), (0, 0))).2).1, (((a0.getD v2_0.toNat ((0, (0, 0)), (0, 0))).2).2, ((a0.getD v1_0.toNat ((0, (0, 0)), (0, 0))).2).2))), 1)).2).1, (((f101 ((((v4_2, (v4_3, v4_4)), ((v4_5, (v4_6, v4_7)), (v4_8, (v4_9, v4_10)))), (((a0.getD v3_0.toNat ((0, (0, 0)), (0, 0))).2).1, (((a0.getD v2_0.toNat ((0, (0, 0)), (0, 0))).2).2, ((a0.getD v1_0.toNat ((0, (0, 0)), (0, 0))).2).2))), 1)).2).2)))))
    (again4 (IntKind.i64.wrap (v4_0 + 1)) (mput (.pair (.int .i64) (.pair (.int .i64) (.pair (.int .i64) (.int .i64)))) .bool v4_1 ((f101 ((((v4_2, (v4_3, v4_4)), ((v4_5, (v4_6, v4_7)), (v4_8, (v4_9, v4_10)))), (((a0.getD v3_0.toNat ((0, (0, 0)), (0, 0))).2).1, (((a0.getD v2_0.toNat ((0, (0, 0)), (0, 0))).2).2, ((a0.getD v1_0.toNat ((0, (0, 0)), (0, 0))).2).2))), 1)).1, (((f101 ((((v4_2, (v4_3, v4_4)), ((v4_5, (v4_6, v4_7)), (v4_8, (v4_9, v4_10)))), (((a0.getD v3_0.toNat ((0, (0, 0)), (0, 0))).2).1, (((a0.getD v2_0.toNat ((0, (0, 0)), (0, 0))).2).2, ((a0.getD v1_0.toNat ((0, (0, 0)), (0, 0))).2).2))), 1)).2).1, (((f101 ((((v4_2, (v4_3, v4_4)), ((v4_5, (v4_6, v4_7)), (v4_8, (v4_9, v4_10)))), (((a0.getD v3_0.toNat ((0, (0, 0)), (0, 0))).2).1, (((a0.getD v2_0.toNat ((0, (0, 0)), (0, 0))).2).2, ((a0.getD v1_0.toNat ((0, (0, 0)), (0, 0))).2).2))), 1)).2).2))) true) v4_2 v4_3 v4_4 v4_5 v4_6 v4_7 v4_8 v4_9 v4_10 (((a0.getD v3_0.toNat ((0, (0, 0)), (0, 0))).2).1) (((a0.getD v2_0.toNat ((0, (0, 0)), (0, 0))).2).2) (((a0.getD v1_0.toNat ((0, (0, 0)), (0, 0))).2).2))
    (again4 (IntKind.i64.wrap (v4_0 + 1)) v4_1 v4_2 v4_3 v4_4 v4_5 v4_6 v4_7 v4_8 v4_9 v4_10 (((a0.getD v3_0.toNat ((0, (0, 0)), (0, 0))).2).1) (((a0.getD v2_0.toNat ((0, (0, 0)), (0, 0))).2).2) (((a0.getD v1_0.toNat ((0, (0, 0)), (0, 0))).2).2)))
    (f101_pre ((((v4_2, (v4_3, v4_4)), ((v4_5, (v4_6, v4_7)), (v4_8, (v4_9, v4_10)))), (((a0.getD v3_0.toNat ((0, (0, 0)), (0, 0))).2).1, (((a0.getD v2_0.toNat ((0, (0, 0)), (0, 0))).2).2, ((a0.getD v1_0.toNat ((0, (0, 0)), (0, 0))).2).1))), 1) ∧
    br (f83 (a0, ((f101 ((((v4_2, (v4_3, v4_4)), ((v4_5, (v4_6, v4_7)), (v4_8, (v4_9, v4_10)))), (((a0.getD v3_0.toNat ((0, (0, 0)), (0, 0))).2).1, (((a0.getD v2_0.toNat ((0, (0, 0)), (0, 0))).2).2, ((a0.getD v1_0.toNat ((0, (0, 0)), (0, 0))).2).1))), 1)).1, (((f101 ((((v4_2, (v4_3, v4_4)), ((v4_5, (v4_6, v4_7)), (v4_8, (v4_9, v4_10)))), (((a0.getD v3_0.toNat ((0, (0, 0)), (0, 0))).2).1, (((a0.getD v2_0.toNat ((0, (0, 0)), (0, 0))).2).2, ((a0.getD v1_0.toNat ((0, (0, 0)), (0, 0))).2).1))), 1)).2).1, (((f101 ((((v4_2, (v4_3, v4_4)), ((v4_5, (v4_6, v4_7)), (v4_8, (v4_9, v4_10)))), (((a0.getD v3_0.toNat ((0, (0, 0)), (0, 0))).2).1, (((a0.getD v2_0.toNat ((0, (0, 0)), (0, 0))).2).2, ((a0.getD v1_0.toNat ((0, (0, 0)), (0, 0))).2).1))), 1)).2).2)))))
    (again4 (IntKind.i64.wrap (v4_0 + 1)) (mput (.pair (.int .i64) (.pair (.int .i64) (.pair (.int .i64) (.int .i64)))) .bool v4_1 ((f101 ((((v4_2, (v4_3, v4_4)), ((v4_5, (v4_6, v4_7)), (v4_8, (v4_9, v4_10)))), (((a0.getD v3_0.toNat ((0, (0, 0)), (0, 0))).2).1, (((a0.getD v2_0.toNat ((0, (0, 0)), (0, 0))).2).2, ((a0.getD v1_0.toNat ((0, (0, 0)), (0, 0))).2).1))), 1)).1, (((f101 ((((v4_2, (v4_3, v4_4)), ((v4_5, (v4_6, v4_7)), (v4_8, (v4_9, v4_10)))), (((a0.getD v3_0.toNat ((0, (0, 0)), (0, 0))).2).1, (((a0.getD v2_0.toNat ((0, (0, 0)), (0, 0))).2).2, ((a0.getD v1_0.toNat ((0, (0, 0)), (0, 0))).2).1))), 1)).2).1, (((f101 ((((v4_2, (v4_3, v4_4)), ((v4_5, (v4_6, v4_7)), (v4_8, (v4_9, v4_10)))), (((a0.getD v3_0.toNat ((0, (0, 0)), (0, 0))).2).1, (((a0.getD v2_0.toNat ((0, (0, 0)), (0, 0))).2).2, ((a0.getD v1_0.toNat ((0, (0, 0)), (0, 0))).2).1))), 1)).2).2))) true) v4_2 v4_3 v4_4 v4_5 v4_6 v4_7 v4_8 v4_9 v4_10 (((a0.getD v3_0.toNat ((0, (0, 0)), (0, 0))).2).1) (((a0.getD v2_0.toNat ((0, (0, 0)), (0, 0))).2).2) (((a0.getD v1_0.toNat ((0, (0, 0)), (0, 0))).2).1))
    (again4 (IntKind.i64.wrap (v4_0 + 1)) v4_1 v4_2 v4_3 v4_4 v4_5 v4_6 v4_7 v4_8 v4_9 v4_10 (((a0.getD v3_0.toNat ((0, (0, 0)), (0, 0))).2).1) (((a0.getD v2_0.toNat ((0, (0, 0)), (0, 0))).2).2) (((a0.getD v1_0.toNat ((0, (0, 0)), (0, 0))).2).1))))
    (br ((IntKind.i64.wrap (((BitVec.ofInt IntKind.i64.bits (v4_0.fdiv (2 ^ 2)) &&& BitVec.ofInt IntKind.i64.bits 1).toNat : Nat))) == 1)
    (f101_pre ((((v4_2, (v4_3, v4_4)), ((v4_5, (v4_6, v4_7)), (v4_8, (v4_9, v4_10)))), (((a0.getD v3_0.toNat ((0, (0, 0)), (0, 0))).2).1, (((a0.getD v2_0.toNat ((0, (0, 0)), (0, 0))).2).1, ((a0.getD v1_0.toNat ((0, (0, 0)), (0, 0))).2).2))), 1) ∧
    br (f83 (a0, ((f101 ((((v4_2, (v4_3, v4_4)), ((v4_5, (v4_6, v4_7)), (v4_8, (v4_9, v4_10)))), (((a0.getD v3_0.toNat ((0, (0, 0)), (0, 0))).2).1, (((a0.getD v2_0.toNat ((0, (0, 0)), (0, 0))).2).1, ((a0.getD v1_0.toNat ((0, (0, 0)), (0, 0))).2).2))), 1)).1, (((f101 ((((v4_2, (v4_3, v4_4)), ((v4_5, (v4_6, v4_7)), (v4_8, (v4_9, v4_10)))), (((a0.getD v3_0.toNat ((0, (0, 0)), (0, 0))).2).1, (((a0.getD v2_0.toNat ((0, (0, 0)), (0, 0))).2).1, ((a0.getD v1_0.toNat ((0, (0, 0)), (0, 0))).2).2))), 1)).2).1, (((f101 ((((v4_2, (v4_3, v4_4)), ((v4_5, (v4_6, v4_7)), (v4_8, (v4_9, v4_10)))), (((a0.getD v3_0.toNat ((0, (0, 0)), (0, 0))).2).1, (((a0.getD v2_0.toNat ((0, (0, 0)), (0, 0))).2).1, ((a0.getD v1_0.toNat ((0, (0, 0)), (0, 0))).2).2))), 1)).2).2)))))
    (again4 (IntKind.i64.wrap (v4_0 + 1)) (mput (.pair (.int .i64) (.pair (.int .i64) (.pair (.int .i64) (.int .i64)))) .bool v4_1 ((f101 ((((v4_2, (v4_3, v4_4)), ((v4_5, (v4_6, v4_7)), (v4_8, (v4_9, v4_10)))), (((a0.getD v3_0.toNat ((0, (0, 0)), (0, 0))).2).1, (((a0.getD v2_0.toNat ((0, (0, 0)), (0, 0))).2).1, ((a0.getD v1_0.toNat ((0, (0, 0)), (0, 0))).2).2))), 1)).1, (((f101 ((((v4_2, (v4_3, v4_4)), ((v4_5, (v4_6, v4_7)), (v4_8, (v4_9, v4_10)))), (((a0.getD v3_0.toNat ((0, (0, 0)), (0, 0))).2).1, (((a0.getD v2_0.toNat ((0, (0, 0)), (0, 0))).2).1, ((a0.getD v1_0.toNat ((0, (0, 0)), (0, 0))).2).2))), 1)).2).1, (((f101 ((((v4_2, (v4_3, v4_4)), ((v4_5, (v4_6, v4_7)), (v4_8, (v4_9, v4_10)))), (((a0.getD v3_0.toNat ((0, (0, 0)), (0, 0))).2).1, (((a0.getD v2_0.toNat ((0, (0, 0)), (0, 0))).2).1, ((a0.getD v1_0.toNat ((0, (0, 0)), (0, 0))).2).2))), 1)).2).2))) true) v4_2 v4_3 v4_4 v4_5 v4_6 v4_7 v4_8 v4_9 v4_10 (((a0.getD v3_0.toNat ((0, (0, 0)), (0, 0))).2).1) (((a0.getD v2_0.toNat ((0, (0, 0)), (0, 0))).2).1) (((a0.getD v1_0.toNat ((0, (0, 0)), (0, 0))).2).2))
    (again4 (IntKind.i64.wrap (v4_0 + 1)) v4_1 v4_2 v4_3 v4_4 v4_5 v4_6 v4_7 v4_8 v4_9 v4_10 (((a0.getD v3_0.toNat ((0, (0, 0)), (0, 0))).2).1) (((a0.getD v2_0.toNat ((0, (0, 0)), (0, 0))).2).1) (((a0.getD v1_0.toNat ((0, (0, 0)), (0, 0))).2).2)))
    (f101_pre ((((v4_2, (v4_3, v4_4)), ((v4_5, (v4_6, v4_7)), (v4_8, (v4_9, v4_10)))), (((a0.getD v3_0.toNat ((0, (0, 0)), (0, 0))).2).1, (((a0.getD v2_0.toNat ((0, (0, 0)), (0, 0))).2).1, ((a0.getD v1_0.toNat ((0, (0, 0)), (0, 0))).2).1))), 1) ∧
    br (f83 (a0, ((f101 ((((v4_2, (v4_3, v4_4)), ((v4_5, (v4_6, v4_7)), (v4_8, (v4_9, v4_10)))), (((a0.getD v3_0.toNat ((0, (0, 0)), (0, 0))).2).1, (((a0.getD v2_0.toNat ((0, (0, 0)), (0, 0))).2).1, ((a0.getD v1_0.toNat ((0, (0, 0)), (0, 0))).2).1))), 1)).1, (((f101 ((((v4_2, (v4_3, v4_4)), ((v4_5, (v4_6, v4_7)), (v4_8, (v4_9, v4_10)))), (((a0.getD v3_0.toNat ((0, (0, 0)), (0, 0))).2).1, (((a0.getD v2_0.toNat ((0, (0, 0)), (0, 0))).2).1, ((a0.getD v1_0.toNat ((0, (0, 0)), (0, 0))).2).1))), 1)).2).1, (((f101 ((((v4_2, (v4_3, v4_4)), ((v4_5, (v4_6, v4_7)), (v4_8, (v4_9, v4_10)))), (((a0.getD v3_0.toNat ((0, (0, 0)), (0, 0))).2).1, (((a0.getD v2_0.toNat ((0, (0, 0)), (0, 0))).2).1, ((a0.getD v1_0.toNat ((0, (0, 0)), (0, 0))).2).1))), 1)).2).2)))))
    (again4 (IntKind.i64.wrap (v4_0 + 1)) (mput (.pair (.int .i64) (.pair (.int .i64) (.pair (.int .i64) (.int .i64)))) .bool v4_1 ((f101 ((((v4_2, (v4_3, v4_4)), ((v4_5, (v4_6, v4_7)), (v4_8, (v4_9, v4_10)))), (((a0.getD v3_0.toNat ((0, (0, 0)), (0, 0))).2).1, (((a0.getD v2_0.toNat ((0, (0, 0)), (0, 0))).2).1, ((a0.getD v1_0.toNat ((0, (0, 0)), (0, 0))).2).1))), 1)).1, (((f101 ((((v4_2, (v4_3, v4_4)), ((v4_5, (v4_6, v4_7)), (v4_8, (v4_9, v4_10)))), (((a0.getD v3_0.toNat ((0, (0, 0)), (0, 0))).2).1, (((a0.getD v2_0.toNat ((0, (0, 0)), (0, 0))).2).1, ((a0.getD v1_0.toNat ((0, (0, 0)), (0, 0))).2).1))), 1)).2).1, (((f101 ((((v4_2, (v4_3, v4_4)), ((v4_5, (v4_6, v4_7)), (v4_8, (v4_9, v4_10)))), (((a0.getD v3_0.toNat ((0, (0, 0)), (0, 0))).2).1, (((a0.getD v2_0.toNat ((0, (0, 0)), (0, 0))).2).1, ((a0.getD v1_0.toNat ((0, (0, 0)), (0, 0))).2).1))), 1)).2).2))) true) v4_2 v4_3 v4_4 v4_5 v4_6 v4_7 v4_8 v4_9 v4_10 (((a0.getD v3_0.toNat ((0, (0, 0)), (0, 0))).2).1) (((a0.getD v2_0.toNat ((0, (0, 0)), (0, 0))).2).1) (((a0.getD v1_0.toNat ((0, (0, 0)), (0, 0))).2).1))
    (again4 (IntKind.i64.wrap (v4_0 + 1)) v4_1 v4_2 v4_3 v4_4 v4_5 v4_6 v4_7 v4_8 v4_9 v4_10 (((a0.getD v3_0.toNat ((0, (0, 0)), (0, 0))).2).1) (((a0.getD v2_0.toNat ((0, (0, 0)), (0, 0))).2).1) (((a0.getD v1_0.toNat ((0, (0, 0)), (0, 0))).2).1))))))
    (again3 (IntKind.i64.wrap (v3_0 + 1)) v4_1))
    (fun v4_0 v4_1 v4_2 v4_3 v4_4 v4_5 v4_6 v4_7 v4_8 v4_9 v4_10 v4_11 v4_12 v4_13 => again (v4_0, v4_1, v4_2, v4_3, v4_4, v4_5, v4_6, v4_7, v4_8, v4_9, v4_10, v4_11, v4_12, v4_13, ())) v.1 v.2.1 v.2.2.1 v.2.2.2.1 v.2.2.2.2.1 v.2.2.2.2.2.1 v.2.2.2.2.2.2.1 v.2.2.2.2.2.2.2.1 v.2.2.2.2.2.2.2.2.1 v.2.2.2.2.2.2.2.2.2.1 v.2.2.2.2.2.2.2.2.2.2.1 v.2.2.2.2.2.2.2.2.2.2.2.1 v.2.2.2.2.2.2.2.2.2.2.2.2.1 v.2.2.2.2.2.2.2.2.2.2.2.2.2.1) (0, v3_1, ((a0.getD v3_0.toNat ((0, (0, 0)), (0, 0))).1).1, (((a0.getD v3_0.toNat ((0, (0, 0)), (0, 0))).1).2).1, (((a0.getD v3_0.toNat ((0, (0, 0)), (0, 0))).1).2).2, ((a0.getD v2_0.toNat ((0, (0, 0)), (0, 0))).1).1, (((a0.getD v2_0.toNat ((0, (0, 0)), (0, 0))).1).2).1, (((a0.getD v2_0.toNat ((0, (0, 0)), (0, 0))).1).2).2, ((a0.getD v1_0.toNat ((0, (0, 0)), (0, 0))).1).1, (((a0.getD v1_0.toNat ((0, (0, 0)), (0, 0))).1).2).1, (((a0.getD v1_0.toNat ((0, (0, 0)), (0, 0))).1).2).2, 0, 0, 0, ())))
    False)
    False)
    False)
    (again2 (IntKind.i64.wrap (v2_0 + 1)) v3_1))
    (fun v3_0 v3_1 => again (v3_0, v3_1, ())) v.1 v.2.1) (0, v2_1, ()))
    (again1 (IntKind.i64.wrap (v1_0 + 1)) v2_1))
    (fun v2_0 v2_1 => again (v2_0, v2_1, ())) v.1 v.2.1) (0, v1_1, ()))
    (LoopP (V := List ((Int × Int × Int × Int) × Bool) × List (Int × Int × Int × Int) × Unit) (fun again v => (fun (again5 : List ((Int × Int × Int × Int) × Bool) → List (Int × Int × Int × Int) → Prop) (v5_0 : List ((Int × Int × Int × Int) × Bool)) (v5_1 : List (Int × Int × Int × Int)) =>
    nextP (v5_0.length)
    (f128_pre v5_1 ∧
    K (f128 v5_1))
    (fun w3 =>
    br (roomOk ((v5_1.length) + 1) 32)
    (again5 (v5_0.eraseIdx w3) (v5_1 ++ ([(((v5_0.getD w3 ((0, (0, (0, 0))), false)).1).1, ((((v5_0.getD w3 ((0, (0, (0, 0))), false)).1).2).1, ((((v5_0.getD w3 ((0, (0, (0, 0))), false)).1).2).2)))] : List (Int × Int × Int × Int))))
    False))
    (fun v5_0 v5_1 => again (v5_0, v5_1, ())) v.1 v.2.1) (v1_1, ([] : List (Int × Int × Int × Int)), ())))
    (fun v1_0 v1_1 => again (v1_0, v1_1, ())) v.1 v.2.1) (0, ([] : List ((Int × Int × Int × Int) × Bool)), ()))
    True) := by kernel_rfl
theorem f96_t (a0 : List ((Int × Int × Int) × Int × Int)) (hpre : f96_pre a0) (K : (List (Int × Int × Int × Int)) → Prop) (hK : ∀ y : List (Int × Int × Int × Int), y = f96 a0 → K y) : RunF Try.prog f96_E f96_A 6 Try.f96 f96_e.doms f96_e.cods a0 K := by
  refine ⟨?_⟩
  rw [f96_run a0 K]
  have hle : RdLe a0 := hpre
  rw [br_true_, lenOk_iff]
  intro hl
  -- the walk over the map
  have walk : ∀ m : Kn, m = putAll [] (cands a0) → (LoopP (V := List ((Int × Int × Int × Int) × Bool) × List (Int × Int × Int × Int) × Unit) (fun again v => (fun (again5 : List ((Int × Int × Int × Int) × Bool) → List (Int × Int × Int × Int) → Prop) (v5_0 : List ((Int × Int × Int × Int) × Bool)) (v5_1 : List (Int × Int × Int × Int)) =>
      nextP (v5_0.length) (f128_pre v5_1 ∧ K (f128 v5_1)) (fun w3 => br (roomOk ((v5_1.length) + 1) 32) (again5 (v5_0.eraseIdx w3) (v5_1 ++ ([(v5_0.getD w3 ((0, (0, (0, 0))), false)).1] : List (Int × Int × Int × Int)))) False))
      (fun v5_0 v5_1 => again (v5_0, v5_1, ())) v.1 v.2.1) (m, ([] : List (Int × Int × Int × Int)), ())) := fun m hm => by
    have hk := putAll_len (cands a0) []
    have hkl : m.length ≤ 4096 := by rw [hm]; have := cands_len hle; simp only [List.length_nil] at hk; omega
    refine LoopP.of (fun q : List ((Int × Int × Int × Int) × Bool) × List (Int × Int × Int × Int) × Unit => (q.2.1 ++ q.1.map (·.1)).Perm (m.map (·.1))) (fun q => q.1.length) (fun again q hq hag => ?_) (by simp)
    obtain ⟨left, out, u⟩ := q
    dsimp only at hq ⊢
    have hlen : out.length + left.length = m.length := by have := hq.length_eq; simpa using this
    refine ⟨fun h0 => ?_, fun i hi => ?_⟩
    · have h0 : left = [] := List.length_eq_zero_iff.1 h0
      subst h0
      simp only [List.map_nil, List.append_nil] at hq
      have hmem : ∀ x, x ∈ out ↔ x ∈ cands a0 := fun x => by
        rw [hq.mem_iff, hm, putAll_mem]; simp
      have hnd : out.Nodup := by rw [hq.nodup_iff, hm]; exact putAll_nodup _ _ (by simp)
      have hok : ∀ v ∈ out, VOK v := fun v hv => by
        obtain ⟨h1, h2, h3⟩ := cands_ok hle v ((hmem v).1 hv)
        exact ⟨h1, by omega, ⟨by have := h3.1; omega, by have := h3.2.1; omega, by have := h3.2.2; omega⟩⟩
      refine ⟨⟨by simp only [List.length_nil] at hlen; omega, hnd, hok⟩, hK _ ?_⟩
      show sortW out = vtx a0
      exact asc_eq (sortW_ok fun w hw => (hok w hw).ok) (fun w hw => (cands_ok hle w (vtx_mem.1 hw)).1) (sortW_asc fun w hw => (hok w hw).ok) (vtx_asc hle) fun x => by rw [sortW_mem, vtx_mem, hmem]
    · refine br_must (by rw [roomOk_iff]; omega) (hag _ ?_ ?_)
      · dsimp only
        refine List.Perm.trans ?_ hq
        rw [List.append_assoc]
        refine List.Perm.append_left _ ?_
        rw [getD_lt hi]
        exact (erase_perm hi).map (·.1)
      · simp only [List.length_eraseIdx, if_pos hi]; omega
  -- a step of the loop over the ends
  refine LoopP.up a0.length (fun i (v : Kn × Unit) => v.1 = putAll [] ((List.range i.toNat).flatMap (candC a0))) (fun againC ci vC hc0 hcn hIC hagC => ?_) (by omega) rfl
  obtain ⟨mC, uC⟩ := vC
  dsimp only at hIC ⊢
  obtain ⟨c, rfl⟩ := Int.eq_ofNat_of_zero_le hc0
  refine br_if (fun hc => ?_) fun hc => ?_
  rotate_left
  · have : c = a0.length := by omega
    subst this
    exact walk mC (by rw [hIC]; rfl)
  have hc : c < a0.length := by omega
  rw [wr (n := (c : Int) + 1) (by omega) (by omega)]
  refine LoopP.up c (fun i (v : Kn × Unit) => v.1 = putAll mC ((List.range i.toNat).flatMap (candB a0 c))) (fun againB bi vB hb0 hbn hIB hagB => ?_) (by omega) rfl
  obtain ⟨mB, uB⟩ := vB
  dsimp only at hIB ⊢
  obtain ⟨b, rfl⟩ := Int.eq_ofNat_of_zero_le hb0
  refine br_if (fun hb => ?_) fun hb => ?_
  rotate_left
  · have : b = c := by omega
    subst this
    refine hagC (mB, ()) (by omega) ?_
    dsimp only
    rw [show ((b : Int) + 1).toNat = b + 1 by omega, putAll_snoc, hIB, hIC]
    rfl
  have hb : b < c := by omega
  rw [wr (n := (b : Int) + 1) (by omega) (by omega)]
  refine LoopP.up b (fun i (v : Kn × Unit) => v.1 = putAll mB ((List.range i.toNat).flatMap (candA a0 c b))) (fun againA ai vA ha0 han hIA hagA => ?_) (by omega) rfl
  obtain ⟨mA, uA⟩ := vA
  dsimp only at hIA ⊢
  obtain ⟨a, rfl⟩ := Int.eq_ofNat_of_zero_le ha0
  refine br_if (fun ha => ?_) fun ha => ?_
  rotate_left
  · have : a = b := by omega
    subst this
    refine hagB (mA, ()) (by omega) ?_
    dsimp only
    rw [show ((a : Int) + 1).toNat = a + 1 by omega, putAll_snoc, hIA, hIB]
    rfl
  have ha : a < b := by omega
  rw [wr (n := (a : Int) + 1) (by omega) (by omega)]
  simp only [Int.toNat_natCast] at *
  refine br_must (inb (by omega) (by omega)) (br_must (inb (by omega) (by omega)) (br_must (inb (by omega) (by omega)) ?_))
  have hs : ∀ e, Sml (rows3 a0 a b c) (ends3 a0 a b c e) := fun e => hle.sml (by omega) (by omega) hc e
  have hnx : ∀ m : Kn, m = putAll mA (candA a0 c b a) → againA ((a : Int) + 1, m, ()) := fun m hm => by
    refine hagA (m, ()) (by omega) ?_
    dsimp only
    rw [show ((a : Int) + 1).toNat = a + 1 by omega, putAll_snoc, hm, hIA]
  show br (w64 (det3 (rows3 a0 a b c)) == 0) _ _
  refine br_two (fun hd => hnx _ ?_) fun hd => ?_
  · have hd := beq_iff_eq.1 hd
    rw [candA, if_pos hd]; rfl
  have hd := beq_eq_false_iff_ne.1 hd
  have hdet : det3 (rows3 a0 a b c) ≠ 0 := by rwa [(hs 0).w] at hd
  have hcA : candA a0 c b a = (List.range 8).flatMap (candE a0 a b c) := by rw [candA, if_neg hd]
  have hpre1 : ∀ e, f101_pre ((rows3 a0 a b c, ends3 a0 a b c e), 1) := fun e => by
    have hs := hs e
    obtain ⟨k1, k2, k3⟩ := hs.cs
    unfold f101_pre
    simp only [hs.solP, hs.solD]
    exact ⟨fit_le hs.det (by omega), ⟨fit_le k1 (by omega), fit_le k2 (by omega), fit_le k3 (by omega)⟩, hdet⟩
  refine LoopP.of (fun q => ∃ (e : Nat) (x y z : Int), e ≤ 8 ∧ q = ((e : Int), putAll mA ((List.range e).flatMap (candE a0 a b c)), (a0.getD a rd0).1.1, (a0.getD a rd0).1.2.1, (a0.getD a rd0).1.2.2, (a0.getD b rd0).1.1, (a0.getD b rd0).1.2.1, (a0.getD b rd0).1.2.2, (a0.getD c rd0).1.1, (a0.getD c rd0).1.2.1, (a0.getD c rd0).1.2.2, x, y, z, ())) (fun q => (8 - q.1).toNat) (fun again4 q hq hag4 => ?_) ⟨0, 0, 0, 0, by omega, rfl⟩
  obtain ⟨e, x0, y0, z0, he, rfl⟩ := hq
  dsimp only
  refine br_if (fun he8 => ?_) fun he8 => hnx _ ?_
  rotate_left
  · have : e = 8 := by omega
    rw [hcA, this]
  have he8 : e < 8 := by omega
  rw [bit0 ⟨e, he8⟩, bit1 ⟨e, he8⟩, bit2 ⟨e, he8⟩, wr (n := (e : Int) + 1) (by omega) (by omega)]
  dsimp only
  have leaf : ∀ x y z : Int, ((x, y, z) : V3) = ends3 a0 a b c e → f101_pre ((rows3 a0 a b c, (x, y, z)), 1) ∧ br (f83 (a0, f101 ((rows3 a0 a b c, (x, y, z)), 1)))
      (again4 ((e : Int) + 1, mput (.pair (.int .i64) (.pair (.int .i64) (.pair (.int .i64) (.int .i64)))) .bool (putAll mA ((List.range e).flatMap (candE a0 a b c))) (f101 ((rows3 a0 a b c, (x, y, z)), 1)) true, (a0.getD a rd0).1.1, (a0.getD a rd0).1.2.1, (a0.getD a rd0).1.2.2, (a0.getD b rd0).1.1, (a0.getD b rd0).1.2.1, (a0.getD b rd0).1.2.2, (a0.getD c rd0).1.1, (a0.getD c rd0).1.2.1, (a0.getD c rd0).1.2.2, x, y, z, ()))
      (again4 ((e : Int) + 1, putAll mA ((List.range e).flatMap (candE a0 a b c)), (a0.getD a rd0).1.1, (a0.getD a rd0).1.2.1, (a0.getD a rd0).1.2.2, (a0.getD b rd0).1.1, (a0.getD b rd0).1.2.1, (a0.getD b rd0).1.2.2, (a0.getD c rd0).1.1, (a0.getD c rd0).1.2.1, (a0.getD c rd0).1.2.2, x, y, z, ())) := fun x y z hxyz => by
    rw [hxyz]
    refine ⟨hpre1 e, br_two (fun hg => hag4 _ ⟨e + 1, x, y, z, by omega, ?_⟩ (by dsimp only; omega)) fun hg => hag4 _ ⟨e + 1, x, y, z, by omega, ?_⟩ (by dsimp only; omega)⟩
    · have hg : a0.all (agR · (sol1 a0 a b c e)) = true := hg
      rw [putAll_snoc, candE, if_pos hg]
      rfl
    · have hg : a0.all (agR · (sol1 a0 a b c e)) = false := hg
      rw [putAll_snoc, candE, if_neg (by rw [hg]; simp)]
      rfl
  refine br_if (fun h0 => br_if (fun h1 => br_if (fun h2 => leaf _ _ _ ?_) fun h2 => leaf _ _ _ ?_) fun h1 => br_if (fun h2 => leaf _ _ _ ?_) fun h2 => leaf _ _ _ ?_) fun h0 => br_if (fun h1 => br_if (fun h2 => leaf _ _ _ ?_) fun h2 => leaf _ _ _ ?_) fun h1 => br_if (fun h2 => leaf _ _ _ ?_) fun h2 => leaf _ _ _ ?_
  all_goals simp only [ends3, endR, h0, h1, h2, if_true, if_false]
  all_goals rfl
theorem f96_fn : f96_e.fn = f96 := rfl
theorem f96_ok : EntryOK Try.prog 96 f96_e := by
  refine entryF progOK (EnvOK.cons f83_ok (EnvOK.cons f101_ok (EnvOK.cons f104_ok (EnvOK.cons f128_ok (EnvOK.nil))))) (A := f96_A) (d := 6) Try.func96 rfl rfl rfl rfl (fun h => by cases h) fun x hpre => ?_
  exact f96_t x hpre _ fun _ h => h.trans (congrFun f96_fn.symm _)
end Go.Proofs.Ytglijnhkdnhofaa
end

section
namespace Go.Pi
set_option linter.unusedVariables false
theorem v3_z (x : V3) : ((x.1 == 0) && ((x.2.1 == 0) && ((x.2.2 == 0) && true))) = decide (x = (0, 0, 0)) := by
  obtain ⟨a, b, c⟩ := x
  rw [Bool.eq_iff_iff]
  simp
def rkStep (own : List V3) (d : V3) : List V3 := match own with
  | [] => [d]
  | [a] => if w3 (cross a d) = (0, 0, 0) then [a] else [a, d]
  | [a, b] => if w64 (dot (w3 (cross a b)) d) = 0 then [a, b] else [a, b, d]
  | l => l
def rkOwn (l : List V3) : List V3 := l.foldl rkStep []
theorem rkOwn_snoc (l : List V3) (d : V3) : rkOwn (l ++ [d]) = rkStep (rkOwn l) d := by simp [rkOwn]
theorem rkStep_len {own : List V3} (d : V3) (h : own.length ≤ 3) : (rkStep own d).length ≤ 3 := by
  match own, h with
  | [], _ => simp [rkStep]
  | [a], _ => simp only [rkStep]; split <;> simp
  | [a, b], _ => simp only [rkStep]; split <;> simp
  | a :: b :: c :: r, h => simpa [rkStep] using h
theorem foldl_rk_len : ∀ (l own : List V3), own.length ≤ 3 → (l.foldl rkStep own).length ≤ 3
  | [], own, h => h
  | d :: r, own, h => foldl_rk_len r _ (rkStep_len d h)
theorem rkOwn_len (l : List V3) : (rkOwn l).length ≤ 3 := foldl_rk_len l [] (by simp)
end Go.Pi
end

section
namespace Go.Proofs.Ytglijnhkdnhofaa
open Go Go.Pi Go.RowKit
set_option maxRecDepth 100000
set_option linter.unusedVariables false
set_option linter.unusedSimpArgs false

def f72 (l : List ((Int × Int × Int) × Int × Int)) : Int × List (Int × Int × Int) := (((rkOwn (l.map (·.1))).length : Int), rkOwn (l.map (·.1)))
def f72_e : Entry := { doms := [(false, (.sl (.pair (.pair (.int .i64) (.pair (.int .i64) (.int .i64))) (.pair (.int .i64) (.int .i64)))))], cods := [(false, (.int .i64)), (false, (.sl (.pair (.int .i64) (.pair (.int .i64) (.int .i64)))))], pre := fun _ => True, fn := f72, uq := false, total := true }
def f72_E : Env := [(76, f76_e), (103, f103_e)]
def f72_A : Anns := { loops := [(1048576, { tms := [(4, .ref 1056771), (8, .keep), (9, .keep), (10, .data false (.int .i64))], obs := [(1056771, .arr (.uniq) (.pair (.int .i64) (.pair (.int .i64) (.int .i64))))], fz := [] })], own := [] }
theorem f72_run (a0 : List ((Int × Int × Int) × Int × Int)) (K : (Int × List (Int × Int × Int)) → Prop) : runF Try.prog f72_E f72_A 6 Try.f72 f72_e.doms f72_e.cods a0 K =
    (br (lenOk (a0.length))
    (LoopP (V := Int × List (Int × Int × Int) × Unit) (fun again v => (fun (again1 : Int → List (Int × Int × Int) → Prop) (v1_0 : Int) (v1_1 : List (Int × Int × Int)) =>
    br (decide (v1_0 < ((a0.length) : Int)))
    (br (decide (0 ≤ v1_0) && decide (v1_0 < ((a0.length) : Int)))
    (br (lenOk (v1_1.length))
    (br (((v1_1.length) : Int) == 0)
    (br (roomOk ((v1_1.length) + 1) 24)
    (again1 (IntKind.i64.wrap (v1_0 + 1)) (v1_1 ++ ([(((a0.getD v1_0.toNat ((0, (0, 0)), (0, 0))).1).1, (((a0.getD v1_0.toNat ((0, (0, 0)), (0, 0))).1).2))] : List (Int × Int × Int))))
    False)
    (br (((v1_1.length) : Int) == 1)
    (br (decide (0 ≤ 0) && decide (0 < ((v1_1.length) : Int)))
    (br (!(((f76 (((v1_1.getD 0 (0, (0, 0))).1, ((v1_1.getD 0 (0, (0, 0))).2)), (((a0.getD v1_0.toNat ((0, (0, 0)), (0, 0))).1).1, (((a0.getD v1_0.toNat ((0, (0, 0)), (0, 0))).1).2)))).1 == 0) && ((((f76 (((v1_1.getD 0 (0, (0, 0))).1, ((v1_1.getD 0 (0, (0, 0))).2)), (((a0.getD v1_0.toNat ((0, (0, 0)), (0, 0))).1).1, (((a0.getD v1_0.toNat ((0, (0, 0)), (0, 0))).1).2)))).2).1 == 0) && ((((f76 (((v1_1.getD 0 (0, (0, 0))).1, ((v1_1.getD 0 (0, (0, 0))).2)), (((a0.getD v1_0.toNat ((0, (0, 0)), (0, 0))).1).1, (((a0.getD v1_0.toNat ((0, (0, 0)), (0, 0))).1).2)))).2).2 == 0) && true))))
    (br (roomOk ((v1_1.length) + 1) 24)
    (again1 (IntKind.i64.wrap (v1_0 + 1)) (v1_1 ++ ([(((a0.getD v1_0.toNat ((0, (0, 0)), (0, 0))).1).1, (((a0.getD v1_0.toNat ((0, (0, 0)), (0, 0))).1).2))] : List (Int × Int × Int))))
    False)
    (again1 (IntKind.i64.wrap (v1_0 + 1)) v1_1))
    False)
    (br (((v1_1.length) : Int) == 2)
    (br (decide (0 ≤ 0) && decide (0 < ((v1_1.length) : Int)))
    (br (decide (0 ≤ 1) && decide (1 < ((v1_1.length) : Int)))
    (br ((f103 (((f76 (((v1_1.getD 0 (0, (0, 0))).1, ((v1_1.getD 0 (0, (0, 0))).2)), ((v1_1.getD 1 (0, (0, 0))).1, ((v1_1.getD 1 (0, (0, 0))).2)))).1, ((f76 (((v1_1.getD 0 (0, (0, 0))).1, ((v1_1.getD 0 (0, (0, 0))).2)), ((v1_1.getD 1 (0, (0, 0))).1, ((v1_1.getD 1 (0, (0, 0))).2)))).2)), (((a0.getD v1_0.toNat ((0, (0, 0)), (0, 0))).1).1, (((a0.getD v1_0.toNat ((0, (0, 0)), (0, 0))).1).2)))) != 0)
    (br (roomOk ((v1_1.length) + 1) 24)
    (again1 (IntKind.i64.wrap (v1_0 + 1)) (v1_1 ++ ([(((a0.getD v1_0.toNat ((0, (0, 0)), (0, 0))).1).1, (((a0.getD v1_0.toNat ((0, (0, 0)), (0, 0))).1).2))] : List (Int × Int × Int))))
    False)
    (again1 (IntKind.i64.wrap (v1_0 + 1)) v1_1))
    False)
    False)
    (again1 (IntKind.i64.wrap (v1_0 + 1)) v1_1))))
    True)
    False)
    (br (lenOk (v1_1.length))
    (K (((v1_1.length) : Int), v1_1))
    True))
    (fun v1_0 v1_1 => again (v1_0, v1_1, ())) v.1 v.2.1) (0, ([] : List (Int × Int × Int)), ()))
    True) := by kernel_rfl
theorem f72_t (a0 : List ((Int × Int × Int) × Int × Int)) (K : (Int × List (Int × Int × Int)) → Prop) (hK : ∀ y : Int × List (Int × Int × Int), y = f72 a0 → K y) : RunF Try.prog f72_E f72_A 6 Try.f72 f72_e.doms f72_e.cods a0 K := by
  refine ⟨?_⟩
  rw [f72_run a0 K]
  rw [br_true_, lenOk_iff]
  intro hl
  refine LoopP.of (fun q : Int × List (Int × Int × Int) × Unit => ∃ i : Nat, i ≤ a0.length ∧ q.1 = (i : Int) ∧ q.2.1 = rkOwn ((a0.take i).map (·.1))) (fun q => ((a0.length : Int) - q.1).toNat) (fun again q hq hag => ?_) ⟨0, by omega, rfl, rfl⟩
  obtain ⟨j, own, u⟩ := q
  obtain ⟨i, hi, e1, e2⟩ := hq
  simp only at e1 e2
  subst e1
  dsimp only
  have h3 : own.length ≤ 3 := by rw [e2]; exact rkOwn_len _
  have room : ∀ m : Nat, m ≤ 3 → roomOk (m + 1) 24 = true := fun m hm => by rw [roomOk_iff]; omega
  refine br_if (fun hlt => br_must (inb (by omega) hlt) (br_weak ?_)) fun hlt => br_weak (hK _ ?_)
  · have hlt : i < a0.length := by omega
    rw [wr (n := (i : Int) + 1) (by omega) (by omega), Int.toNat_natCast]
    have hn : rkOwn ((a0.take (i + 1)).map (·.1)) = rkStep own (a0.getD i ((0, 0, 0), 0, 0)).1 := by
      rw [List.take_add_one, List.getElem?_eq_getElem hlt, getD_lt hlt, List.map_append, e2]
      exact rkOwn_snoc _ _
    generalize a0.getD i ((0, 0, 0), 0, 0) = x at *
    have go : ∀ own' : List V3, own' = rkStep own x.1 → again ((i : Int) + 1, own', ()) := fun own' e => by
      exact hag ((i : Int) + 1, own', ()) ⟨i + 1, by omega, by simp, by rw [hn]; exact e⟩ (by simp only; omega)
    clear hn e2
    match own, h3, go with
    | [], _, go =>
      refine br_two (fun _ => br_must (room _ (by simp)) (go _ rfl)) fun h => ?_
      simp at h
    | [a], _, go =>
      refine br_two (fun h => by simp at h) fun _ => br_two (fun _ => br_must (by simp) ?_) fun h => by simp at h
      have e : ((f76 (a, x.1)).1 == 0 && ((f76 (a, x.1)).2.1 == 0 && ((f76 (a, x.1)).2.2 == 0 && true))) = decide (w3 (cross a x.1) = (0, 0, 0)) := v3_z _
      show br (!((f76 (a, x.1)).1 == 0 && ((f76 (a, x.1)).2.1 == 0 && ((f76 (a, x.1)).2.2 == 0 && true)))) _ _
      rw [e]
      refine br_two (fun h => br_must (room _ (by simp)) (go _ ?_)) fun h => go _ ?_
      · simp only [rkStep, if_neg (nd_t.1 h)]; rfl
      · simp only [rkStep, if_pos (nd_f.1 h)]
    | [a, b], _, go =>
      refine br_two (fun h => by simp at h) fun _ => br_two (fun h => by simp at h) fun _ => br_two (fun _ => br_must (by simp) (br_must (by simp) ?_)) fun h => by simp at h
      show br (w64 (dot (w3 (cross a b)) x.1) != 0) _ _
      refine br_two (fun h => br_must (room _ (by simp)) (go _ ?_)) fun h => go _ ?_
      · simp only [rkStep, if_neg (bne_t.1 h)]; rfl
      · simp only [rkStep, if_pos (bne_f.1 h)]
    | [a, b, c], _, go =>
      refine br_two (fun h => by simp at h) fun _ => br_two (fun h => by simp at h) fun _ => br_two (fun h => by simp at h) fun _ => go _ rfl
  · have : i = a0.length := by omega
    subst this
    rw [e2, List.take_length]
    rfl
theorem f72_fn : f72_e.fn = f72 := rfl
theorem f72_ok : EntryOK Try.prog 72 f72_e := by
  refine entryF progOK (EnvOK.cons f76_ok (EnvOK.cons f103_ok (EnvOK.nil))) (A := f72_A) (d := 6) Try.func72 rfl rfl rfl rfl (fun _ _ => trivial) fun x hpre => ?_
  exact f72_t x _ fun _ h => h.trans (congrFun f72_fn.symm _)
end Go.Proofs.Ytglijnhkdnhofaa
end

section
namespace Go.Proofs.Ytglijnhkdnhofaa
open Go Go.Pi Go.RowKit
set_option maxRecDepth 100000
set_option linter.unusedVariables false
set_option linter.unusedSimpArgs false

def f127 (l : List ((Int × Int × Int) × Int × Int)) : Int := if (rkOwn (l.map (·.1))).length = 3 then 0 else 19
def f127_e : Entry := { doms := [(false, (.sl (.pair (.pair (.int .i64) (.pair (.int .i64) (.int .i64))) (.pair (.int .i64) (.int .i64)))))], cods := [(false, (.int .i64))], pre := fun _ => True, fn := f127, uq := false, total := true }
def f127_E : Env := [(60, f60_e), (72, f72_e)]
def f127_A : Anns := { loops := [], own := [] }
theorem f127_run (a0 : List ((Int × Int × Int) × Int × Int)) (K : Int → Prop) : runF Try.prog f127_E f127_A 6 Try.f127 f127_e.doms f127_e.cods a0 K =
    (K (f60 (((f72 a0).1 == 3), 19))) := by kernel_rfl
theorem f127_t (a0 : List ((Int × Int × Int) × Int × Int)) (K : Int → Prop) (hK : ∀ y : Int, y = f127 a0 → K y) : RunF Try.prog f127_E f127_A 6 Try.f127 f127_e.doms f127_e.cods a0 K := by
  refine ⟨?_⟩
  rw [f127_run a0 K]
  refine hK _ ?_
  show f60 (((rkOwn (a0.map (·.1))).length : Int) == 3, 19) = _
  rw [f127, f60]
  by_cases h : (rkOwn (a0.map (·.1))).length = 3
  · simp [h]
  · rw [if_neg h]
    have : ((((rkOwn (a0.map (·.1))).length : Int)) == 3) = false := by rw [beq_eq_false_iff_ne]; omega
    simp [this]
theorem f127_fn : f127_e.fn = f127 := rfl
theorem f127_ok : EntryOK Try.prog 127 f127_e := by
  refine entryF progOK (EnvOK.cons f60_ok (EnvOK.cons f72_ok (EnvOK.nil))) (A := f127_A) (d := 6) Try.func127 rfl rfl rfl rfl (fun _ _ => trivial) fun x hpre => ?_
  exact f127_t x _ fun _ h => h.trans (congrFun f127_fn.symm _)
end Go.Proofs.Ytglijnhkdnhofaa
end

section
namespace Go.Pi
set_option linter.unusedVariables false
theorem low_pos {n d : Int} (h : 0 < d) : 0 < (low n d).2 ∧ (low n d).2 ≤ d := by
  have hg : 0 < Nat.gcd n.natAbs d.natAbs := Nat.gcd_pos_of_pos_right _ (by omega)
  unfold low
  rw [if_neg (by omega)]
  show 0 < d.tdiv _ ∧ d.tdiv _ ≤ d
  obtain ⟨k, hk⟩ := Nat.gcd_dvd_right n.natAbs d.natAbs
  generalize Nat.gcd n.natAbs d.natAbs = g at *
  have e : d = (g : Int) * k := by have : (d.natAbs : Int) = ((g * k : Nat) : Int) := by rw [← hk]
                                   rw [Int.natCast_mul] at this; omega
  have e2 : d.tdiv (g : Int) = k := by rw [e]; exact Int.mul_tdiv_cancel_left _ (by omega)
  rw [e2]
  have hk0 : 0 < (k : Int) := by
    rcases Nat.eq_zero_or_pos k with h0 | h0
    · subst h0; simp at e; omega
    · omega
  refine ⟨hk0, ?_⟩
  rw [e]
  have : 1 * (k : Int) ≤ (g : Int) * k := Int.mul_le_mul_of_nonneg_right (by omega) (by omega)
  omega
theorem low_le {n d m : Int} (h : -m ≤ n ∧ n ≤ m) : -m ≤ (low n d).1 ∧ (low n d).1 ≤ m := by
  unfold low
  split <;> exact tdiv_size h
theorem low_mul {n d : Int} (h : 0 < d) : (low n d).1 * d = n * (low n d).2 := by
  have hg : 0 < Nat.gcd n.natAbs d.natAbs := Nat.gcd_pos_of_pos_right _ (by omega)
  unfold low
  rw [if_neg (by omega)]
  show n.tdiv _ * d = n * d.tdiv _
  have h1 : ((Nat.gcd n.natAbs d.natAbs : Nat) : Int) ∣ n := by rw [← Int.natAbs_dvd_natAbs]; exact Nat.gcd_dvd_left _ _
  have h2 : ((Nat.gcd n.natAbs d.natAbs : Nat) : Int) ∣ d := by rw [← Int.natAbs_dvd_natAbs]; exact Nat.gcd_dvd_right _ _
  have e1 := Int.mul_tdiv_cancel' h1
  have e2 := Int.mul_tdiv_cancel' h2
  generalize n.tdiv _ = x at *
  generalize d.tdiv _ = y at *
  generalize ((Nat.gcd n.natAbs d.natAbs : Nat) : Int) = g at *
  rw [← e1, ← e2]
  grind
def fracs (vs : List WV) (d : V3) : List (Int × Int) := vs.map fun v => low (dot (wpt v) d) v.2.2.2
def less2 (a b : Int × Int) : Int := a.1 * b.2 - b.1 * a.2
def pickF (t : Int → Bool) (m x : Int × Int) : Int × Int := if t (less2 x m) = true then x else m
def pick (t : Int → Bool) (l : List (Int × Int)) : Int × Int := (l.drop 1).foldl (pickF t) (l.getD 0 (0, 0))
def minF (l : List (Int × Int)) : Int × Int := pick (fun n => decide (n < 0)) l
def maxF (l : List (Int × Int)) : Int × Int := pick (fun n => decide (n > 0)) l
def spanW (vs : List WV) (d : V3) : (Int × Int) × Int × Int := (minF (fracs vs d), maxF (fracs vs d))
def no4 : (Int × Int) × Int × Int := ((0, 0), (0, 0))
def rangeW (l : List Rd) (d : V3) : ((Int × Int) × Int × Int) × Int :=
  if (rdOf l).2 ≠ 0 then (no4, (rdOf l).2) else if dirE d ≠ 0 then (no4, dirE d) else if (rkOwn (l.map (·.1))).length ≠ 3 then (no4, 19) else if (vtx l).length = 0 then (no4, 12) else (spanW (vtx l) d, 0)
def errW (l : List Rd) (d : V3) : Int := if (rdOf l).2 ≠ 0 then (rdOf l).2 else if dirE d ≠ 0 then dirE d else if (rkOwn (l.map (·.1))).length = 3 then 0 else 19
theorem rangeW_err (l : List Rd) (d : V3) (h : errW l d ≠ 0) : rangeW l d = (no4, errW l d) := by
  unfold errW at h ⊢
  unfold rangeW
  by_cases h1 : (rdOf l).2 ≠ 0
  · rw [if_pos h1, if_pos h1]
  · by_cases h2 : dirE d ≠ 0
    · rw [if_neg h1, if_neg h1, if_pos h2, if_pos h2]
    · by_cases h3 : (rkOwn (l.map (·.1))).length = 3
      · rw [if_neg h1, if_neg h2, if_pos h3] at h; exact absurd rfl h
      · rw [if_neg h1, if_neg h1, if_neg h2, if_neg h2, if_pos h3, if_neg h3]
theorem errW_zero {l : List Rd} {d : V3} (h : errW l d = 0) : (rdOf l).2 = 0 ∧ dirE d = 0 ∧ (rkOwn (l.map (·.1))).length = 3 := by
  unfold errW at h
  by_cases h1 : (rdOf l).2 ≠ 0
  · rw [if_pos h1] at h; exact absurd h h1
  · by_cases h2 : dirE d ≠ 0
    · rw [if_neg h1, if_pos h2] at h; exact absurd h h2
    · by_cases h3 : (rkOwn (l.map (·.1))).length = 3
      · exact ⟨Classical.byContradiction h1, Classical.byContradiction h2, h3⟩
      · rw [if_neg h1, if_neg h2, if_neg h3] at h; cases h
theorem pick_take (t : Int → Bool) (l : List (Int × Int)) {i : Nat} (h1 : 1 ≤ i) (h : i < l.length) : pick t (l.take (i + 1)) = pickF t (pick t (l.take i)) (l.getD i (0, 0)) := by
  have e : l.take (i + 1) = l.take i ++ [l.getD i (0, 0)] := by
    rw [List.take_add_one, List.getElem?_eq_getElem h, getD_lt h]; rfl
  unfold pick
  have e2 : (l.take (i + 1)).drop 1 = (l.take i).drop 1 ++ [l.getD i (0, 0)] := by
    rw [e, List.drop_append_of_le_length (by rw [List.length_take]; omega)]
  have e3 : (l.take (i + 1)).getD 0 (0, 0) = (l.take i).getD 0 (0, 0) := by
    simp only [List.getD_eq_getElem?_getD, List.getElem?_take]
    rw [if_pos (by omega), if_pos (by omega)]
  rw [e2, e3, List.foldl_append]
  rfl
/-- Fractions whose products are far from an int's limits. -/
def FS (x : Int × Int) : Prop := (-200000000 ≤ x.1 ∧ x.1 ≤ 200000000) ∧ 0 < x.2 ∧ x.2 ≤ 100000
theorem less2_w {a b : Int × Int} (ha : FS a) (hb : FS b) : w64 (a.1 * b.2 - b.1 * a.2) = less2 a b := by
  have h1 := mul_le ha.1 (show -100000 ≤ b.2 ∧ b.2 ≤ 100000 from ⟨by have := hb.2.1; omega, hb.2.2⟩)
  have h2 := mul_le hb.1 (show -100000 ≤ a.2 ∧ a.2 ≤ 100000 from ⟨by have := ha.2.1; omega, ha.2.2⟩)
  exact w64_in (by omega) (by omega)
theorem pickF_fs {t : Int → Bool} {m x : Int × Int} (hm : FS m) (hx : FS x) : FS (pickF t m x) := by
  unfold pickF; split
  · exact hx
  · exact hm
theorem pick_fs {t : Int → Bool} {l : List (Int × Int)} (h0 : 0 < l.length) (h : ∀ x ∈ l, FS x) : FS (pick t l) := by
  have key : ∀ (r : List (Int × Int)) (m : Int × Int), FS m → (∀ x ∈ r, FS x) → FS (r.foldl (pickF t) m) := by
    intro r
    induction r with
    | nil => intro m hm _; exact hm
    | cons x r ih => intro m hm hr; exact ih _ (pickF_fs hm (hr x (.head _))) fun y hy => hr y (.tail _ hy)
  exact key _ _ (h _ (getD_mem h0)) fun x hx => h x (List.mem_of_mem_drop hx)
theorem dirE_zero {d : V3} (h : dirE d = 0) : V3.le d 9 ∧ d ≠ (0, 0, 0) := by
  unfold dirE at h
  split at h
  · simp at h
  · rename_i h2
    split at h
    · simp at h
    · rename_i h3
      exact ⟨Classical.byContradiction h2, h3⟩
theorem fracs_fs {l : List Rd} (h : RdLe l) {d : V3} (hd : V3.le d 9) : ∀ x ∈ fracs (vtx l) d, FS x := fun x hx => by
  obtain ⟨v, hv, rfl⟩ := List.mem_map.1 hx
  obtain ⟨h1, h2, h3⟩ := cands_ok h v (vtx_mem.1 hv)
  have h4 := dot_le h3 hd
  have h5 := low_pos (n := dot (wpt v) d) h1.den
  have h6 := low_le (d := v.2.2.2) (m := 200000000) (show -200000000 ≤ dot (wpt v) d ∧ dot (wpt v) d ≤ 200000000 from ⟨by omega, by omega⟩)
  exact ⟨h6, h5.1, by omega⟩
theorem rangeW_ok {l : List Rd} {d : V3} (h : (rangeW l d).2 = 0) : (rdOf l).2 = 0 ∧ dirE d = 0 ∧ (rkOwn (l.map (·.1))).length = 3 ∧ 0 < (vtx l).length ∧ rangeW l d = (spanW (vtx l) d, 0) := by
  by_cases he : errW l d = 0
  · obtain ⟨h1, h2, h3⟩ := errW_zero he
    unfold rangeW at h ⊢
    rw [if_neg (fun hh => hh h1), if_neg (fun hh => hh h2), if_neg (fun hh => hh h3)] at h ⊢
    by_cases h4 : (vtx l).length = 0
    · rw [if_pos h4] at h; cases h
    · rw [if_neg h4]; exact ⟨h1, h2, h3, by omega, rfl⟩
  · rw [rangeW_err l d he] at h; exact absurd h he
theorem spanW_fs {l : List Rd} {d : V3} (h : (rangeW l d).2 = 0) : FS (rangeW l d).1.1 ∧ FS (rangeW l d).1.2 := by
  obtain ⟨h1, h2, h3, h4, h5⟩ := rangeW_ok h
  have hf := fracs_fs (rdOf_ok h1).rdLe (dirE_zero h2).1
  have hl : 0 < (fracs (vtx l) d).length := by simp [fracs]; exact h4
  rw [h5]
  exact ⟨pick_fs hl hf, pick_fs hl hf⟩
def headW (l : List Rd) (d : V3) : (Int × Int) × Int := if (rangeW l d).2 ≠ 0 then ((0, 0), (rangeW l d).2) else (((rangeW l d).1.1.1 / (rangeW l d).1.1.2, -((-(rangeW l d).1.2.1) / (rangeW l d).1.2.2)), 0)
end Go.Pi
end
