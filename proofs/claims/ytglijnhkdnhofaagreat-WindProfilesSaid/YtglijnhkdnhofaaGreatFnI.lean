/- What functions of the program compute, each proved once, part 9. -/
import Derived.Test.YtglijnhkdnhofaaGreatPiD
import Derived.Test.YtglijnhkdnhofaaGreatFnA
import Derived.Test.YtglijnhkdnhofaaGreatFnH
import Derived.Test.YtglijnhkdnhofaaGreatFnG

section
namespace Go.Proofs.YtglijnhkdnhofaaGreat
open Go Go.Pi Go.RowKit
set_option maxRecDepth 100000
set_option linter.unusedVariables false
set_option linter.unusedSimpArgs false

def f46 (x : List (Int × (Int × Int) × (Int × Int) × Int × Int) × Int) : (Int × Int) × (Int × Int) × Int × Int := (atP x.1 x.2).1
def f46_pre (x : List (Int × (Int × Int) × (Int × Int) × Int × Int) × Int) : Prop := PfOK x.1 ∧ (x.1.getD 0 ly0).1 ≤ x.2 ∧ x.2 ≤ (x.1.getD (x.1.length - 1) ly0).1
def f46_rest (a0 : List (Int × (Int × Int) × (Int × Int) × Int × Int)) (a1 : Int) (K : (Int × Int) × (Int × Int) × Int × Int → Prop) (v1_0 : Int) : Prop :=
  br (decide (0 ≤ v1_0) && decide (v1_0 < ((a0.length) : Int)))
  (br (decide (0 ≤ (IntKind.i64.wrap (v1_0 + 1))) && decide ((IntKind.i64.wrap (v1_0 + 1)) < ((a0.length) : Int)))
  (br (decide (0 ≤ (IntKind.i64.wrap (v1_0 + 1))) && decide ((IntKind.i64.wrap (v1_0 + 1)) < ((a0.length) : Int)))
  (br (decide (0 ≤ v1_0) && decide (v1_0 < ((a0.length) : Int)))
  (br (decide (0 ≤ v1_0) && decide (v1_0 < ((a0.length) : Int)))
  (f97_pre ((IntKind.i64.wrap ((IntKind.i64.wrap (((f105 ((((a0.getD v1_0.toNat (0, ((0, 0), ((0, 0), (0, 0))))).2).1), (((((a0.getD v1_0.toNat (0, ((0, 0), ((0, 0), (0, 0))))).2).2).1), ((((a0.getD v1_0.toNat (0, ((0, 0), ((0, 0), (0, 0))))).2).2).2)))).1).1 * (IntKind.i64.wrap ((IntKind.i64.wrap ((a0.getD ((IntKind.i64.wrap (v1_0 + 1)).toNat) (0, ((0, 0), ((0, 0), (0, 0))))).1 - (a0.getD v1_0.toNat (0, ((0, 0), ((0, 0), (0, 0))))).1)) - (IntKind.i64.wrap (a1 - (a0.getD v1_0.toNat (0, ((0, 0), ((0, 0), (0, 0))))).1)))))) + (IntKind.i64.wrap (((f105 ((((a0.getD ((IntKind.i64.wrap (v1_0 + 1)).toNat) (0, ((0, 0), ((0, 0), (0, 0))))).2).1), (((((a0.getD ((IntKind.i64.wrap (v1_0 + 1)).toNat) (0, ((0, 0), ((0, 0), (0, 0))))).2).2).1), ((((a0.getD ((IntKind.i64.wrap (v1_0 + 1)).toNat) (0, ((0, 0), ((0, 0), (0, 0))))).2).2).2)))).1).1 * (IntKind.i64.wrap (a1 - (a0.getD v1_0.toNat (0, ((0, 0), ((0, 0), (0, 0))))).1)))))), (IntKind.i64.wrap ((a0.getD ((IntKind.i64.wrap (v1_0 + 1)).toNat) (0, ((0, 0), ((0, 0), (0, 0))))).1 - (a0.getD v1_0.toNat (0, ((0, 0), ((0, 0), (0, 0))))).1))) ∧
  f98_pre ((IntKind.i64.wrap ((IntKind.i64.wrap (((f105 ((((a0.getD v1_0.toNat (0, ((0, 0), ((0, 0), (0, 0))))).2).1), (((((a0.getD v1_0.toNat (0, ((0, 0), ((0, 0), (0, 0))))).2).2).1), ((((a0.getD v1_0.toNat (0, ((0, 0), ((0, 0), (0, 0))))).2).2).2)))).1).2 * (IntKind.i64.wrap ((IntKind.i64.wrap ((a0.getD ((IntKind.i64.wrap (v1_0 + 1)).toNat) (0, ((0, 0), ((0, 0), (0, 0))))).1 - (a0.getD v1_0.toNat (0, ((0, 0), ((0, 0), (0, 0))))).1)) - (IntKind.i64.wrap (a1 - (a0.getD v1_0.toNat (0, ((0, 0), ((0, 0), (0, 0))))).1)))))) + (IntKind.i64.wrap (((f105 ((((a0.getD ((IntKind.i64.wrap (v1_0 + 1)).toNat) (0, ((0, 0), ((0, 0), (0, 0))))).2).1), (((((a0.getD ((IntKind.i64.wrap (v1_0 + 1)).toNat) (0, ((0, 0), ((0, 0), (0, 0))))).2).2).1), ((((a0.getD ((IntKind.i64.wrap (v1_0 + 1)).toNat) (0, ((0, 0), ((0, 0), (0, 0))))).2).2).2)))).1).2 * (IntKind.i64.wrap (a1 - (a0.getD v1_0.toNat (0, ((0, 0), ((0, 0), (0, 0))))).1)))))), (IntKind.i64.wrap ((a0.getD ((IntKind.i64.wrap (v1_0 + 1)).toNat) (0, ((0, 0), ((0, 0), (0, 0))))).1 - (a0.getD v1_0.toNat (0, ((0, 0), ((0, 0), (0, 0))))).1))) ∧
  f97_pre ((IntKind.i64.wrap ((IntKind.i64.wrap ((((f105 ((((a0.getD v1_0.toNat (0, ((0, 0), ((0, 0), (0, 0))))).2).1), (((((a0.getD v1_0.toNat (0, ((0, 0), ((0, 0), (0, 0))))).2).2).1), ((((a0.getD v1_0.toNat (0, ((0, 0), ((0, 0), (0, 0))))).2).2).2)))).2).1).1 * (IntKind.i64.wrap ((IntKind.i64.wrap ((a0.getD ((IntKind.i64.wrap (v1_0 + 1)).toNat) (0, ((0, 0), ((0, 0), (0, 0))))).1 - (a0.getD v1_0.toNat (0, ((0, 0), ((0, 0), (0, 0))))).1)) - (IntKind.i64.wrap (a1 - (a0.getD v1_0.toNat (0, ((0, 0), ((0, 0), (0, 0))))).1)))))) + (IntKind.i64.wrap ((((f105 ((((a0.getD ((IntKind.i64.wrap (v1_0 + 1)).toNat) (0, ((0, 0), ((0, 0), (0, 0))))).2).1), (((((a0.getD ((IntKind.i64.wrap (v1_0 + 1)).toNat) (0, ((0, 0), ((0, 0), (0, 0))))).2).2).1), ((((a0.getD ((IntKind.i64.wrap (v1_0 + 1)).toNat) (0, ((0, 0), ((0, 0), (0, 0))))).2).2).2)))).2).1).1 * (IntKind.i64.wrap (a1 - (a0.getD v1_0.toNat (0, ((0, 0), ((0, 0), (0, 0))))).1)))))), (IntKind.i64.wrap ((a0.getD ((IntKind.i64.wrap (v1_0 + 1)).toNat) (0, ((0, 0), ((0, 0), (0, 0))))).1 - (a0.getD v1_0.toNat (0, ((0, 0), ((0, 0), (0, 0))))).1))) ∧
  f98_pre ((IntKind.i64.wrap ((IntKind.i64.wrap ((((f105 ((((a0.getD v1_0.toNat (0, ((0, 0), ((0, 0), (0, 0))))).2).1), (((((a0.getD v1_0.toNat (0, ((0, 0), ((0, 0), (0, 0))))).2).2).1), ((((a0.getD v1_0.toNat (0, ((0, 0), ((0, 0), (0, 0))))).2).2).2)))).2).1).2 * (IntKind.i64.wrap ((IntKind.i64.wrap ((a0.getD ((IntKind.i64.wrap (v1_0 + 1)).toNat) (0, ((0, 0), ((0, 0), (0, 0))))).1 - (a0.getD v1_0.toNat (0, ((0, 0), ((0, 0), (0, 0))))).1)) - (IntKind.i64.wrap (a1 - (a0.getD v1_0.toNat (0, ((0, 0), ((0, 0), (0, 0))))).1)))))) + (IntKind.i64.wrap ((((f105 ((((a0.getD ((IntKind.i64.wrap (v1_0 + 1)).toNat) (0, ((0, 0), ((0, 0), (0, 0))))).2).1), (((((a0.getD ((IntKind.i64.wrap (v1_0 + 1)).toNat) (0, ((0, 0), ((0, 0), (0, 0))))).2).2).1), ((((a0.getD ((IntKind.i64.wrap (v1_0 + 1)).toNat) (0, ((0, 0), ((0, 0), (0, 0))))).2).2).2)))).2).1).2 * (IntKind.i64.wrap (a1 - (a0.getD v1_0.toNat (0, ((0, 0), ((0, 0), (0, 0))))).1)))))), (IntKind.i64.wrap ((a0.getD ((IntKind.i64.wrap (v1_0 + 1)).toNat) (0, ((0, 0), ((0, 0), (0, 0))))).1 - (a0.getD v1_0.toNat (0, ((0, 0), ((0, 0), (0, 0))))).1))) ∧
  f97_pre ((IntKind.i64.wrap ((IntKind.i64.wrap ((((f105 ((((a0.getD v1_0.toNat (0, ((0, 0), ((0, 0), (0, 0))))).2).1), (((((a0.getD v1_0.toNat (0, ((0, 0), ((0, 0), (0, 0))))).2).2).1), ((((a0.getD v1_0.toNat (0, ((0, 0), ((0, 0), (0, 0))))).2).2).2)))).2).2).1 * (IntKind.i64.wrap ((IntKind.i64.wrap ((a0.getD ((IntKind.i64.wrap (v1_0 + 1)).toNat) (0, ((0, 0), ((0, 0), (0, 0))))).1 - (a0.getD v1_0.toNat (0, ((0, 0), ((0, 0), (0, 0))))).1)) - (IntKind.i64.wrap (a1 - (a0.getD v1_0.toNat (0, ((0, 0), ((0, 0), (0, 0))))).1)))))) + (IntKind.i64.wrap ((((f105 ((((a0.getD ((IntKind.i64.wrap (v1_0 + 1)).toNat) (0, ((0, 0), ((0, 0), (0, 0))))).2).1), (((((a0.getD ((IntKind.i64.wrap (v1_0 + 1)).toNat) (0, ((0, 0), ((0, 0), (0, 0))))).2).2).1), ((((a0.getD ((IntKind.i64.wrap (v1_0 + 1)).toNat) (0, ((0, 0), ((0, 0), (0, 0))))).2).2).2)))).2).2).1 * (IntKind.i64.wrap (a1 - (a0.getD v1_0.toNat (0, ((0, 0), ((0, 0), (0, 0))))).1)))))), (IntKind.i64.wrap ((a0.getD ((IntKind.i64.wrap (v1_0 + 1)).toNat) (0, ((0, 0), ((0, 0), (0, 0))))).1 - (a0.getD v1_0.toNat (0, ((0, 0), ((0, 0), (0, 0))))).1))) ∧
  f98_pre ((IntKind.i64.wrap ((IntKind.i64.wrap ((((f105 ((((a0.getD v1_0.toNat (0, ((0, 0), ((0, 0), (0, 0))))).2).1), (((((a0.getD v1_0.toNat (0, ((0, 0), ((0, 0), (0, 0))))).2).2).1), ((((a0.getD v1_0.toNat (0, ((0, 0), ((0, 0), (0, 0))))).2).2).2)))).2).2).2 * (IntKind.i64.wrap ((IntKind.i64.wrap ((a0.getD ((IntKind.i64.wrap (v1_0 + 1)).toNat) (0, ((0, 0), ((0, 0), (0, 0))))).1 - (a0.getD v1_0.toNat (0, ((0, 0), ((0, 0), (0, 0))))).1)) - (IntKind.i64.wrap (a1 - (a0.getD v1_0.toNat (0, ((0, 0), ((0, 0), (0, 0))))).1)))))) + (IntKind.i64.wrap ((((f105 ((((a0.getD ((IntKind.i64.wrap (v1_0 + 1)).toNat) (0, ((0, 0), ((0, 0), (0, 0))))).2).1), (((((a0.getD ((IntKind.i64.wrap (v1_0 + 1)).toNat) (0, ((0, 0), ((0, 0), (0, 0))))).2).2).1), ((((a0.getD ((IntKind.i64.wrap (v1_0 + 1)).toNat) (0, ((0, 0), ((0, 0), (0, 0))))).2).2).2)))).2).2).2 * (IntKind.i64.wrap (a1 - (a0.getD v1_0.toNat (0, ((0, 0), ((0, 0), (0, 0))))).1)))))), (IntKind.i64.wrap ((a0.getD ((IntKind.i64.wrap (v1_0 + 1)).toNat) (0, ((0, 0), ((0, 0), (0, 0))))).1 - (a0.getD v1_0.toNat (0, ((0, 0), ((0, 0), (0, 0))))).1))) ∧
  K (((f97 ((IntKind.i64.wrap ((IntKind.i64.wrap (((f105 ((((a0.getD v1_0.toNat (0, ((0, 0), ((0, 0), (0, 0))))).2).1), (((((a0.getD v1_0.toNat (0, ((0, 0), ((0, 0), (0, 0))))).2).2).1), ((((a0.getD v1_0.toNat (0, ((0, 0), ((0, 0), (0, 0))))).2).2).2)))).1).1 * (IntKind.i64.wrap ((IntKind.i64.wrap ((a0.getD ((IntKind.i64.wrap (v1_0 + 1)).toNat) (0, ((0, 0), ((0, 0), (0, 0))))).1 - (a0.getD v1_0.toNat (0, ((0, 0), ((0, 0), (0, 0))))).1)) - (IntKind.i64.wrap (a1 - (a0.getD v1_0.toNat (0, ((0, 0), ((0, 0), (0, 0))))).1)))))) + (IntKind.i64.wrap (((f105 ((((a0.getD ((IntKind.i64.wrap (v1_0 + 1)).toNat) (0, ((0, 0), ((0, 0), (0, 0))))).2).1), (((((a0.getD ((IntKind.i64.wrap (v1_0 + 1)).toNat) (0, ((0, 0), ((0, 0), (0, 0))))).2).2).1), ((((a0.getD ((IntKind.i64.wrap (v1_0 + 1)).toNat) (0, ((0, 0), ((0, 0), (0, 0))))).2).2).2)))).1).1 * (IntKind.i64.wrap (a1 - (a0.getD v1_0.toNat (0, ((0, 0), ((0, 0), (0, 0))))).1)))))), (IntKind.i64.wrap ((a0.getD ((IntKind.i64.wrap (v1_0 + 1)).toNat) (0, ((0, 0), ((0, 0), (0, 0))))).1 - (a0.getD v1_0.toNat (0, ((0, 0), ((0, 0), (0, 0))))).1)))), (f98 ((IntKind.i64.wrap ((IntKind.i64.wrap (((f105 ((((a0.getD v1_0.toNat (0, ((0, 0), ((0, 0), (0, 0))))).2).1), (((((a0.getD v1_0.toNat (0, ((0, 0), ((0, 0), (0, 0))))).2).2).1), ((((a0.getD v1_0.toNat (0, ((0, 0), ((0, 0), (0, 0))))).2).2).2)))).1).2 * (IntKind.i64.wrap ((IntKind.i64.wrap ((a0.getD ((IntKind.i64.wrap (v1_0 + 1)).toNat) (0, ((0, 0), ((0, 0), (0, 0))))).1 - (a0.getD v1_0.toNat (0, ((0, 0), ((0, 0), (0, 0))))).1)) - (IntKind.i64.wrap (a1 - (a0.getD v1_0.toNat (0, ((0, 0), ((0, 0), (0, 0))))).1)))))) + (IntKind.i64.wrap (((f105 ((((a0.getD ((IntKind.i64.wrap (v1_0 + 1)).toNat) (0, ((0, 0), ((0, 0), (0, 0))))).2).1), (((((a0.getD ((IntKind.i64.wrap (v1_0 + 1)).toNat) (0, ((0, 0), ((0, 0), (0, 0))))).2).2).1), ((((a0.getD ((IntKind.i64.wrap (v1_0 + 1)).toNat) (0, ((0, 0), ((0, 0), (0, 0))))).2).2).2)))).1).2 * (IntKind.i64.wrap (a1 - (a0.getD v1_0.toNat (0, ((0, 0), ((0, 0), (0, 0))))).1)))))), (IntKind.i64.wrap ((a0.getD ((IntKind.i64.wrap (v1_0 + 1)).toNat) (0, ((0, 0), ((0, 0), (0, 0))))).1 - (a0.getD v1_0.toNat (0, ((0, 0), ((0, 0), (0, 0))))).1))))), (((f97 ((IntKind.i64.wrap ((IntKind.i64.wrap ((((f105 ((((a0.getD v1_0.toNat (0, ((0, 0), ((0, 0), (0, 0))))).2).1), (((((a0.getD v1_0.toNat (0, ((0, 0), ((0, 0), (0, 0))))).2).2).1), ((((a0.getD v1_0.toNat (0, ((0, 0), ((0, 0), (0, 0))))).2).2).2)))).2).1).1 * (IntKind.i64.wrap ((IntKind.i64.wrap ((a0.getD ((IntKind.i64.wrap (v1_0 + 1)).toNat) (0, ((0, 0), ((0, 0), (0, 0))))).1 - (a0.getD v1_0.toNat (0, ((0, 0), ((0, 0), (0, 0))))).1)) - (IntKind.i64.wrap (a1 - (a0.getD v1_0.toNat (0, ((0, 0), ((0, 0), (0, 0))))).1)))))) + (IntKind.i64.wrap ((((f105 ((((a0.getD ((IntKind.i64.wrap (v1_0 + 1)).toNat) (0, ((0, 0), ((0, 0), (0, 0))))).2).1), (((((a0.getD ((IntKind.i64.wrap (v1_0 + 1)).toNat) (0, ((0, 0), ((0, 0), (0, 0))))).2).2).1), ((((a0.getD ((IntKind.i64.wrap (v1_0 + 1)).toNat) (0, ((0, 0), ((0, 0), (0, 0))))).2).2).2)))).2).1).1 * (IntKind.i64.wrap (a1 - (a0.getD v1_0.toNat (0, ((0, 0), ((0, 0), (0, 0))))).1)))))), (IntKind.i64.wrap ((a0.getD ((IntKind.i64.wrap (v1_0 + 1)).toNat) (0, ((0, 0), ((0, 0), (0, 0))))).1 - (a0.getD v1_0.toNat (0, ((0, 0), ((0, 0), (0, 0))))).1)))), (f98 ((IntKind.i64.wrap ((IntKind.i64.wrap ((((f105 ((((a0.getD v1_0.toNat (0, ((0, 0), ((0, 0), (0, 0))))).2).1), (((((a0.getD v1_0.toNat (0, ((0, 0), ((0, 0), (0, 0))))).2).2).1), ((((a0.getD v1_0.toNat (0, ((0, 0), ((0, 0), (0, 0))))).2).2).2)))).2).1).2 * (IntKind.i64.wrap ((IntKind.i64.wrap ((a0.getD ((IntKind.i64.wrap (v1_0 + 1)).toNat) (0, ((0, 0), ((0, 0), (0, 0))))).1 - (a0.getD v1_0.toNat (0, ((0, 0), ((0, 0), (0, 0))))).1)) - (IntKind.i64.wrap (a1 - (a0.getD v1_0.toNat (0, ((0, 0), ((0, 0), (0, 0))))).1)))))) + (IntKind.i64.wrap ((((f105 ((((a0.getD ((IntKind.i64.wrap (v1_0 + 1)).toNat) (0, ((0, 0), ((0, 0), (0, 0))))).2).1), (((((a0.getD ((IntKind.i64.wrap (v1_0 + 1)).toNat) (0, ((0, 0), ((0, 0), (0, 0))))).2).2).1), ((((a0.getD ((IntKind.i64.wrap (v1_0 + 1)).toNat) (0, ((0, 0), ((0, 0), (0, 0))))).2).2).2)))).2).1).2 * (IntKind.i64.wrap (a1 - (a0.getD v1_0.toNat (0, ((0, 0), ((0, 0), (0, 0))))).1)))))), (IntKind.i64.wrap ((a0.getD ((IntKind.i64.wrap (v1_0 + 1)).toNat) (0, ((0, 0), ((0, 0), (0, 0))))).1 - (a0.getD v1_0.toNat (0, ((0, 0), ((0, 0), (0, 0))))).1))))), ((f97 ((IntKind.i64.wrap ((IntKind.i64.wrap ((((f105 ((((a0.getD v1_0.toNat (0, ((0, 0), ((0, 0), (0, 0))))).2).1), (((((a0.getD v1_0.toNat (0, ((0, 0), ((0, 0), (0, 0))))).2).2).1), ((((a0.getD v1_0.toNat (0, ((0, 0), ((0, 0), (0, 0))))).2).2).2)))).2).2).1 * (IntKind.i64.wrap ((IntKind.i64.wrap ((a0.getD ((IntKind.i64.wrap (v1_0 + 1)).toNat) (0, ((0, 0), ((0, 0), (0, 0))))).1 - (a0.getD v1_0.toNat (0, ((0, 0), ((0, 0), (0, 0))))).1)) - (IntKind.i64.wrap (a1 - (a0.getD v1_0.toNat (0, ((0, 0), ((0, 0), (0, 0))))).1)))))) + (IntKind.i64.wrap ((((f105 ((((a0.getD ((IntKind.i64.wrap (v1_0 + 1)).toNat) (0, ((0, 0), ((0, 0), (0, 0))))).2).1), (((((a0.getD ((IntKind.i64.wrap (v1_0 + 1)).toNat) (0, ((0, 0), ((0, 0), (0, 0))))).2).2).1), ((((a0.getD ((IntKind.i64.wrap (v1_0 + 1)).toNat) (0, ((0, 0), ((0, 0), (0, 0))))).2).2).2)))).2).2).1 * (IntKind.i64.wrap (a1 - (a0.getD v1_0.toNat (0, ((0, 0), ((0, 0), (0, 0))))).1)))))), (IntKind.i64.wrap ((a0.getD ((IntKind.i64.wrap (v1_0 + 1)).toNat) (0, ((0, 0), ((0, 0), (0, 0))))).1 - (a0.getD v1_0.toNat (0, ((0, 0), ((0, 0), (0, 0))))).1)))), (f98 ((IntKind.i64.wrap ((IntKind.i64.wrap ((((f105 ((((a0.getD v1_0.toNat (0, ((0, 0), ((0, 0), (0, 0))))).2).1), (((((a0.getD v1_0.toNat (0, ((0, 0), ((0, 0), (0, 0))))).2).2).1), ((((a0.getD v1_0.toNat (0, ((0, 0), ((0, 0), (0, 0))))).2).2).2)))).2).2).2 * (IntKind.i64.wrap ((IntKind.i64.wrap ((a0.getD ((IntKind.i64.wrap (v1_0 + 1)).toNat) (0, ((0, 0), ((0, 0), (0, 0))))).1 - (a0.getD v1_0.toNat (0, ((0, 0), ((0, 0), (0, 0))))).1)) - (IntKind.i64.wrap (a1 - (a0.getD v1_0.toNat (0, ((0, 0), ((0, 0), (0, 0))))).1)))))) + (IntKind.i64.wrap ((((f105 ((((a0.getD ((IntKind.i64.wrap (v1_0 + 1)).toNat) (0, ((0, 0), ((0, 0), (0, 0))))).2).1), (((((a0.getD ((IntKind.i64.wrap (v1_0 + 1)).toNat) (0, ((0, 0), ((0, 0), (0, 0))))).2).2).1), ((((a0.getD ((IntKind.i64.wrap (v1_0 + 1)).toNat) (0, ((0, 0), ((0, 0), (0, 0))))).2).2).2)))).2).2).2 * (IntKind.i64.wrap (a1 - (a0.getD v1_0.toNat (0, ((0, 0), ((0, 0), (0, 0))))).1)))))), (IntKind.i64.wrap ((a0.getD ((IntKind.i64.wrap (v1_0 + 1)).toNat) (0, ((0, 0), ((0, 0), (0, 0))))).1 - (a0.getD v1_0.toNat (0, ((0, 0), ((0, 0), (0, 0))))).1))))))))
  False)
  False)
  False)
  False)
  False
def f46_e : Entry := { doms := [(false, (.sl (.pair (.int .i64) (.pair (.pair (.int .i64) (.int .i64)) (.pair (.pair (.int .i64) (.int .i64)) (.pair (.int .i64) (.int .i64))))))), (false, (.int .i64))], cods := [(true, (.pair (.pair (.int .i64) (.int .i64)) (.pair (.pair (.int .i64) (.int .i64)) (.pair (.int .i64) (.int .i64)))))], pre := f46_pre, fn := f46, uq := false, total := false }
def f46_E : Env := [(97, f97_e), (98, f98_e), (105, f105_e)]
def f46_A : Anns := { loops := [(1048576, { tms := [(0, .keep), (1, .keep), (4, .keep), (5, .data false (.int .i64))], obs := [(1048576, .keep)], fz := [] })], own := [], unroll := 4 }
theorem f46_run (a0 : List (Int × (Int × Int) × (Int × Int) × Int × Int)) (a1 : Int) (K : ((Int × Int) × (Int × Int) × Int × Int) → Prop) : runF Tryz.prog f46_E f46_A 6 Tryz.f46 f46_e.doms f46_e.cods (a0, a1) K =
    (LoopP (V := Int × Unit) (fun again v => (fun (again1 : Int → Prop) (v1_0 : Int) =>
    br (lenOk (a0.length))
    (br (decide ((IntKind.i64.wrap (v1_0 + 1)) < ((a0.length) : Int)))
    (br (decide (0 ≤ (IntKind.i64.wrap (v1_0 + 1))) && decide ((IntKind.i64.wrap (v1_0 + 1)) < ((a0.length) : Int)))
    (br (decide ((a0.getD ((IntKind.i64.wrap (v1_0 + 1)).toNat) (0, ((0, 0), ((0, 0), (0, 0))))).1 ≤ a1))
    (again1 (IntKind.i64.wrap (v1_0 + 1)))
    (br (decide (0 ≤ v1_0) && decide (v1_0 < ((a0.length) : Int)))
    (br ((a0.getD v1_0.toNat (0, ((0, 0), ((0, 0), (0, 0))))).1 == a1)
    (br (decide (0 ≤ v1_0) && decide (v1_0 < ((a0.length) : Int)))
    (K ((((a0.getD v1_0.toNat (0, ((0, 0), ((0, 0), (0, 0))))).2).1), (((((a0.getD v1_0.toNat (0, ((0, 0), ((0, 0), (0, 0))))).2).2).1), ((((a0.getD v1_0.toNat (0, ((0, 0), ((0, 0), (0, 0))))).2).2).2))))
    False)
    (f46_rest a0 a1 K v1_0))
    False))
    False)
    (br (decide (0 ≤ v1_0) && decide (v1_0 < ((a0.length) : Int)))
    (br ((a0.getD v1_0.toNat (0, ((0, 0), ((0, 0), (0, 0))))).1 == a1)
    (br (decide (0 ≤ v1_0) && decide (v1_0 < ((a0.length) : Int)))
    (K ((((a0.getD v1_0.toNat (0, ((0, 0), ((0, 0), (0, 0))))).2).1), (((((a0.getD v1_0.toNat (0, ((0, 0), ((0, 0), (0, 0))))).2).2).1), ((((a0.getD v1_0.toNat (0, ((0, 0), ((0, 0), (0, 0))))).2).2).2))))
    False)
    (f46_rest a0 a1 K v1_0))
    False))
    True)
    (fun v1_0 => again (v1_0, ())) v.1) (0, ())) := by kernel_rfl
theorem f46_t (a0 : List (Int × (Int × Int) × (Int × Int) × Int × Int)) (a1 : Int) (hpre : f46_pre (a0, a1)) (K : ((Int × Int) × (Int × Int) × Int × Int) → Prop) (hK : ∀ y : (Int × Int) × (Int × Int) × Int × Int, y = f46 (a0, a1) → K y) : RunF Tryz.prog f46_E f46_A 6 Tryz.f46 f46_e.doms f46_e.cods (a0, a1) K := by
  refine ⟨?_⟩
  rw [f46_run a0 a1 K]
  obtain ⟨ok, h0, h1⟩ := hpre
  dsimp only at ok h0 h1
  have hlen := ok.len
  have hp := ok.pos
  have dx : ((0 : Int), ((0 : Int), (0 : Int)), ((0 : Int), (0 : Int)), ((0 : Int), (0 : Int))) = ly0 := rfl
  have e0 : f46 (a0, a1) = (atP a0 a1).1 := rfl
  have o105 : ∀ b : Bx, f105 b = b := fun b => rfl
  refine LoopP.of (fun q : Int × Unit => ∃ i : Nat, i < a0.length ∧ q = ((i : Int), ()) ∧ (a0.getD i ly0).1 ≤ a1) (fun q => ((a0.length : Int) - q.1).toNat) (fun again q hq hag => ?_) ⟨0, hp, rfl, h0⟩
  obtain ⟨i, hi, rfl, hI⟩ := hq
  dsimp only
  simp only [dx, o105]
  rw [wr (n := (i : Int) + 1) (by omega) (by omega), show ((i : Int) + 1).toNat = i + 1 by omega, Int.toNat_natCast]
  have bi := inb (show 0 ≤ (i : Int) by omega) (show (i : Int) < (a0.length : Int) by omega)
  -- the last layer that is not above
  have stop : (i + 1 < a0.length → a1 < (a0.getD (i + 1) ly0).1) → br (decide (0 ≤ (i : Int)) && decide ((i : Int) < (a0.length : Int))) (br ((a0.getD i ly0).1 == a1) (br (decide (0 ≤ (i : Int)) && decide ((i : Int) < (a0.length : Int))) (K (a0.getD i ly0).2) False) (f46_rest a0 a1 K (i : Int))) False := fun hst => by
    refine br_must bi (br_two (fun he => br_must bi (hK _ ?_)) fun he => ?_)
    · rw [e0, ← beq_iff_eq.1 he, at_layer ok hi]
    · have he := beq_eq_false_iff_ne.1 he
      have hi1 : i + 1 < a0.length := by
        rcases Nat.lt_or_ge (i + 1) a0.length with h | h
        · exact h
        · have : i = a0.length - 1 := by omega
          rw [this] at hI he
          omega
      have hlt := hst hi1
      unfold f46_rest
      simp only [dx, o105]
      rw [wr (n := (i : Int) + 1) (by omega) (by omega), show ((i : Int) + 1).toNat = i + 1 by omega, Int.toNat_natCast]
      have bj := inb (show 0 ≤ (i : Int) + 1 by omega) (show (i : Int) + 1 < (a0.length : Int) by omega)
      have k1 := ok.h i hi
      have k2 := ok.h (i + 1) hi1
      have w1 := ok.w i hi
      have w2 := ok.w (i + 1) hi1
      rw [wr (n := (a0.getD (i + 1) ly0).1 - (a0.getD i ly0).1) (by omega) (by omega), wr (n := a1 - (a0.getD i ly0).1) (by omega) (by omega), wr (n := (a0.getD (i + 1) ly0).1 - (a0.getD i ly0).1 - (a1 - (a0.getD i ly0).1)) (by omega) (by omega)]
      have hat : atP a0 a1 = (btB (a0.getD i ly0).2 (a0.getD (i + 1) ly0).2 (a1 - (a0.getD i ly0).1) ((a0.getD (i + 1) ly0).1 - (a0.getD i ly0).1), true) := by
        have e : fstI a0 a1 = some (i + 1) := fstI_some hi1 (by omega) fun j hj => by
          rcases Nat.lt_or_ge j i with h4 | h4
          · have := ok.mono h4 hi; omega
          · have : j = i := by omega
            subst this; omega
        unfold atP
        rw [e]
        simp only
        rw [if_neg (fun hh => by cases hh.1), if_neg (by omega), Nat.add_sub_cancel]
      generalize hp1 : a1 - (a0.getD i ly0).1 = p at *
      generalize hw1 : (a0.getD (i + 1) ly0).1 - (a0.getD i ly0).1 = w at *
      have q1 : 0 ≤ p ∧ p ≤ w ∧ 0 < w ∧ w ≤ 20000 := by omega
      have bb : ∀ a b : Int, (-100000 ≤ a ∧ a ≤ 100000) → (-100000 ≤ b ∧ b ≤ 100000) → IntKind.i64.wrap (IntKind.i64.wrap (a * (w - p)) + IntKind.i64.wrap (b * p)) = a * (w - p) + b * p ∧ Fit (a * (w - p) + b * p) := fun a b ha hb => by
        have m1 := mul_le ha (show -20000 ≤ w - p ∧ w - p ≤ 20000 by omega)
        have m2 := mul_le hb (show -20000 ≤ p ∧ p ≤ 20000 by omega)
        rw [wr (n := a * (w - p)) (by omega) (by omega), wr (n := b * p) (by omega) (by omega), wr (by omega) (by omega)]
        exact ⟨rfl, by omega, by omega⟩
      have r : ∀ a b : R2, rOK a → rOK b → (-100000 ≤ a.1 ∧ a.1 ≤ 100000) ∧ (-100000 ≤ a.2 ∧ a.2 ≤ 100000) ∧ (-100000 ≤ b.1 ∧ b.1 ≤ 100000) ∧ (-100000 ≤ b.2 ∧ b.2 ≤ 100000) := fun a b ha hb => by
        obtain ⟨_, _, _⟩ := ha
        obtain ⟨_, _, _⟩ := hb
        omega
      have x := r _ _ w1.1 w2.1
      have y := r _ _ w1.2.1 w2.2.1
      have z := r _ _ w1.2.2 w2.2.2
      have x1 := bb _ _ x.1 x.2.2.1
      have x2 := bb _ _ x.2.1 x.2.2.2
      have y1 := bb _ _ y.1 y.2.2.1
      have y2 := bb _ _ y.2.1 y.2.2.2
      have z1 := bb _ _ z.1 z.2.2.1
      have z2 := bb _ _ z.2.1 z.2.2.2
      rw [x1.1, x2.1, y1.1, y2.1, z1.1, z2.1]
      refine br_must bi (br_must bj (br_must bj (br_must bi (br_must bi ⟨⟨x1.2, q1.2.2.1⟩, ⟨x2.2, q1.2.2.1⟩, ⟨y1.2, q1.2.2.1⟩, ⟨y2.2, q1.2.2.1⟩, ⟨z1.2, q1.2.2.1⟩, ⟨z2.2, q1.2.2.1⟩, hK _ ?_⟩))))
      rw [e0, hat]
      simp only [btB, btw_other _ _ q1.2.2.1]
      rfl
  refine br_weak (br_if (fun hlt => br_must (inb (by omega) hlt) (br_if (fun h => hag _ ⟨i + 1, by omega, by simp, h⟩ (by dsimp only; omega)) fun h => stop fun _ => by omega)) fun hlt => stop fun h => by omega)
theorem f46_fn : f46_e.fn = f46 := rfl
theorem f46_ok : EntryOK Tryz.prog 46 f46_e := by
  refine entryF progOK (EnvOK.cons f97_ok (EnvOK.cons f98_ok (EnvOK.cons f105_ok (EnvOK.nil)))) (A := f46_A) (d := 6) Tryz.func46 rfl rfl rfl rfl (fun h => by cases h) fun x hpre => ?_
  obtain ⟨a0, a1⟩ := x
  exact f46_t a0 a1 hpre _ fun _ h => h.trans (congrFun f46_fn.symm _)
end Go.Proofs.YtglijnhkdnhofaaGreat
end

section
namespace Go.Proofs.YtglijnhkdnhofaaGreat
open Go Go.Pi Go.RowKit
set_option maxRecDepth 100000
set_option linter.unusedVariables false
set_option linter.unusedSimpArgs false

def f106 (x : (Int × Int) × Int × Int) : Int × Int := (w64 (x.1.1 - x.2.2), w64 (x.1.2 - x.2.1))
def f106_e : Entry := { doms := [(true, (.pair (.int .i64) (.int .i64))), (true, (.pair (.int .i64) (.int .i64)))], cods := [(true, (.pair (.int .i64) (.int .i64)))], pre := fun _ => True, fn := f106, uq := false, total := true }
def f106_E : Env := []
def f106_A : Anns := { loops := [], own := [] }
theorem f106_run (a0 : Int × Int) (a1 : Int × Int) (K : (Int × Int) → Prop) : runF Tryz.prog f106_E f106_A 6 Tryz.f106 f106_e.doms f106_e.cods (a0, a1) K =
    (K ((IntKind.i64.wrap (a0.1 - a1.2)), (IntKind.i64.wrap (a0.2 - a1.1)))) := by kernel_rfl
theorem f106_t (a0 : Int × Int) (a1 : Int × Int) (K : (Int × Int) → Prop) (hK : ∀ y : Int × Int, y = f106 (a0, a1) → K y) : RunF Tryz.prog f106_E f106_A 6 Tryz.f106 f106_e.doms f106_e.cods (a0, a1) K := by
  refine ⟨?_⟩
  rw [f106_run a0 a1 K]
  exact hK _ rfl
theorem f106_fn : f106_e.fn = f106 := rfl
theorem f106_ok : EntryOK Tryz.prog 106 f106_e := by
  refine entryF progOK (EnvOK.nil) (A := f106_A) (d := 6) Tryz.func106 rfl rfl rfl rfl (fun _ _ => trivial) fun x hpre => ?_
  obtain ⟨a0, a1⟩ := x
  exact f106_t a0 a1 _ fun _ h => h.trans (congrFun f106_fn.symm _)
end Go.Proofs.YtglijnhkdnhofaaGreat
end

section
namespace Go.Proofs.YtglijnhkdnhofaaGreat
open Go Go.Pi Go.RowKit
set_option maxRecDepth 100000
set_option linter.unusedVariables false
set_option linter.unusedSimpArgs false

def f47 (x : ((Int × Int) × (Int × Int) × Int × Int) × (Int × Int) × (Int × Int) × Int × Int) : (Int × Int) × (Int × Int) × Int × Int := (f106 (x.2.1, x.1.1), f106 (x.2.2.1, x.1.2.1), f106 (x.2.2.2, x.1.2.2))
def f47_e : Entry := { doms := [(true, (.pair (.pair (.int .i64) (.int .i64)) (.pair (.pair (.int .i64) (.int .i64)) (.pair (.int .i64) (.int .i64))))), (true, (.pair (.pair (.int .i64) (.int .i64)) (.pair (.pair (.int .i64) (.int .i64)) (.pair (.int .i64) (.int .i64)))))], cods := [(true, (.pair (.pair (.int .i64) (.int .i64)) (.pair (.pair (.int .i64) (.int .i64)) (.pair (.int .i64) (.int .i64)))))], pre := fun _ => True, fn := f47, uq := false, total := true }
def f47_E : Env := [(106, f106_e)]
def f47_A : Anns := { loops := [], own := [] }
theorem f47_run (a0 : (Int × Int) × (Int × Int) × Int × Int) (a1 : (Int × Int) × (Int × Int) × Int × Int) (K : ((Int × Int) × (Int × Int) × Int × Int) → Prop) : runF Tryz.prog f47_E f47_A 6 Tryz.f47 f47_e.doms f47_e.cods (a0, a1) K =
    (K ((f106 (a1.1, a0.1)), ((f106 (a1.2.1, a0.2.1)), (f106 (a1.2.2, a0.2.2))))) := by kernel_rfl
theorem f47_t (a0 : (Int × Int) × (Int × Int) × Int × Int) (a1 : (Int × Int) × (Int × Int) × Int × Int) (K : ((Int × Int) × (Int × Int) × Int × Int) → Prop) (hK : ∀ y : (Int × Int) × (Int × Int) × Int × Int, y = f47 (a0, a1) → K y) : RunF Tryz.prog f47_E f47_A 6 Tryz.f47 f47_e.doms f47_e.cods (a0, a1) K := by
  refine ⟨?_⟩
  rw [f47_run a0 a1 K]
  exact hK _ rfl
theorem f47_fn : f47_e.fn = f47 := rfl
theorem f47_ok : EntryOK Tryz.prog 47 f47_e := by
  refine entryF progOK (EnvOK.cons f106_ok (EnvOK.nil)) (A := f47_A) (d := 6) Tryz.func47 rfl rfl rfl rfl (fun _ _ => trivial) fun x hpre => ?_
  obtain ⟨a0, a1⟩ := x
  exact f47_t a0 a1 _ fun _ h => h.trans (congrFun f47_fn.symm _)
end Go.Proofs.YtglijnhkdnhofaaGreat
end

section
namespace Go.Proofs.YtglijnhkdnhofaaGreat
open Go Go.Pi Go.RowKit
set_option maxRecDepth 100000
set_option linter.unusedVariables false
set_option linter.unusedSimpArgs false

def f6 (x : List (Int × (Int × Int) × (Int × Int) × Int × Int) × Int × Int × Int) : Bool := true
theorem frst_app (r : List Int) : ∀ l : List Int, frst (l ++ r) = if frst l = 0 then frst r else frst l
  | [] => by rw [frst_nil, if_pos rfl, List.nil_append]
  | a :: l => by
    rw [List.cons_append, frst_cons, frst_cons, frst_app r l]
    by_cases h : a = 0
    · simp only [if_pos h]
    · simp only [if_neg h]
def wE (l : List Ly) (h : Int) : Int := if (pfOf l).2 ≠ 0 then (pfOf l).2 else if hE h ≠ 0 then hE h else atE l h
theorem wE_zero {l : List Ly} {h : Int} (e : wE l h = 0) : (pfOf l).2 = 0 ∧ hE h = 0 ∧ atE l h = 0 := by
  unfold wE at e
  split at e
  · rename_i h1; exact absurd e h1
  · rename_i h1
    split at e
    · rename_i h2; exact absurd e h2
    · rename_i h2; exact ⟨by omega, by omega, e⟩
theorem windAt_E (l : List Ly) (h : Int) : windAt l h = if wE l h = 0 then ((atP l h).1, 0) else (b0, wE l h) := by
  by_cases h1 : (pfOf l).2 = 0
  · have n1 : ¬ (pfOf l).2 ≠ 0 := fun hh => hh h1
    have k := atE_iff (pfOf_ok h1) h
    by_cases h2 : hE h = 0
    · have n2 : ¬ hE h ≠ 0 := fun hh => hh h2
      rw [windAt, wE, if_neg n1, if_neg n1, if_neg n2, if_neg n2]
      by_cases h3 : atE l h = 0
      · have n3 : ¬ (atP l h).2 = false := fun hh => k.1.1 hh h3
        rw [if_neg n3, if_pos h3]
      · rw [if_pos (k.1.2 h3), if_neg h3, k.2.1 h3]
    · rw [windAt, wE, if_neg n1, if_neg n1, if_pos (show hE h ≠ 0 from h2), if_pos (show hE h ≠ 0 from h2), if_neg h2]
  · rw [windAt, wE, if_pos (show (pfOf l).2 ≠ 0 from h1), if_pos (show (pfOf l).2 ≠ 0 from h1), if_neg h1]
def cD (l : List Ly) (x : R2) : Int := if chgE l x = 0 then atE l x.1 else chgE l x
def cE (l : List Ly) (x : R2) : Int := if cD l x = 0 then atE l x.2 else cD l x
theorem chgE_zero {l : List Ly} {x : R2} (e : chgE l x = 0) : (pfOf l).2 = 0 := by
  unfold chgE at e
  rw [frst_cons] at e
  by_cases h : (pfOf l).2 = 0
  · exact h
  · rw [if_neg h] at e; exact e
theorem cD_zero {l : List Ly} {x : R2} (e : cD l x = 0) : (pfOf l).2 = 0 ∧ chgE l x = 0 ∧ atE l x.1 = 0 := by
  unfold cD at e
  by_cases h : chgE l x = 0
  · rw [if_pos h] at e; exact ⟨chgE_zero h, h, e⟩
  · rw [if_neg h] at e; exact absurd e h
theorem cE_zero {l : List Ly} {x : R2} (e : cE l x = 0) : (pfOf l).2 = 0 ∧ chgE l x = 0 ∧ atE l x.1 = 0 ∧ atE l x.2 = 0 := by
  unfold cE at e
  by_cases h : cD l x = 0
  · rw [if_pos h] at e; exact ⟨(cD_zero h).1, (cD_zero h).2.1, (cD_zero h).2.2, e⟩
  · rw [if_neg h] at e; exact absurd e h
theorem chgIn_E (l : List Ly) (x : R2) : chgIn l x = if cE l x = 0 then (chg (atP l x.1).1 (atP l x.2).1, 0) else (b0, cE l x) := by
  unfold chgIn cE cD
  by_cases h1 : chgE l x = 0
  · simp only [if_neg (fun hh : chgE l x ≠ 0 => hh h1), if_pos h1]
    have ok := pfOf_ok (chgE_zero h1)
    have k := atE_iff ok x.1
    have k2 := atE_iff ok x.2
    by_cases h2 : atE l x.1 = 0
    · rw [if_neg (fun hh => k.1.1 hh h2)]
      simp only [if_pos h2]
      by_cases h3 : atE l x.2 = 0
      · rw [if_neg (fun hh => k2.1.1 hh h3), if_pos h3]
      · rw [if_pos (k2.1.2 h3), if_neg h3, k2.2.1 h3]
    · rw [if_pos (k.1.2 h2)]
      simp only [if_neg h2]
      rw [k.2.1 h2]
  · simp only [if_pos h1, if_neg h1]
def f6_e : Entry := { doms := [(false, (.sl (.pair (.int .i64) (.pair (.pair (.int .i64) (.int .i64)) (.pair (.pair (.int .i64) (.int .i64)) (.pair (.int .i64) (.int .i64))))))), (false, (.int .i64)), (true, (.pair (.int .i64) (.int .i64)))], cods := [(false, .bool)], pre := fun _ => True, fn := f6, uq := false, total := true }
def f6_E : Env := [(8, f8_e), (39, f39_e), (40, f40_e), (41, f41_e), (42, f42_e), (43, f43_e), (44, f44_e), (45, f45_e), (46, f46_e), (47, f47_e)]
def f6_A : Anns := { loops := [(1572921, { tms := [(0, .keep), (1, .keep), (5, .keep), (9, .keep), (10, .keep), (11, .keep), (12, .keep), (14, .data false (.int .i64)), (15, .keep)], obs := [(1048576, .keep), (1054727, .keep), (1055751, .keep)], fz := [] }),
  (1572929, { tms := [(0, .keep), (1, .keep), (5, .keep), (9, .keep), (10, .keep), (11, .keep), (12, .keep), (14, .data false (.int .i64)), (15, .keep)], obs := [(1048576, .keep), (1054727, .keep), (1055751, .keep)], fz := [] }),
  (1572937, { tms := [(0, .keep), (5, .keep), (11, .keep), (12, .keep), (15, .keep)], obs := [(1048576, .keep), (1055751, .keep)], fz := [] }),
  (1572945, { tms := [(0, .keep), (5, .keep), (11, .keep), (12, .keep), (15, .data false (.int .i64))], obs := [(1048576, .keep), (1055751, .keep)], fz := [] }),
  (1572953, { tms := [(0, .keep), (5, .keep), (11, .keep), (12, .keep), (15, .data false (.int .i64))], obs := [(1048576, .keep), (1055751, .keep)], fz := [] }),
  (1572961, { tms := [(0, .keep), (5, .keep), (11, .keep), (12, .keep), (15, .data false (.int .i64))], obs := [(1048576, .keep), (1055751, .keep)], fz := [] }),
  (1572969, { tms := [(0, .keep), (5, .keep), (11, .keep), (12, .keep), (15, .data false (.int .i64))], obs := [(1048576, .keep), (1055751, .keep)], fz := [] }),
  (1572977, { tms := [(0, .keep), (5, .keep), (11, .keep), (12, .keep), (15, .data false (.int .i64))], obs := [(1048576, .keep), (1055751, .keep)], fz := [] })], own := [] }
theorem f6_run (a0 : List (Int × (Int × Int) × (Int × Int) × Int × Int)) (a1 : Int) (a2 : Int × Int) (K : Bool → Prop) : runF Tryz.prog f6_E f6_A 6 Tryz.f6 f6_e.doms f6_e.cods (a0, a1, a2) K =
    (br (!(f8 ()))
    (K false)
    (br (lenOk (a0.length))
    (br (decide (((a0.length) : Int) > 14))
    (K true)
    (f40_pre a0 ∧
    f40_pre a0 ∧
    f40_pre a0 ∧
    br ((f39 (f40 a0)).2 != (f43 a0).2)
    (K false)
    (br ((f39 (f40 a0)).1 != (f43 a0).1)
    (K false)
    (JoinQ (V := Int × Unit) (fun J => (fun (join1 : Int → Prop) =>
    br ((f43 a0).2 == 0)
    (join1 (f44 a1))
    (join1 ((f43 a0).2))) (fun j1_0 => J (j1_0, ()))) (fun v => (fun (j1_0 : Int) =>
    JoinQ (V := Int × Unit) (fun J => (fun (join2 : Int → Prop) =>
    br (j1_0 == 0)
    (f45_pre (a0, a1) ∧
    join2 (f45 (a0, a1)))
    (join2 j1_0)) (fun j2_0 => J (j2_0, ()))) (fun v => (fun (j2_0 : Int) =>
    JoinQ (V := Unit) (fun J => (fun (join3 : Prop) =>
    br (j2_0 != 0)
    (br ((f41 ((f40 a0), a1)).2 != j2_0)
    (K false)
    (br (!((((((f41 ((f40 a0), a1)).1).1).1 == 0) && (((((f41 ((f40 a0), a1)).1).1).2 == 0) && true)) && (((((((f41 ((f40 a0), a1)).1).2).1).1 == 0) && ((((((f41 ((f40 a0), a1)).1).2).1).2 == 0) && true)) && (((((((f41 ((f40 a0), a1)).1).2).2).1 == 0) && ((((((f41 ((f40 a0), a1)).1).2).2).2 == 0) && true)) && true))))
    (K false)
    (br (j2_0 == 0)
    (br ((f41 ((f40 a0), a1)).2 != 0)
    (K false)
    (f46_pre (a0, a1) ∧
    br (!((((((f41 ((f40 a0), a1)).1).1).1 == ((f46 (a0, a1)).1).1) && (((((f41 ((f40 a0), a1)).1).1).2 == ((f46 (a0, a1)).1).2) && true)) && (((((((f41 ((f40 a0), a1)).1).2).1).1 == (((f46 (a0, a1)).2).1).1) && ((((((f41 ((f40 a0), a1)).1).2).1).2 == (((f46 (a0, a1)).2).1).2) && true)) && (((((((f41 ((f40 a0), a1)).1).2).2).1 == (((f46 (a0, a1)).2).2).1) && ((((((f41 ((f40 a0), a1)).1).2).2).2 == (((f46 (a0, a1)).2).2).2) && true)) && true))))
    (K false)
    (join3)))
    (join3))))
    (br (j2_0 == 0)
    (br ((f41 ((f40 a0), a1)).2 != 0)
    (K false)
    (f46_pre (a0, a1) ∧
    br (!((((((f41 ((f40 a0), a1)).1).1).1 == ((f46 (a0, a1)).1).1) && (((((f41 ((f40 a0), a1)).1).1).2 == ((f46 (a0, a1)).1).2) && true)) && (((((((f41 ((f40 a0), a1)).1).2).1).1 == (((f46 (a0, a1)).2).1).1) && ((((((f41 ((f40 a0), a1)).1).2).1).2 == (((f46 (a0, a1)).2).1).2) && true)) && (((((((f41 ((f40 a0), a1)).1).2).2).1 == (((f46 (a0, a1)).2).2).1) && ((((((f41 ((f40 a0), a1)).1).2).2).2 == (((f46 (a0, a1)).2).2).2) && true)) && true))))
    (K false)
    (join3)))
    (join3))) (J ())) (fun v =>
    JoinQ (V := Int × Unit) (fun J => (fun (join4 : Int → Prop) =>
    br ((f43 a0).2 == 0)
    (join4 (f44 a2.1))
    (join4 ((f43 a0).2))) (fun j4_0 => J (j4_0, ()))) (fun v => (fun (j4_0 : Int) =>
    JoinQ (V := Int × Unit) (fun J => (fun (join5 : Int → Prop) =>
    br (j4_0 == 0)
    (join5 (f44 a2.2))
    (join5 j4_0)) (fun j5_0 => J (j5_0, ()))) (fun v => (fun (j5_0 : Int) =>
    JoinQ (V := Int × Unit) (fun J => (fun (join6 : Int → Prop) =>
    br (j5_0 == 0)
    (br (decide (a2.1 > a2.2))
    (join6 9)
    (join6 j5_0))
    (join6 j5_0)) (fun j6_0 => J (j6_0, ()))) (fun v => (fun (j6_0 : Int) =>
    JoinQ (V := Int × Unit) (fun J => (fun (join7 : Int → Prop) =>
    br (j6_0 == 0)
    (f45_pre (a0, a2.1) ∧
    join7 (f45 (a0, a2.1)))
    (join7 j6_0)) (fun j7_0 => J (j7_0, ()))) (fun v => (fun (j7_0 : Int) =>
    JoinQ (V := Int × Unit) (fun J => (fun (join8 : Int → Prop) =>
    br (j7_0 == 0)
    (f45_pre (a0, a2.2) ∧
    join8 (f45 (a0, a2.2)))
    (join8 j7_0)) (fun j8_0 => J (j8_0, ()))) (fun v => (fun (j8_0 : Int) =>
    br (j8_0 != 0)
    (br ((f42 ((f40 a0), a2)).2 == j8_0)
    (K ((((((f42 ((f40 a0), a2)).1).1).1 == 0) && (((((f42 ((f40 a0), a2)).1).1).2 == 0) && true)) && (((((((f42 ((f40 a0), a2)).1).2).1).1 == 0) && ((((((f42 ((f40 a0), a2)).1).2).1).2 == 0) && true)) && (((((((f42 ((f40 a0), a2)).1).2).2).1 == 0) && ((((((f42 ((f40 a0), a2)).1).2).2).2 == 0) && true)) && true))))
    (K false))
    (br ((f42 ((f40 a0), a2)).2 == 0)
    (f46_pre (a0, a2.1) ∧
    f46_pre (a0, a2.2) ∧
    K ((((((f42 ((f40 a0), a2)).1).1).1 == ((f47 ((((f46 (a0, a2.1)).1), ((((f46 (a0, a2.1)).2).1), (((f46 (a0, a2.1)).2).2))), (((f46 (a0, a2.2)).1), ((((f46 (a0, a2.2)).2).1), (((f46 (a0, a2.2)).2).2))))).1).1) && (((((f42 ((f40 a0), a2)).1).1).2 == ((f47 ((((f46 (a0, a2.1)).1), ((((f46 (a0, a2.1)).2).1), (((f46 (a0, a2.1)).2).2))), (((f46 (a0, a2.2)).1), ((((f46 (a0, a2.2)).2).1), (((f46 (a0, a2.2)).2).2))))).1).2) && true)) && (((((((f42 ((f40 a0), a2)).1).2).1).1 == (((f47 ((((f46 (a0, a2.1)).1), ((((f46 (a0, a2.1)).2).1), (((f46 (a0, a2.1)).2).2))), (((f46 (a0, a2.2)).1), ((((f46 (a0, a2.2)).2).1), (((f46 (a0, a2.2)).2).2))))).2).1).1) && ((((((f42 ((f40 a0), a2)).1).2).1).2 == (((f47 ((((f46 (a0, a2.1)).1), ((((f46 (a0, a2.1)).2).1), (((f46 (a0, a2.1)).2).2))), (((f46 (a0, a2.2)).1), ((((f46 (a0, a2.2)).2).1), (((f46 (a0, a2.2)).2).2))))).2).1).2) && true)) && (((((((f42 ((f40 a0), a2)).1).2).2).1 == (((f47 ((((f46 (a0, a2.1)).1), ((((f46 (a0, a2.1)).2).1), (((f46 (a0, a2.1)).2).2))), (((f46 (a0, a2.2)).1), ((((f46 (a0, a2.2)).2).1), (((f46 (a0, a2.2)).2).2))))).2).2).1) && ((((((f42 ((f40 a0), a2)).1).2).2).2 == (((f47 ((((f46 (a0, a2.1)).1), ((((f46 (a0, a2.1)).2).1), (((f46 (a0, a2.1)).2).2))), (((f46 (a0, a2.2)).1), ((((f46 (a0, a2.2)).2).1), (((f46 (a0, a2.2)).2).2))))).2).2).2) && true)) && true))))
    (K false))) v.1)) v.1)) v.1)) v.1)) v.1))) v.1)) v.1)))))
    True)) := by kernel_rfl
theorem f6_t (a0 : List (Int × (Int × Int) × (Int × Int) × Int × Int)) (a1 : Int) (a2 : Int × Int) (K : Bool → Prop) (hK : ∀ y : Bool, y = f6 (a0, a1, a2) → K y) : RunF Tryz.prog f6_E f6_A 6 Tryz.f6 f6_e.doms f6_e.cods (a0, a1, a2) K := by
  refine ⟨?_⟩
  rw [f6_run a0 a1 a2 K]
  have e8 : f8 () = true := rfl
  have hT : K true := hK _ rfl
  have hKb : ∀ b : Bool, b = true → K b := fun b h => hK _ (by rw [h]; rfl)
  have e43 : f43 a0 = pfOf a0 := rfl
  have e39 : f39 (f40 a0) = pfOf a0 := rfl
  have e41 : f41 (f40 a0, a1) = windAt a0 a1 := rfl
  have e42 : f42 (f40 a0, a2) = chgIn a0 a2 := rfl
  have e44 : ∀ n, f44 n = hE n := fun _ => rfl
  have e45 : ∀ n, f45 (a0, n) = atE a0 n := fun _ => rfl
  have e46 : ∀ n, f46 (a0, n) = (atP a0 n).1 := fun _ => rfl
  have e47 : ∀ a b : Bx, bOK a → bOK b → f47 (a, b) = chg a b := fun a b ha hb => by
    have q : ∀ r s : R2, rOK r → rOK s → f106 (s, r) = mns s r := fun r s hr hs => by
      obtain ⟨_, _, _⟩ := hr
      obtain ⟨_, _, _⟩ := hs
      unfold f106 mns w64
      refine Prod.ext (wr ?_ ?_) (wr ?_ ?_) <;> dsimp only <;> omega
    exact Prod.ext (q _ _ ha.1 hb.1) (Prod.ext (q _ _ ha.2.1 hb.2.1) (q _ _ ha.2.2 hb.2.2))
  have pE : (pfOf a0).2 = 0 → ∀ n, f45_pre (a0, n) := fun h n => by
    have ok := pfOf_ok h
    have := ok.len
    exact ⟨ok.pos, show a0.length ≤ 1048576 by omega⟩
  have pA : (pfOf a0).2 = 0 → ∀ n, atE a0 n = 0 → f46_pre (a0, n) := fun h n hn => ⟨pfOf_ok h, (atE_iff (pfOf_ok h) n).2.2 hn⟩
  simp only [e43, e39, e41, e42, e44, e45, e46]
  rw [e8]
  refine br_two (fun h => by cases h) fun _ => br_weak (br_if (fun _ => hT) fun hl => ?_)
  have p40 : f40_pre a0 := show a0.length ≤ 1048576 by omega
  refine ⟨p40, p40, p40, br_two (fun h => by simp at h) fun _ => br_two (fun h => by simp at h) fun _ => ?_⟩
  refine JoinQ.use (fun v => v = (if (pfOf a0).2 = 0 then hE a1 else (pfOf a0).2, ())) (fun G hG => ?_) fun v hv => ?_
  · refine br_two (fun h => hG _ ?_) fun h => hG _ ?_
    · rw [if_pos (beq_iff_eq.1 h)]
    · rw [if_neg (beq_eq_false_iff_ne.1 h)]
  subst hv
  dsimp only
  refine JoinQ.use (fun v => v = (wE a0 a1, ())) (fun G hG => ?_) fun v hv => ?_
  · refine br_two (fun h => ?_) fun h => hG _ ?_
    · have h := beq_iff_eq.1 h
      by_cases hp : (pfOf a0).2 = 0
      · rw [if_pos hp] at h
        exact ⟨pE hp _, hG _ (by rw [wE, if_neg (fun hh => hh hp), if_neg (fun hh => hh h)])⟩
      · rw [if_neg hp] at h; exact absurd h hp
    · have h := beq_eq_false_iff_ne.1 h
      by_cases hp : (pfOf a0).2 = 0
      · rw [if_pos hp] at h ⊢
        rw [wE, if_neg (fun hh => hh hp), if_pos h]
      · rw [if_neg hp, wE, if_pos hp]
  subst hv
  dsimp only
  refine JoinQ.use0 True (fun G hG => ?_) fun _ => ?_
  · have hj := hG trivial
    rw [windAt_E]
    by_cases hw : wE a0 a1 = 0
    · rw [hw, if_pos rfl]
      refine br_two (fun h => by simp at h) fun _ => br_two (fun _ => br_two (fun h => by simp at h) fun _ => ⟨pA (wE_zero hw).1 _ (wE_zero hw).2.2, br_two (fun h => by simp at h) fun _ => hj⟩) fun h => by simp at h
    · rw [if_neg hw]
      refine br_two (fun _ => br_two (fun h => by simp at h) fun _ => br_two (fun h => by simp [b0] at h) fun _ => br_two (fun h => absurd (beq_iff_eq.1 h) hw) fun _ => hj) fun h => absurd (bne_f.1 h) hw
  refine JoinQ.use (fun v => v = (frst [(pfOf a0).2, hE a2.1], ())) (fun G hG => ?_) fun v hv => ?_
  · refine br_two (fun h => hG _ ?_) fun h => hG _ ?_
    · simp [frst_cons, frst_nil, beq_iff_eq.1 h]
    · simp [frst_cons, frst_nil, beq_eq_false_iff_ne.1 h]
  subst hv
  dsimp only
  refine JoinQ.use (fun v => v = (frst [(pfOf a0).2, hE a2.1, hE a2.2], ())) (fun G hG => ?_) fun v hv => ?_
  · have e := frst_app [hE a2.2] [(pfOf a0).2, hE a2.1]
    refine br_two (fun h => hG _ ?_) fun h => hG _ ?_
    · rw [if_pos (beq_iff_eq.1 h)] at e
      refine Prod.ext (Eq.trans ?_ e.symm) rfl
      simp [frst_cons, frst_nil]
    · rw [if_neg (beq_eq_false_iff_ne.1 h)] at e
      exact Prod.ext e.symm rfl
  subst hv
  dsimp only
  refine JoinQ.use (fun v => v = (chgE a0 a2, ())) (fun G hG => ?_) fun v hv => ?_
  · have e := frst_app [if a2.1 ≤ a2.2 then 0 else 9] [(pfOf a0).2, hE a2.1, hE a2.2]
    have e' : chgE a0 a2 = frst ([(pfOf a0).2, hE a2.1, hE a2.2] ++ [if a2.1 ≤ a2.2 then 0 else 9]) := rfl
    rw [← e'] at e
    refine br_two (fun h => ?_) fun h => hG _ ?_
    · rw [if_pos (beq_iff_eq.1 h)] at e
      refine br_if (fun h2 => hG _ ?_) fun h2 => hG _ ?_
      · rw [e, if_neg (by omega), frst_cons, if_neg (by omega)]
      · rw [e, if_pos (by omega), beq_iff_eq.1 h]; rfl
    · rw [if_neg (beq_eq_false_iff_ne.1 h)] at e
      exact Prod.ext e.symm rfl
  subst hv
  dsimp only
  refine JoinQ.use (fun v => v = (cD a0 a2, ())) (fun G hG => ?_) fun v hv => ?_
  · refine br_two (fun h => ⟨pE (chgE_zero (beq_iff_eq.1 h)) _, hG _ ?_⟩) fun h => hG _ ?_
    · rw [cD, if_pos (beq_iff_eq.1 h)]
    · rw [cD, if_neg (beq_eq_false_iff_ne.1 h)]
  subst hv
  dsimp only
  refine JoinQ.use (fun v => v = (cE a0 a2, ())) (fun G hG => ?_) fun v hv => ?_
  · refine br_two (fun h => ⟨pE (cD_zero (beq_iff_eq.1 h)).1 _, hG _ ?_⟩) fun h => hG _ ?_
    · rw [cE, if_pos (beq_iff_eq.1 h)]
    · rw [cE, if_neg (beq_eq_false_iff_ne.1 h)]
  subst hv
  dsimp only
  rw [chgIn_E]
  by_cases hc : cE a0 a2 = 0
  · obtain ⟨hp, _, h1, h2⟩ := cE_zero hc
    rw [hc, if_pos rfl]
    refine br_two (fun h => by simp at h) fun _ => br_two (fun _ => ⟨pA hp _ h1, pA hp _ h2, hKb _ ?_⟩) fun h => by simp at h
    have ok := pfOf_ok hp
    have e := e47 (atP a0 a2.1).1 (atP a0 a2.2).1 (at_ok ok (pA hp _ h1).2.1 (pA hp _ h1).2.2).1 (at_ok ok (pA hp _ h2).2.1 (pA hp _ h2).2.2).1
    rw [e]
    simp
  · rw [if_neg hc]
    refine br_two (fun _ => br_two (fun _ => hKb _ ?_) fun h => by simp at h) fun h => absurd (bne_f.1 h) hc
    simp [b0]
theorem f6_fn : f6_e.fn = f6 := rfl
theorem f6_ok : EntryOK Tryz.prog 6 f6_e := by
  refine entryF progOK (EnvOK.cons f8_ok (EnvOK.cons f39_ok (EnvOK.cons f40_ok (EnvOK.cons f41_ok (EnvOK.cons f42_ok (EnvOK.cons f43_ok (EnvOK.cons f44_ok (EnvOK.cons f45_ok (EnvOK.cons f46_ok (EnvOK.cons f47_ok (EnvOK.nil))))))))))) (A := f6_A) (d := 6) Tryz.func6 rfl rfl rfl rfl (fun _ _ => trivial) fun x hpre => ?_
  obtain ⟨a0, a1, a2⟩ := x
  exact f6_t a0 a1 a2 _ fun _ h => h.trans (congrFun f6_fn.symm _)
end Go.Proofs.YtglijnhkdnhofaaGreat
end
