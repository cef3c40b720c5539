/- What functions of the program compute, each proved once, part 9. -/
import Derived.Test.YtglijnhkdnhofaaPiD
import Derived.Test.YtglijnhkdnhofaaFnA
import Derived.Test.YtglijnhkdnhofaaFnG
import Derived.Test.YtglijnhkdnhofaaFnF

namespace Go.Proofs.Ytglijnhkdnhofaa
open Go Go.Pi Go.RowKit
set_option maxRecDepth 100000
set_option linter.unusedVariables false
set_option linter.unusedSimpArgs false

def f13 (x : List Int × Int) : (Int × Int) × Int := ((strIn (x.1.map fun n => (n, n)) x.2).1.1, (strIn (x.1.map fun n => (n, n)) x.2).2)
def f13_pre (x : List Int × Int) : Prop := x.1.length ≤ 1048576
def f13_e : Entry := { doms := [(false, (.sl (.int .i64))), (false, (.int .i64))], cods := [(true, (.pair (.int .i64) (.int .i64))), (false, (.int .i64))], pre := f13_pre, fn := f13, uq := false, total := false }
def f13_E : Env := [(11, f11_e)]
def f13_A : Anns := { loops := [(1048576, { tms := [(1, .keep), (4, .keep), (6, .ref 1053701), (11, .keep), (12, .keep), (13, .data false (.int .i64))], obs := [(1048576, .keep), (1053701, .arr (.uniq) (.pair (.int .i64) (.int .i64)))], fz := [] })], own := [] }
theorem f13_run (a0 : List Int) (a1 : Int) (K : ((Int × Int) × Int) → Prop) : runF Try.prog f13_E f13_A 6 Try.f13 f13_e.doms f13_e.cods (a0, a1) K =
    (br (lenOk (a0.length))
    (LoopP (V := Int × List (Int × Int) × Unit) (fun again v => (fun (again1 : Int → List (Int × Int) → Prop) (v1_0 : Int) (v1_1 : List (Int × Int)) =>
    br (decide (v1_0 < ((a0.length) : Int)))
    (br (decide (0 ≤ v1_0) && decide (v1_0 < ((a0.length) : Int)))
    (br (roomOk ((v1_1.length) + 1) 16)
    (again1 (IntKind.i64.wrap (v1_0 + 1)) (v1_1 ++ ([((a0.getD v1_0.toNat 0), (a0.getD v1_0.toNat 0))] : List (Int × Int))))
    False)
    False)
    (K ((((f11 (v1_1, a1)).1).1), (f11 (v1_1, a1)).2)))
    (fun v1_0 v1_1 => again (v1_0, v1_1, ())) v.1 v.2.1) (0, ([] : List (Int × Int)), ()))
    True) := by kernel_rfl
theorem f13_t (a0 : List Int) (a1 : Int) (hpre : f13_pre (a0, a1)) (K : ((Int × Int) × Int) → Prop) (hK : ∀ y : (Int × Int) × Int, y = f13 (a0, a1) → K y) : RunF Try.prog f13_E f13_A 6 Try.f13 f13_e.doms f13_e.cods (a0, a1) K := by
  refine ⟨?_⟩
  rw [f13_run a0 a1 K]
  have hp : a0.length ≤ 1048576 := hpre
  rw [br_true_]
  intro _
  refine LoopP.of (fun q : Int × List (Int × Int) × Unit => ∃ i : Nat, i ≤ a0.length ∧ q = ((i : Int), (a0.take i).map (fun n => (n, n)), ())) (fun q => ((a0.length : Int) - q.1).toNat) (fun again q hq hag => ?_) ⟨0, by omega, rfl⟩
  obtain ⟨i, hi, rfl⟩ := hq
  dsimp only
  refine br_if (fun hlt => ?_) fun hlt => hK _ ?_
  · have hlt : i < a0.length := by omega
    refine br_must (inb (by omega) (by omega)) (br_must (by rw [roomOk_iff, List.length_map, List.length_take]; omega) ?_)
    rw [wr (n := (i : Int) + 1) (by omega) (by omega), Int.toNat_natCast]
    refine hag _ ⟨i + 1, by omega, ?_⟩ (by dsimp only; omega)
    rw [List.take_add_one, List.getElem?_eq_getElem hlt, getD_lt hlt, List.map_append]
    simp
  · have : i = a0.length := by omega
    subst this
    rw [List.take_length]
    rfl
theorem f13_fn : f13_e.fn = f13 := rfl
theorem f13_ok : EntryOK Try.prog 13 f13_e := by
  refine entryF progOK (EnvOK.cons f11_ok (EnvOK.nil)) (A := f13_A) (d := 6) Try.func13 rfl rfl rfl rfl (fun h => by cases h) fun x hpre => ?_
  obtain ⟨a0, a1⟩ := x
  exact f13_t a0 a1 hpre _ fun _ h => h.trans (congrFun f13_fn.symm _)
end Go.Proofs.Ytglijnhkdnhofaa
