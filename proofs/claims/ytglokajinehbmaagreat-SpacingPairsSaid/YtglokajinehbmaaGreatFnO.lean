/- What functions of the program compute, each proved once, part 15. -/
import Derived.Test.YtglokajinehbmaaGreatPiD
import Derived.Test.YtglokajinehbmaaGreatFnA
import Derived.Test.YtglokajinehbmaaGreatFnN

namespace Go.Proofs.YtglokajinehbmaaGreat
open Go Go.Pi Go.RowKit
set_option maxRecDepth 100000
set_option linter.unusedVariables false
set_option linter.unusedSimpArgs false

def f16 (x : List (Int × Int) × List (Int × Int)) : Bool := decide (x.1 = x.2)
def f16_e : Entry := { doms := [(false, (.sl (.pair (.int .i64) (.int .i64)))), (false, (.sl (.pair (.int .i64) (.int .i64))))], cods := [(false, .bool)], pre := fun _ => True, fn := f16, uq := false, total := true }
def f16_E : Env := []
def f16_A : Anns := { loops := [(1048576, { tms := [(0, .keep), (1, .keep), (5, .data false (.int .i64))], obs := [], fz := [] })], own := [] }
theorem f16_run (a0 : List (Int × Int)) (a1 : List (Int × Int)) (K : Bool → Prop) : runF Tryz.prog f16_E f16_A 6 Tryz.f16 f16_e.doms f16_e.cods (a0, a1) K =
    (br (lenOk (a0.length))
    (br (lenOk (a1.length))
    (br (((a0.length) : Int) != ((a1.length) : Int))
    (K false)
    (LoopP (V := Int × Unit) (fun again v => (fun (again1 : Int → Prop) (v1_0 : Int) =>
    br (lenOk (a0.length))
    (br (decide (v1_0 < ((a0.length) : Int)))
    (br (decide (0 ≤ v1_0) && decide (v1_0 < ((a0.length) : Int)))
    (br (decide (0 ≤ v1_0) && decide (v1_0 < ((a1.length) : Int)))
    (br (!(((a0.getD v1_0.toNat (0, 0)).1 == (a1.getD v1_0.toNat (0, 0)).1) && (((a0.getD v1_0.toNat (0, 0)).2 == (a1.getD v1_0.toNat (0, 0)).2) && true)))
    (K false)
    (again1 (IntKind.i64.wrap (v1_0 + 1))))
    False)
    False)
    (K true))
    True)
    (fun v1_0 => again (v1_0, ())) v.1) (0, ())))
    True)
    True) := by kernel_rfl
theorem f16_t (a0 : List (Int × Int)) (a1 : List (Int × Int)) (K : Bool → Prop) (hK : ∀ y : Bool, y = f16 (a0, a1) → K y) : RunF Tryz.prog f16_E f16_A 6 Tryz.f16 f16_e.doms f16_e.cods (a0, a1) K := by
  refine ⟨?_⟩
  rw [f16_run a0 a1 K]
  have hK : K (decide (a0 = a1)) := hK _ rfl
  rw [br_true_, br_true_]
  intro _ _
  rw [br_both]
  refine ⟨fun h => same_len hK (cast_ne.1 h), fun h => ?_⟩
  have hl := cast_ne_f.1 h
  refine sameW (d := (0, 0)) hK hl (fun again i hi hag hno hend => ?_)
  dsimp only
  rw [br_true_]
  intro hlen
  have hlen := lenOk_iff.1 hlen
  rw [br_dec]
  refine ⟨fun hlt => ?_, fun hlt => hend (by omega)⟩
  have hlt : i < a0.length := by omega
  rw [br_false_]
  refine ⟨inb (by omega) (by omega), ?_⟩
  rw [br_false_]
  refine ⟨inb (by omega) (by omega), ?_⟩
  simp only [Int.toNat_natCast]
  rw [br_both, wr (n := (i : Int) + 1) (by omega) (by omega)]
  refine ⟨fun hne => hno hlt fun he => ?_, fun heq => hag hlt ?_⟩
  · rw [he] at hne
    simp at hne
  · simp only [Bool.not_eq_false', Bool.and_eq_true, beq_iff_eq] at heq
    exact Prod.ext heq.1 heq.2.1
theorem f16_fn : f16_e.fn = f16 := rfl
theorem f16_ok : EntryOK Tryz.prog 16 f16_e := by
  refine entryF progOK (EnvOK.nil) (A := f16_A) (d := 6) Tryz.func16 rfl rfl rfl rfl (fun _ _ => trivial) fun x hpre => ?_
  obtain ⟨a0, a1⟩ := x
  exact f16_t a0 a1 _ fun _ h => h.trans (congrFun f16_fn.symm _)
end Go.Proofs.YtglokajinehbmaaGreat
