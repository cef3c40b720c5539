/- What functions of the program compute, each proved once, part 2. -/
import Derived.Test.YtdhekhichomoiaaFnA

namespace Go.Proofs.Ytdhekhichomoiaa
open Go Go.Pi Go.RowKit
set_option maxRecDepth 100000
set_option linter.unusedVariables false
set_option linter.unusedSimpArgs false

def f16 (x : Unit) : Bool := true
def f16_e : Entry := { doms := [], cods := [(false, .bool)], pre := fun _ => True, fn := f16, uq := false, total := true }
def sM (r : Nat) : Nat := (1053698 * 1099511627776 + r) * 1048576 + 7169
def f16_E : Env := [(92, f92_e), (96, f96_e), (93, f93_e), (94, f94_e), (95, f95_e), (97, f97_e), (98, f98_e), (106, f106_e), (107, f107_e), (108, f108_e), (110, f110_e), (126, f126_e), (127, f127_e), (118, f118_e)]
def f16_A : Anns := { loops := [], own := [sM 1, sM 2, sM 3], unroll := 100 }
theorem f16_run (K : Bool → Prop) : runF Try.prog f16_E f16_A 30 Try.f16 f16_e.doms f16_e.cods () K = ((0 : Int) ≤ 0 ∧ (0 : Int) ≤ 0 ∧ (0 : Int) ≤ 0 ∧ (0 : Int) ≤ 0 ∧ (0 : Int) ≤ 1 ∧ (0 : Int) ≤ 2 ∧ (0 : Int) ≤ 0 ∧ (0 : Int) ≤ 2 ∧ (0 : Int) ≤ 4 ∧ (0 : Int) ≤ 0 ∧ (0 : Int) ≤ 3 ∧ (0 : Int) ≤ 6 ∧ (0 < 2 ∧ 2 ≤ 1073741824) ∧ (0 < 2 ∧ 2 ≤ 1048576) ∧ (0 < 2 ∧ 2 ≤ 1073741824) ∧ (0 < 2 ∧ 2 ≤ 1048576) ∧ (0 < 2 ∧ 2 ≤ 1073741824) ∧ (0 < 2 ∧ 2 ≤ 1048576) ∧ K true) := by kernel_rfl
theorem f16_t (K : Bool → Prop) (hK : ∀ y : Bool, y = f16 () → K y) : RunF Try.prog f16_E f16_A 30 Try.f16 f16_e.doms f16_e.cods () K := by
  refine ⟨?_⟩
  rw [f16_run K]
  refine ⟨by decide, by decide, by decide, by decide, by decide, by decide, by decide, by decide, by decide, by decide, by decide, by decide, by decide, by decide, by decide, by decide, by decide, by decide, hK _ rfl⟩
theorem f16_fn : f16_e.fn = f16 := rfl
theorem f16_ok : EntryOK Try.prog 16 f16_e := by
  refine entryF progOK (EnvOK.cons f92_ok (EnvOK.cons f96_ok (EnvOK.cons f93_ok (EnvOK.cons f94_ok (EnvOK.cons f95_ok (EnvOK.cons f97_ok (EnvOK.cons f98_ok (EnvOK.cons f106_ok (EnvOK.cons f107_ok (EnvOK.cons f108_ok (EnvOK.cons f110_ok (EnvOK.cons f126_ok (EnvOK.cons f127_ok (EnvOK.cons f118_ok EnvOK.nil)))))))))))))) (A := f16_A) (d := 30) Try.func16 rfl rfl rfl (fun _ _ => trivial) fun x hpre => ?_
  exact f16_t _ fun _ h => h.trans (congrFun f16_fn.symm _)
end Go.Proofs.Ytdhekhichomoiaa
