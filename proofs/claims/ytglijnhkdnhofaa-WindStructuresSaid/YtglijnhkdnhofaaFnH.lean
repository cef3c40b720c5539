/- What functions of the program compute, each proved once, part 8. -/
import Derived.Test.YtglijnhkdnhofaaPiD
import Derived.Test.YtglijnhkdnhofaaFnA

namespace Go.Proofs.Ytglijnhkdnhofaa
open Go Go.Pi Go.RowKit
set_option maxRecDepth 100000
set_option linter.unusedVariables false
set_option linter.unusedSimpArgs false

def f12 (l : List (Int × Int)) : List (Int × Int) := l
def f12_pre (l : List (Int × Int)) : Prop := l.length ≤ 1048576
def f12_e : Entry := { doms := [(false, (.sl (.pair (.int .i64) (.int .i64))))], cods := [(false, (.sl (.pair (.int .i64) (.int .i64))))], pre := f12_pre, fn := f12, uq := true, total := false }
def f12_E : Env := []
def f12_A : Anns := { loops := [], own := [1049600] }
theorem f12_run (a0 : List (Int × Int)) (K : (List (Int × Int)) → Prop) : runU Try.prog f12_E f12_A 6 Try.f12 f12_e.doms f12_e.cods a0 K =
    (br (roomOk (0 + (a0.length)) 16)
    (K (([] : List (Int × Int)) ++ a0))
    False) := by kernel_rfl
theorem f12_t (a0 : List (Int × Int)) (hpre : f12_pre a0) (K : (List (Int × Int)) → Prop) (hK : ∀ y : List (Int × Int), y = f12 a0 → K y) : RunU Try.prog f12_E f12_A 6 Try.f12 f12_e.doms f12_e.cods a0 K := by
  refine ⟨?_⟩
  rw [f12_run a0 K]
  simp only [br_false_, roomOk_iff]
  have : a0.length ≤ 1048576 := hpre
  exact ⟨by omega, hK _ (by simp [f12])⟩
theorem f12_fn : f12_e.fn = f12 := rfl
theorem f12_ok : EntryOK Try.prog 12 f12_e := by
  refine entryFU progOK (EnvOK.nil) (A := f12_A) (d := 6) Try.func12 rfl rfl rfl (fun h => by cases h) fun x hpre => ?_
  exact f12_t x hpre _ fun _ h => h.trans (congrFun f12_fn.symm _)
end Go.Proofs.Ytglijnhkdnhofaa
