/- What functions of the program compute, each proved once, part 8. -/
import Derived.Test.YtglijnhkdnhofaaGreatPiD
import Derived.Test.YtglijnhkdnhofaaGreatFnA

namespace Go.Proofs.YtglijnhkdnhofaaGreat
open Go Go.Pi Go.RowKit
set_option maxRecDepth 100000
set_option linter.unusedVariables false
set_option linter.unusedSimpArgs false

def f11 (l : List ((Int × Int × Int) × Int × Int)) : List ((Int × Int × Int) × Int × Int) := l
def f11_pre (l : List ((Int × Int × Int) × Int × Int)) : Prop := l.length ≤ 1048576
def f11_e : Entry := { doms := [(false, (.sl (.pair (.pair (.int .i64) (.pair (.int .i64) (.int .i64))) (.pair (.int .i64) (.int .i64)))))], cods := [(false, (.sl (.pair (.pair (.int .i64) (.pair (.int .i64) (.int .i64))) (.pair (.int .i64) (.int .i64)))))], pre := f11_pre, fn := f11, uq := true, total := false }
def f11_E : Env := []
def f11_A : Anns := { loops := [], own := [1049600] }
theorem f11_run (a0 : List ((Int × Int × Int) × Int × Int)) (K : (List ((Int × Int × Int) × Int × Int)) → Prop) : runU Tryz.prog f11_E f11_A 6 Tryz.f11 f11_e.doms f11_e.cods a0 K =
    (br (roomOk (0 + (a0.length)) 40)
    (K (([] : List ((Int × Int × Int) × Int × Int)) ++ a0))
    False) := by kernel_rfl
theorem f11_t (a0 : List ((Int × Int × Int) × Int × Int)) (hpre : f11_pre a0) (K : (List ((Int × Int × Int) × Int × Int)) → Prop) (hK : ∀ y : List ((Int × Int × Int) × Int × Int), y = f11 a0 → K y) : RunU Tryz.prog f11_E f11_A 6 Tryz.f11 f11_e.doms f11_e.cods a0 K := by
  refine ⟨?_⟩
  rw [f11_run a0 K]
  simp only [br_false_, roomOk_iff]
  have : a0.length ≤ 1048576 := hpre
  exact ⟨by omega, hK _ (by simp [f11])⟩
theorem f11_fn : f11_e.fn = f11 := rfl
theorem f11_ok : EntryOK Tryz.prog 11 f11_e := by
  refine entryFU progOK (EnvOK.nil) (A := f11_A) (d := 6) Tryz.func11 rfl rfl rfl (fun h => by cases h) fun x hpre => ?_
  exact f11_t x hpre _ fun _ h => h.trans (congrFun f11_fn.symm _)
end Go.Proofs.YtglijnhkdnhofaaGreat
