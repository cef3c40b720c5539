/- What functions of the program compute, each proved once, part 5. -/
import Derived.Test.YtglokajinehbmaaGreatPiD
import Derived.Test.YtglokajinehbmaaGreatFnA

namespace Go.Proofs.YtglokajinehbmaaGreat
open Go Go.Pi Go.RowKit
set_option maxRecDepth 100000
set_option linter.unusedVariables false
set_option linter.unusedSimpArgs false

def f11 (p : (List (List Int) × List (List Int)) × List (ByteArray × Int × Int × Int × Int) × List Int) : Int := (probOf p).2
def f11_e : Entry := { doms := [(true, (.pair (.pair (.sl (.sl (.int .i64))) (.sl (.sl (.int .i64)))) (.pair (.sl (.pair .str (.pair (.int .i64) (.pair (.int .i64) (.pair (.int .i64) (.int .i64)))))) (.sl (.int .i64)))))], cods := [(false, (.int .i64))], pre := fun _ => True, fn := f11, uq := false, total := true }
def f11_E : Env := [(49, f49_e)]
def f11_A : Anns := { loops := [], own := [] }
theorem f11_run (a0 : (List (List Int) × List (List Int)) × List (ByteArray × Int × Int × Int × Int) × List Int) (K : Int → Prop) : runF Tryz.prog f11_E f11_A 6 Tryz.f11 f11_e.doms f11_e.cods a0 K =
    (K ((f49 a0).2)) := by kernel_rfl
theorem f11_t (a0 : (List (List Int) × List (List Int)) × List (ByteArray × Int × Int × Int × Int) × List Int) (K : Int → Prop) (hK : ∀ y : Int, y = f11 a0 → K y) : RunF Tryz.prog f11_E f11_A 6 Tryz.f11 f11_e.doms f11_e.cods a0 K := by
  refine ⟨?_⟩
  rw [f11_run a0 K]
  exact hK _ rfl
theorem f11_fn : f11_e.fn = f11 := rfl
theorem f11_ok : EntryOK Tryz.prog 11 f11_e := by
  refine entryF progOK (EnvOK.cons f49_ok (EnvOK.nil)) (A := f11_A) (d := 6) Tryz.func11 rfl rfl rfl rfl (fun _ _ => trivial) fun x hpre => ?_
  exact f11_t x _ fun _ h => h.trans (congrFun f11_fn.symm _)
end Go.Proofs.YtglokajinehbmaaGreat
