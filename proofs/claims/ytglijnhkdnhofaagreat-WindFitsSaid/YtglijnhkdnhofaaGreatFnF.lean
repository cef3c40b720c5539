/- What functions of the program compute, each proved once, part 6. -/
import Derived.Test.YtglijnhkdnhofaaGreatPiD
import Derived.Test.YtglijnhkdnhofaaGreatFnA
import Derived.Test.YtglijnhkdnhofaaGreatFnD
import Derived.Test.YtglijnhkdnhofaaGreatFnE
import Derived.Test.YtglijnhkdnhofaaGreatFnC

namespace Go.Proofs.YtglijnhkdnhofaaGreat
open Go Go.Pi Go.RowKit
set_option maxRecDepth 100000
set_option linter.unusedVariables false
set_option linter.unusedSimpArgs false

def f13 (x : List ((Int × Int × Int) × Int × Int) × Int × Int × Int) : (Int × Int) × Int := headW x.1 x.2
def f13_e : Entry := { doms := [(false, (.sl (.pair (.pair (.int .i64) (.pair (.int .i64) (.int .i64))) (.pair (.int .i64) (.int .i64))))), (true, (.pair (.int .i64) (.pair (.int .i64) (.int .i64))))], cods := [(true, (.pair (.int .i64) (.int .i64))), (false, (.int .i64))], pre := fun _ => True, fn := f13, uq := false, total := true }
def f13_E : Env := [(12, f12_e), (70, f70_e), (71, f71_e)]
def f13_A : Anns := { loops := [], own := [] }
theorem f13_run (a0 : List ((Int × Int × Int) × Int × Int)) (a1 : Int × Int × Int) (K : ((Int × Int) × Int) → Prop) : runF Tryz.prog f13_E f13_A 6 Tryz.f13 f13_e.doms f13_e.cods (a0, a1) K =
    (br ((f12 (a0, a1)).2 != 0)
    (K ((0, 0), (f12 (a0, a1)).2))
    (f70_pre (((f12 (a0, a1)).1).1) ∧
    f71_pre (((f12 (a0, a1)).1).2) ∧
    K (((f70 (((f12 (a0, a1)).1).1)), (f71 (((f12 (a0, a1)).1).2))), 0))) := by kernel_rfl
theorem f13_t (a0 : List ((Int × Int × Int) × Int × Int)) (a1 : Int × Int × Int) (K : ((Int × Int) × Int) → Prop) (hK : ∀ y : (Int × Int) × Int, y = f13 (a0, a1) → K y) : RunF Tryz.prog f13_E f13_A 6 Tryz.f13 f13_e.doms f13_e.cods (a0, a1) K := by
  refine ⟨?_⟩
  rw [f13_run a0 a1 K]
  show br ((rangeW a0 a1).2 != 0) _ _
  refine br_two (fun h => hK _ ?_) fun h => ?_
  · have h := bne_t.1 h
    show _ = headW a0 a1
    rw [headW, if_pos h]; rfl
  · have h := bne_f.1 h
    obtain ⟨h1, h2⟩ := spanW_fs h
    refine ⟨⟨?_, h1.2.1⟩, ⟨?_, h2.2.1⟩, hK _ ?_⟩
    · have := h1.1; exact ⟨by show _ ≤ (rangeW a0 a1).1.1.1; omega, by show (rangeW a0 a1).1.1.1 ≤ _; omega⟩
    · have := h2.1; exact ⟨by show _ ≤ (rangeW a0 a1).1.2.1; omega, by show (rangeW a0 a1).1.2.1 ≤ _; omega⟩
    · show _ = headW a0 a1
      rw [headW, if_neg (fun hh => hh h)]; rfl
theorem f13_fn : f13_e.fn = f13 := rfl
theorem f13_ok : EntryOK Tryz.prog 13 f13_e := by
  refine entryF progOK (EnvOK.cons f12_ok (EnvOK.cons f70_ok (EnvOK.cons f71_ok (EnvOK.nil)))) (A := f13_A) (d := 6) Tryz.func13 rfl rfl rfl rfl (fun _ _ => trivial) fun x hpre => ?_
  obtain ⟨a0, a1⟩ := x
  exact f13_t a0 a1 _ fun _ h => h.trans (congrFun f13_fn.symm _)
end Go.Proofs.YtglijnhkdnhofaaGreat
