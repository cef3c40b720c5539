/- What functions of the program compute, each proved once, part 8. -/
import Derived.Test.YtglijnhkdnhofaaGreatPiD
import Derived.Test.YtglijnhkdnhofaaGreatFnA
import Derived.Test.YtglijnhkdnhofaaGreatFnB
import Derived.Test.YtglijnhkdnhofaaGreatFnC

namespace Go.Proofs.YtglijnhkdnhofaaGreat
open Go Go.Pi Go.RowKit
set_option maxRecDepth 100000
set_option linter.unusedVariables false
set_option linter.unusedSimpArgs false

def vtxW (l : List Rd) : List WV × Int := if (rdOf l).2 ≠ 0 then ([], (rdOf l).2) else if (rkOwn (l.map (·.1))).length ≠ 3 then ([], 19) else if (vtx l).length = 0 then ([], 12) else (vtx l, 0)
def f10 (l : List ((Int × Int × Int) × Int × Int)) : List (Int × Int × Int × Int) × Int := vtxW l
def f10_e : Entry := { doms := [(false, (.sl (.pair (.pair (.int .i64) (.pair (.int .i64) (.int .i64))) (.pair (.int .i64) (.int .i64)))))], cods := [(false, (.sl (.pair (.int .i64) (.pair (.int .i64) (.pair (.int .i64) (.int .i64)))))), (false, (.int .i64))], pre := fun _ => True, fn := f10, uq := false, total := true }
def f10_E : Env := [(59, f59_e), (60, f60_e), (63, f63_e)]
def f10_A : Anns := { loops := [], own := [] }
theorem f10_run (a0 : List ((Int × Int × Int) × Int × Int)) (K : (List (Int × Int × Int × Int) × Int) → Prop) : runF Tryz.prog f10_E f10_A 6 Tryz.f10 f10_e.doms f10_e.cods a0 K =
    (br ((f60 a0).2 == 0)
    (br ((f63 ((f60 a0).1)) != 0)
    (K (([] : List (Int × Int × Int × Int)), (f63 ((f60 a0).1))))
    (f59_pre ((f60 a0).1) ∧
    br (lenOk ((f59 ((f60 a0).1)).length))
    (br ((((f59 ((f60 a0).1)).length) : Int) == 0)
    (K (([] : List (Int × Int × Int × Int)), 12))
    (K ((f59 ((f60 a0).1)), 0)))
    True))
    (br ((f60 a0).2 != 0)
    (K (([] : List (Int × Int × Int × Int)), (f60 a0).2))
    (f59_pre ((f60 a0).1) ∧
    br (lenOk ((f59 ((f60 a0).1)).length))
    (br ((((f59 ((f60 a0).1)).length) : Int) == 0)
    (K (([] : List (Int × Int × Int × Int)), 12))
    (K ((f59 ((f60 a0).1)), 0)))
    True))) := by kernel_rfl
theorem f10_t (a0 : List ((Int × Int × Int) × Int × Int)) (K : (List (Int × Int × Int × Int) × Int) → Prop) (hK : ∀ y : List (Int × Int × Int × Int) × Int, y = f10 a0 → K y) : RunF Tryz.prog f10_E f10_A 6 Tryz.f10 f10_e.doms f10_e.cods a0 K := by
  refine ⟨?_⟩
  rw [f10_run a0 K]
  have e60 : (f60 a0).2 = (rdOf a0).2 := rfl
  have e61 : (f60 a0).1 = a0 := rfl
  have e63 : f63 a0 = if (rkOwn (a0.map (·.1))).length = 3 then 0 else 19 := rfl
  have e59 : f59 a0 = vtx a0 := rfl
  have e0 : f10 a0 = vtxW a0 := rfl
  simp only [e60, e61, e63, e59]
  refine br_two (fun h => ?_) fun h => br_two (fun h2 => hK _ ?_) fun h2 => ?_
  · have h := beq_iff_eq.1 h
    have hle := (rdOf_ok h).rdLe
    by_cases h3 : (rkOwn (a0.map (·.1))).length = 3
    · rw [if_pos h3]
      refine br_two (fun h4 => by simp at h4) fun _ => ⟨hle, ?_⟩
      refine br_weak (br_two (fun h5 => hK _ ?_) fun h5 => hK _ ?_)
      · have h5 := beq_iff_eq.1 h5
        rw [e0, vtxW, if_neg (fun hh => hh h), if_neg (fun hh => hh h3), if_pos (by omega)]
      · have h5 := beq_eq_false_iff_ne.1 h5
        rw [e0, vtxW, if_neg (fun hh => hh h), if_neg (fun hh => hh h3), if_neg (by omega)]
    · rw [if_neg h3]
      refine br_two (fun _ => hK _ ?_) fun h4 => by simp at h4
      rw [e0, vtxW, if_neg (fun hh => hh h), if_pos h3]
  · have h2 := bne_t.1 h2
    rw [e0, vtxW, if_pos h2]
  · exact absurd (bne_f.1 h2) (beq_eq_false_iff_ne.1 h)
theorem f10_fn : f10_e.fn = f10 := rfl
theorem f10_ok : EntryOK Tryz.prog 10 f10_e := by
  refine entryF progOK (EnvOK.cons f59_ok (EnvOK.cons f60_ok (EnvOK.cons f63_ok (EnvOK.nil)))) (A := f10_A) (d := 6) Tryz.func10 rfl rfl rfl rfl (fun _ _ => trivial) fun x hpre => ?_
  exact f10_t x _ fun _ h => h.trans (congrFun f10_fn.symm _)
end Go.Proofs.YtglijnhkdnhofaaGreat
