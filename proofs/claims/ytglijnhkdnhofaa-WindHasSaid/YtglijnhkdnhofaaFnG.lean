/- What functions of the program compute, each proved once, part 7. -/
import Derived.Test.YtglijnhkdnhofaaPiD
import Derived.Test.YtglijnhkdnhofaaFnA
import Derived.Test.YtglijnhkdnhofaaFnE
import Derived.Test.YtglijnhkdnhofaaFnF

namespace Go.Proofs.Ytglijnhkdnhofaa
open Go Go.Pi Go.RowKit
set_option maxRecDepth 100000
set_option linter.unusedVariables false
set_option linter.unusedSimpArgs false

def f5 (x : List ((Int × Int × Int) × Int × Int) × Int × Int × Int × Int) : Bool := true
def f5_e : Entry := { doms := [(false, (.sl (.pair (.pair (.int .i64) (.pair (.int .i64) (.int .i64))) (.pair (.int .i64) (.int .i64))))), (true, (.pair (.int .i64) (.pair (.int .i64) (.pair (.int .i64) (.int .i64)))))], cods := [(false, .bool)], pre := fun _ => True, fn := f5, uq := false, total := true }
def f5_E : Env := [(10, f10_e), (21, f21_e), (23, f23_e), (31, f31_e), (32, f32_e), (33, f33_e), (34, f34_e)]
def f5_A : Anns := { loops := [], own := [] }
theorem f5_run (a0 : List ((Int × Int × Int) × Int × Int)) (a1 : Int × Int × Int × Int) (K : Bool → Prop) : runF Try.prog f5_E f5_A 6 Try.f5 f5_e.doms f5_e.cods (a0, a1) K =
    (br (!(f10 ()))
    (K false)
    (br (!(f21 a0))
    (K true)
    (f23_pre a0 ∧
    br ((f32 a0) == 0)
    (br ((f33 a1) != 0)
    (br ((f31 ((f23 a0), a1)).2 == (f33 a1))
    (K (!(f31 ((f23 a0), a1)).1))
    (K false))
    (br ((f31 ((f23 a0), a1)).2 == 0)
    (K ((f31 ((f23 a0), a1)).1 == (f34 (a0, a1))))
    (K false)))
    (br ((f32 a0) != 0)
    (br ((f31 ((f23 a0), a1)).2 == (f32 a0))
    (K (!(f31 ((f23 a0), a1)).1))
    (K false))
    (br ((f31 ((f23 a0), a1)).2 == 0)
    (K ((f31 ((f23 a0), a1)).1 == (f34 (a0, a1))))
    (K false)))))) := by kernel_rfl
theorem f5_t (a0 : List ((Int × Int × Int) × Int × Int)) (a1 : Int × Int × Int × Int) (K : Bool → Prop) (hK : ∀ y : Bool, y = f5 (a0, a1) → K y) : RunF Try.prog f5_E f5_A 6 Try.f5 f5_e.doms f5_e.cods (a0, a1) K := by
  refine ⟨?_⟩
  rw [f5_run a0 a1 K]
  have e10 : f10 () = true := rfl
  rw [e10]
  refine br_two (fun h => by cases h) fun _ => br_two (fun _ => hK _ rfl) fun h21 => ?_
  have h21 : a0.length ≤ 8 := by
    have : f21 a0 = true := by simpa using h21
    exact of_decide_eq_true this
  refine ⟨show a0.length ≤ 1048576 by omega, ?_⟩
  have e31 : f31 (f23 a0, a1) = if (rdOf a0).2 ≠ 0 then (false, (rdOf a0).2) else if windE a1 ≠ 0 then (false, windE a1) else (a0.all (agR · a1), 0) := rfl
  have e32 : f32 a0 = (rdOf a0).2 := rfl
  have e33 : f33 a1 = windE a1 := rfl
  have e34 : f34 (a0, a1) = a0.all (agR · a1) := rfl
  rw [e31, e32, e33, e34]
  by_cases h1 : (rdOf a0).2 = 0
  · rw [if_neg (fun h => h h1)]
    by_cases h2 : windE a1 = 0
    · rw [if_neg (fun h => h h2)]
      refine br_two (fun _ => br_two (fun h => absurd h2 (bne_t.1 h)) fun _ => br_two (fun _ => hK _ (by simp [f5])) fun h => by simp at h) fun h => by simp [h1] at h
    · rw [if_pos h2]
      refine br_two (fun _ => br_two (fun _ => br_two (fun _ => hK _ rfl) fun h => by simp at h) fun h => by simp [h2] at h) fun h => by simp [h1] at h
  · rw [if_pos h1]
    refine br_two (fun h => by simp [h1] at h) fun _ => br_two (fun _ => br_two (fun _ => hK _ rfl) fun h => by simp at h) fun h => by simp [h1] at h
theorem f5_fn : f5_e.fn = f5 := rfl
theorem f5_ok : EntryOK Try.prog 5 f5_e := by
  refine entryF progOK (EnvOK.cons f10_ok (EnvOK.cons f21_ok (EnvOK.cons f23_ok (EnvOK.cons f31_ok (EnvOK.cons f32_ok (EnvOK.cons f33_ok (EnvOK.cons f34_ok (EnvOK.nil)))))))) (A := f5_A) (d := 6) Try.func5 rfl rfl rfl rfl (fun _ _ => trivial) fun x hpre => ?_
  obtain ⟨a0, a1⟩ := x
  exact f5_t a0 a1 _ fun _ h => h.trans (congrFun f5_fn.symm _)
end Go.Proofs.Ytglijnhkdnhofaa
