/- What functions of the program compute, each proved once, part 8. -/
import Derived.Test.YtdhekhichomoiaaPiC
import Derived.Test.YtdhekhichomoiaaFnA
import Derived.Test.YtdhekhichomoiaaFnC
import Derived.Test.YtdhekhichomoiaaFnD
import Derived.Test.YtdhekhichomoiaaFnF
import Derived.Test.YtdhekhichomoiaaFnG
import Derived.Test.YtdhekhichomoiaaFnE

namespace Go.Proofs.Ytdhekhichomoiaa
open Go Go.Pi Go.RowKit
set_option maxRecDepth 100000
set_option linter.unusedVariables false
set_option linter.unusedSimpArgs false

def f12 (x : (List (Int × Int) × List (Int × Int) × Int) × List (Int × Int)) : Bool := true
def f12_e : Entry := { doms := [(true, (.pair (.sl (.pair (.int .i64) (.int .i64))) (.pair (.sl (.pair (.int .i64) (.int .i64))) (.int .i64)))), (false, (.sl (.pair (.int .i64) (.int .i64))))], cods := [(false, .bool)], pre := fun _ => True, fn := f12, uq := false, total := true }
def f12_E : Env := [(16, f16_e), (24, f24_e), (26, f26_e), (28, f28_e), (42, f42_e), (70, f70_e), (71, f71_e), (72, f72_e), (73, f73_e), (74, f74_e), (75, f75_e), (76, f76_e), (77, f77_e)]
def f12_A : Anns := { loops := [(1572921, { tms := [(1, .keep), (2, .keep), (7, .keep), (8, .keep), (9, .keep), (10, .keep), (12, .keep), (13, .data false (.int .i64))], obs := [(1048576, .keep), (1054728, .keep), (1055750, .keep)], fz := [] }),
  (1572929, { tms := [(1, .keep), (2, .keep), (7, .keep), (8, .keep), (12, .keep)], obs := [(1048576, .keep), (1054728, .keep)], fz := [] })], own := [] }
theorem f12_run (a0 : List (Int × Int) × List (Int × Int) × Int) (a1 : List (Int × Int)) (K : Bool → Prop) : runF Try.prog f12_E f12_A 6 Try.f12 f12_e.doms f12_e.cods (a0, a1) K =
    (br (!(f16 ()))
    (K false)
    (br (!(f24 a1))
    (K true)
    (br (lenOk (a0.1.length))
    (br (decide (((a0.1.length) : Int) > 14))
    (K true)
    (br (lenOk (a0.2.1.length))
    (br (decide (((a0.2.1.length) : Int) > 14))
    (K true)
    (f71_pre a0 ∧
    f71_pre a0 ∧
    f26_pre a1 ∧
    f71_pre a0 ∧
    br ((f70 ((f71 a0).1, ((f71 a0).2))).2 != (f74 a0).2)
    (K false)
    (br ((f70 ((f71 a0).1, ((f71 a0).2))).1 != (f74 a0).1)
    (K false)
    (JoinQ (V := Int × Unit) (fun J => (fun (join1 : Int → Prop) =>
    br ((f74 a0).2 == 0)
    (br (lenOk (a0.1.length))
    (br (decide (a0.2.2 > ((a0.1.length) : Int)))
    (join1 19)
    (join1 ((f74 a0).2)))
    True)
    (join1 ((f74 a0).2))) (fun j1_0 => J (j1_0, ()))) (fun v => (fun (j1_0 : Int) =>
    JoinQ (V := Unit) (fun J => (fun (join2 : Prop) =>
    br (j1_0 != 0)
    (br ((f73 ((f71 a0).1, ((f71 a0).2))).2 != j1_0)
    (K false)
    (br (!((((f73 ((f71 a0).1, ((f71 a0).2))).1).1 == 0) && (((((f73 ((f71 a0).1, ((f71 a0).2))).1).2).1 == 0) && ((((((f73 ((f71 a0).1, ((f71 a0).2))).1).2).2).1 == 0) && ((((((f73 ((f71 a0).1, ((f71 a0).2))).1).2).2).2 == 0) && true)))))
    (K false)
    (br (j1_0 == 0)
    (br ((f73 ((f71 a0).1, ((f71 a0).2))).2 != 0)
    (K false)
    (f75_pre a0 ∧
    br (!((((f73 ((f71 a0).1, ((f71 a0).2))).1).1 == (f75 a0).1) && (((((f73 ((f71 a0).1, ((f71 a0).2))).1).2).1 == ((f75 a0).2).1) && ((((((f73 ((f71 a0).1, ((f71 a0).2))).1).2).2).1 == (((f75 a0).2).2).1) && ((((((f73 ((f71 a0).1, ((f71 a0).2))).1).2).2).2 == (((f75 a0).2).2).2) && true)))))
    (K false)
    (join2)))
    (join2))))
    (br (j1_0 == 0)
    (br ((f73 ((f71 a0).1, ((f71 a0).2))).2 != 0)
    (K false)
    (f75_pre a0 ∧
    br (!((((f73 ((f71 a0).1, ((f71 a0).2))).1).1 == (f75 a0).1) && (((((f73 ((f71 a0).1, ((f71 a0).2))).1).2).1 == ((f75 a0).2).1) && ((((((f73 ((f71 a0).1, ((f71 a0).2))).1).2).2).1 == (((f75 a0).2).2).1) && ((((((f73 ((f71 a0).1, ((f71 a0).2))).1).2).2).2 == (((f75 a0).2).2).2) && true)))))
    (K false)
    (join2)))
    (join2))) (J ())) (fun v =>
    br ((f42 ((f74 a0).2, (f28 a1))) != 0)
    (br ((f72 (((f71 a0).1, ((f71 a0).2)), (f26 a1))).2 == (f42 ((f74 a0).2, (f28 a1))))
    (K (f76 ((((f72 (((f71 a0).1, ((f71 a0).2)), (f26 a1))).1).1, (((f72 (((f71 a0).1, ((f71 a0).2)), (f26 a1))).1).2)), (([] : List (Int × Int)), (([] : List (Int × Int)), 0)))))
    (K false))
    (f77_pre (a0, a1) ∧
    br (!(f77 (a0, a1)).2)
    (br ((f72 (((f71 a0).1, ((f71 a0).2)), (f26 a1))).2 == 20)
    (K (f76 ((((f72 (((f71 a0).1, ((f71 a0).2)), (f26 a1))).1).1, (((f72 (((f71 a0).1, ((f71 a0).2)), (f26 a1))).1).2)), (([] : List (Int × Int)), (([] : List (Int × Int)), 0)))))
    (K false))
    (br ((f72 (((f71 a0).1, ((f71 a0).2)), (f26 a1))).2 == 0)
    (K (f76 ((((f72 (((f71 a0).1, ((f71 a0).2)), (f26 a1))).1).1, (((f72 (((f71 a0).1, ((f71 a0).2)), (f26 a1))).1).2)), (((f77 (a0, a1)).1).1, (((f77 (a0, a1)).1).2)))))
    (K false))))) v.1)))))
    True))
    True))) := by kernel_rfl
theorem f12_t (a0 : List (Int × Int) × List (Int × Int) × Int) (a1 : List (Int × Int)) (K : Bool → Prop) (hK : ∀ y : Bool, y = f12 (a0, a1) → K y) : RunF Try.prog f12_E f12_A 6 Try.f12 f12_e.doms f12_e.cods (a0, a1) K := by
  refine ⟨?_⟩
  rw [f12_run a0 a1 K]
  have kt : K true := hK _ (by simp [f12])
  rw [show f16 () = true from rfl, Bool.not_true, br_f]
  by_cases h24 : f24 a1 = false
  · rw [h24, Bool.not_false, br_t]
    exact kt
  have h24 : f24 a1 = true := by simpa using h24
  rw [h24, Bool.not_true, br_f, br_true_, lenOk_iff]
  intro hl0
  rw [br_dec]
  refine ⟨fun _ => kt, fun h14 => ?_⟩
  rw [br_true_]
  intro _
  rw [br_dec]
  refine ⟨fun _ => kt, fun ht14 => ?_⟩
  have hl1 : a1.length ≤ 50 := by simpa [f24] using h24
  have hp71 : f71_pre a0 := ⟨by omega, by omega⟩
  have hp26 : f26_pre a1 := by show a1.length ≤ _; omega
  have i71 : f71 a0 = a0 := rfl
  have i26 : f26 a1 = a1 := rfl
  have i70 : f70 a0 = chkS a0 := rfl
  have i74 : f74 a0 = chkS a0 := rfl
  have i28 : f28 a1 = (f33 a1).2 := rfl
  have eta2 : ∀ g : List (Int × Int) × List (Int × Int) × Int, (g.1, g.2) = g := fun g => rfl
  have s1 : ∀ n : Int, (n != n) = false := fun n => by simp
  have s2 : ∀ n : Int, (n == n) = true := fun n => by simp
  have z0 : ((0 : Int) == 0) = true := rfl
  have z1 : ((0 : Int) != 0) = false := rfl
  refine ⟨hp71, hp71, hp26, hp71, ?_⟩
  simp only [i71, i26, i70, i74, i28, eta2, s1, br_f]
  refine JoinQ.use (fun v => v.1 = byE a0) (fun G hG => ?_) (fun v hv => ?_)
  · rw [br_both]
    refine ⟨fun h => ?_, fun h => hG _ ?_⟩
    · have h : (chkS a0).2 = 0 := by simpa using h
      rw [br_true_]
      intro _
      rw [br_dec]
      refine ⟨fun h2 => hG _ ?_, fun h2 => hG _ ?_⟩
      · show (19 : Int) = byE a0
        simp [byE, f42, f94, h, show ¬ a0.2.2 ≤ (a0.1.length : Int) by omega]
      · show (chkS a0).2 = byE a0
        simp [byE, f42, f94, h, show a0.2.2 ≤ (a0.1.length : Int) by omega]
    · have h : ¬ (chkS a0).2 = 0 := by simpa using h
      show (chkS a0).2 = byE a0
      simp [byE, f42, h]
  obtain ⟨e, u⟩ := v
  simp only at hv
  subst hv
  refine JoinQ.use0 True (fun G hG => ?_) (fun _ => ?_)
  · have hG := hG trivial
    by_cases hE : byE a0 = 0
    · have e73 : f73 a0 = (byF a0.1, 0) := by rw [f73, if_neg (fun h => h hE)]
      have hs := chk_ok (f42_zz hE).1
      have hp75 : f75_pre a0 := ⟨hs.lags.1, hs.lags.2, fun j => by
        by_cases hj : j < a0.1.length
        · rw [getD_lt hj]
          have := hs.each _ (List.getElem_mem hj)
          simp only [inR]
          omega
        · rw [show a0.1.getD j (0, 0) = (0, 0) by simp [List.getD_eq_getElem?_getD, List.getElem?_eq_none (Nat.le_of_not_lt hj)]]
          simp [inR]⟩
      have e75 : f75 a0 = byF a0.1 := rfl
      simp only [hE, e73, e75, hp75, true_and, s1, s2, Bool.and_true, Bool.not_true, br_t, br_f]
      exact hG
    · have e73 : f73 a0 = ((0, 0, 0, 0), byE a0) := by rw [f73, if_pos hE]
      have n1 : (byE a0 == 0) = false := by simpa using hE
      have n2 : (byE a0 != 0) = true := by simpa using hE
      simp only [n1, n2, e73, s1, s2, z0, Bool.and_true, Bool.not_true, br_t, br_f]
      exact hG
  have iE : f42 ((chkS a0).2, (f33 a1).2) = addE a0 a1 := rfl
  rw [iE]
  have same : ∀ x, f76 (x, x) = true := fun x => by simp [f76]
  by_cases hE : addE a0 a1 = 0
  · have hs := chk_ok (f42_zz hE).1
    have hp77 : f77_pre (a0, a1) := ⟨hs, by show a1.length ≤ _; omega⟩
    by_cases hB : addBad a0 a1 = true
    · have e72 : f72 (a0, a1) = (([], [], 0), 20) := by
        simp only [f72]
        rw [if_neg (fun h => h hE), if_pos hB]
      have e77 : f77 (a0, a1) = (([], [], 0), false) := by
        simp only [f77]
        rw [if_pos hB]
      simp only [hE, e72, e77, hp77, true_and, s1, s2, Bool.not_false, same, br_t, br_f]
      exact kt
    · have e72 : f72 (a0, a1) = (addTo a0 a1, 0) := by
        simp only [f72]
        rw [if_neg (fun h => h hE), if_neg hB]
      have e77 : f77 (a0, a1) = (addTo a0 a1, true) := by
        simp only [f77]
        rw [if_neg hB]
      simp only [hE, e72, e77, hp77, true_and, s1, s2, Bool.not_true, same, br_t, br_f]
      exact kt
  · have e72 : f72 (a0, a1) = (([], [], 0), addE a0 a1) := by
      simp only [f72]
      rw [if_pos hE]
    have n2 : (addE a0 a1 != 0) = true := by simpa using hE
    simp only [n2, e72, s2, same, br_t]
    exact kt
theorem f12_fn : f12_e.fn = f12 := rfl
theorem f12_ok : EntryOK Try.prog 12 f12_e := by
  refine entryF progOK (EnvOK.cons f16_ok (EnvOK.cons f24_ok (EnvOK.cons f26_ok (EnvOK.cons f28_ok (EnvOK.cons f42_ok (EnvOK.cons f70_ok (EnvOK.cons f71_ok (EnvOK.cons f72_ok (EnvOK.cons f73_ok (EnvOK.cons f74_ok (EnvOK.cons f75_ok (EnvOK.cons f76_ok (EnvOK.cons f77_ok (EnvOK.nil)))))))))))))) (A := f12_A) (d := 6) Try.func12 rfl rfl (fun _ _ => trivial) fun x hpre => ?_
  obtain ⟨a0, a1⟩ := x
  exact f12_t a0 a1 _ fun _ h => h.trans (congrFun f12_fn.symm _)
end Go.Proofs.Ytdhekhichomoiaa
