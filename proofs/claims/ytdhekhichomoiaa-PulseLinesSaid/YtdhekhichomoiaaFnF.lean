/- What functions of the program compute, each proved once, part 6. -/
import Derived.Test.YtdhekhichomoiaaPiC
import Derived.Test.YtdhekhichomoiaaFnA
import Derived.Test.YtdhekhichomoiaaFnC
import Derived.Test.YtdhekhichomoiaaFnD
import Derived.Test.YtdhekhichomoiaaFnE

namespace Go.Proofs.Ytdhekhichomoiaa
open Go Go.Pi Go.RowKit
set_option maxRecDepth 100000
set_option linter.unusedVariables false
set_option linter.unusedSimpArgs false

def f10 (x : (Int × Int × Int × List Int) × List (List (Int × Int)) × Int) : Bool := true
def f10_e : Entry := { doms := [(true, (.pair (.int .i64) (.pair (.int .i64) (.pair (.int .i64) (.sl (.int .i64)))))), (false, (.sl (.sl (.pair (.int .i64) (.int .i64))))), (false, (.int .i64))], cods := [(false, .bool)], pre := fun _ => True, fn := f10, uq := false, total := true }
def f10_E : Env := [(16, f16_e), (24, f24_e), (26, f26_e), (28, f28_e), (32, f32_e), (35, f35_e), (46, f46_e), (51, f51_e), (59, f59_e), (60, f60_e), (61, f61_e), (62, f62_e), (63, f63_e), (64, f64_e), (65, f65_e)]
def f10_A : Anns := { loops := [(1048576, { tms := [(1, .keep), (2, .keep), (3, .keep), (7, .data false (.int .i64))], obs := [(1048576, .keep)], fz := [] }),
  (1572921, { tms := [(1, .keep), (2, .keep), (3, .keep), (8, .keep), (9, .keep), (10, .data false (.int .i64))], obs := [(1048576, .keep), (1058825, .keep)], fz := [] }),
  (1572929, { tms := [(1, .keep)], obs := [], fz := [] })], own := [] }
theorem f10_run (a0 : Int × Int × Int × List Int) (a1 : List (List (Int × Int))) (a2 : Int) (K : Bool → Prop) : runF Try.prog f10_E f10_A 6 Try.f10 f10_e.doms f10_e.cods (a0, a1, a2) K =
    (br (!(f16 ()))
    (K false)
    (br (!(f32 a0))
    (K true)
    (br (lenOk (a1.length))
    (br (decide (((a1.length) : Int) > 14))
    (K true)
    (LoopP (V := Int × Unit) (fun again v => (fun (again1 : Int → Prop) (v1_0 : Int) =>
    br (lenOk (a1.length))
    (br (decide (v1_0 < ((a1.length) : Int)))
    (br (decide (0 ≤ v1_0) && decide (v1_0 < ((a1.length) : Int)))
    (br (!(f24 (a1.getD v1_0.toNat [])))
    (K true)
    (again1 (IntKind.i64.wrap (v1_0 + 1))))
    False)
    (f35_pre a0 ∧
    f60_pre a1 ∧
    f59_pre (((f35 a0).1, (((f35 a0).2).1, (((f35 a0).2).2))), ((f60 a1), a2)) ∧
    JoinQ (V := Int × Unit) (fun J => (fun (join2 : Int → Prop) =>
    br ((f46 a0) == 0)
    (join2 (f61 (a0, (a1, a2))))
    (join2 (f46 a0))) (fun j2_0 => J (j2_0, ()))) (fun v => (fun (j2_0 : Int) =>
    JoinQ (V := Unit) (fun J => (fun (join3 : Prop) =>
    br (j2_0 != 0)
    (br ((f59 (((f35 a0).1, (((f35 a0).2).1, (((f35 a0).2).2))), ((f60 a1), a2))).2 != j2_0)
    (K false)
    (br (!((((f59 (((f35 a0).1, (((f35 a0).2).1, (((f35 a0).2).2))), ((f60 a1), a2))).1).1 == 0) && (((((f59 (((f35 a0).1, (((f35 a0).2).1, (((f35 a0).2).2))), ((f60 a1), a2))).1).2).1 == 0) && ((((((f59 (((f35 a0).1, (((f35 a0).2).1, (((f35 a0).2).2))), ((f60 a1), a2))).1).2).2).1 == 0) && ((((((f59 (((f35 a0).1, (((f35 a0).2).1, (((f35 a0).2).2))), ((f60 a1), a2))).1).2).2).2 == 0) && true)))))
    (K false)
    (br (j2_0 == 0)
    (br ((f59 (((f35 a0).1, (((f35 a0).2).1, (((f35 a0).2).2))), ((f60 a1), a2))).2 != 0)
    (K false)
    (f62_pre (a0, (a1, a2)) ∧
    br (!((((f59 (((f35 a0).1, (((f35 a0).2).1, (((f35 a0).2).2))), ((f60 a1), a2))).1).1 == (f62 (a0, (a1, a2))).1) && (((((f59 (((f35 a0).1, (((f35 a0).2).1, (((f35 a0).2).2))), ((f60 a1), a2))).1).2).1 == ((f62 (a0, (a1, a2))).2).1) && ((((((f59 (((f35 a0).1, (((f35 a0).2).1, (((f35 a0).2).2))), ((f60 a1), a2))).1).2).2).1 == (((f62 (a0, (a1, a2))).2).2).1) && ((((((f59 (((f35 a0).1, (((f35 a0).2).1, (((f35 a0).2).2))), ((f60 a1), a2))).1).2).2).2 == (((f62 (a0, (a1, a2))).2).2).2) && true)))))
    (K false)
    (join3)))
    (join3))))
    (br (j2_0 == 0)
    (br ((f59 (((f35 a0).1, (((f35 a0).2).1, (((f35 a0).2).2))), ((f60 a1), a2))).2 != 0)
    (K false)
    (f62_pre (a0, (a1, a2)) ∧
    br (!((((f59 (((f35 a0).1, (((f35 a0).2).1, (((f35 a0).2).2))), ((f60 a1), a2))).1).1 == (f62 (a0, (a1, a2))).1) && (((((f59 (((f35 a0).1, (((f35 a0).2).1, (((f35 a0).2).2))), ((f60 a1), a2))).1).2).1 == ((f62 (a0, (a1, a2))).2).1) && ((((((f59 (((f35 a0).1, (((f35 a0).2).1, (((f35 a0).2).2))), ((f60 a1), a2))).1).2).2).1 == (((f62 (a0, (a1, a2))).2).2).1) && ((((((f59 (((f35 a0).1, (((f35 a0).2).1, (((f35 a0).2).2))), ((f60 a1), a2))).1).2).2).2 == (((f62 (a0, (a1, a2))).2).2).2) && true)))))
    (K false)
    (join3)))
    (join3))) (J ())) (fun v =>
    br (lenOk (a1.length))
    (br (((a1.length) : Int) == 0)
    (K true)
    (br (decide (0 ≤ 0) && decide (0 < ((a1.length) : Int)))
    (f26_pre (a1.getD 0 []) ∧
    br (decide (0 ≤ 0) && decide (0 < ((a1.length) : Int)))
    (f26_pre (a1.getD 0 []) ∧
    br (decide (0 ≤ 0) && decide (0 < ((a1.length) : Int)))
    (br ((f28 (a1.getD 0 [])) != 0)
    (br ((f51 (f26 (a1.getD 0 []))).2 == (f28 (a1.getD 0 [])))
    (br ((((((f51 (f26 (a1.getD 0 []))).1).1).1 == 0) && (((((f51 (f26 (a1.getD 0 []))).1).1).2 == 0) && true)) && (((((((f51 (f26 (a1.getD 0 []))).1).2).1).1 == 0) && ((((((f51 (f26 (a1.getD 0 []))).1).2).1).2 == 0) && true)) && ((((((((f51 (f26 (a1.getD 0 []))).1).2).2).1).1 == 0) && (((((((f51 (f26 (a1.getD 0 []))).1).2).2).1).2 == 0) && true)) && ((((((((f51 (f26 (a1.getD 0 []))).1).2).2).2).1 == 0) && (((((((f51 (f26 (a1.getD 0 []))).1).2).2).2).2 == 0) && true)) && true))))
    (br ((f63 (f26 (a1.getD 0 []))).2 == (f28 (a1.getD 0 [])))
    (K ((((f63 (f26 (a1.getD 0 []))).1).1 == 0) && (((((f63 (f26 (a1.getD 0 []))).1).2).1 == 0) && ((((((f63 (f26 (a1.getD 0 []))).1).2).2).1 == 0) && ((((((f63 (f26 (a1.getD 0 []))).1).2).2).2 == 0) && true)))))
    (K false))
    (K false))
    (K false))
    (br ((f51 (f26 (a1.getD 0 []))).2 == 0)
    (br (decide (0 ≤ 0) && decide (0 < ((a1.length) : Int)))
    (f64_pre (a1.getD 0 []) ∧
    br ((((((f51 (f26 (a1.getD 0 []))).1).1).1 == ((f64 (a1.getD 0 [])).1).1) && (((((f51 (f26 (a1.getD 0 []))).1).1).2 == ((f64 (a1.getD 0 [])).1).2) && true)) && (((((((f51 (f26 (a1.getD 0 []))).1).2).1).1 == (((f64 (a1.getD 0 [])).2).1).1) && ((((((f51 (f26 (a1.getD 0 []))).1).2).1).2 == (((f64 (a1.getD 0 [])).2).1).2) && true)) && ((((((((f51 (f26 (a1.getD 0 []))).1).2).2).1).1 == ((((f64 (a1.getD 0 [])).2).2).1).1) && (((((((f51 (f26 (a1.getD 0 []))).1).2).2).1).2 == ((((f64 (a1.getD 0 [])).2).2).1).2) && true)) && ((((((((f51 (f26 (a1.getD 0 []))).1).2).2).2).1 == ((((f64 (a1.getD 0 [])).2).2).2).1) && (((((((f51 (f26 (a1.getD 0 []))).1).2).2).2).2 == ((((f64 (a1.getD 0 [])).2).2).2).2) && true)) && true))))
    (br ((f63 (f26 (a1.getD 0 []))).2 == 0)
    (br (decide (0 ≤ 0) && decide (0 < ((a1.length) : Int)))
    (f65_pre (a1.getD 0 []) ∧
    K ((((f63 (f26 (a1.getD 0 []))).1).1 == (f65 (a1.getD 0 [])).1) && (((((f63 (f26 (a1.getD 0 []))).1).2).1 == ((f65 (a1.getD 0 [])).2).1) && ((((((f63 (f26 (a1.getD 0 []))).1).2).2).1 == (((f65 (a1.getD 0 [])).2).2).1) && ((((((f63 (f26 (a1.getD 0 []))).1).2).2).2 == (((f65 (a1.getD 0 [])).2).2).2) && true)))))
    False)
    (K false))
    (K false))
    False)
    (K false)))
    False)
    False)
    False))
    True)) v.1)))
    True)
    (fun v1_0 => again (v1_0, ())) v.1) (0, ())))
    True))) := by kernel_rfl
theorem f10_t (a0 : Int × Int × Int × List Int) (a1 : List (List (Int × Int))) (a2 : Int) (K : Bool → Prop) (hK : ∀ y : Bool, y = f10 (a0, a1, a2) → K y) : RunF Try.prog f10_E f10_A 6 Try.f10 f10_e.doms f10_e.cods (a0, a1, a2) K := by
  refine ⟨?_⟩
  rw [f10_run a0 a1 a2 K]
  have kt : K true := hK _ (by simp [f10])
  rw [show f16 () = true from rfl, Bool.not_true, br_f]
  by_cases h32 : f32 a0 = false
  · rw [h32, Bool.not_false, br_t]
    exact kt
  have h32 : f32 a0 = true := by simpa using h32
  rw [h32, Bool.not_true, br_f, br_true_]
  intro hl0
  rw [br_dec]
  refine ⟨fun _ => kt, fun h14 => ?_⟩
  have hg : a0.2.2.2.length ≤ 18 := by simpa [f32] using h32
  refine LoopP.up a1.length (fun i _ => ∀ x ∈ a1.take i.toNat, f24 x = true) (fun again i v hi0 hn hI hag => ?_) (by omega) all_zero
  dsimp only
  rw [br_true_]
  intro _
  rw [br_dec]
  refine ⟨fun hi => ?_, fun hi => ?_⟩
  · rw [br_false_]
    refine ⟨by simp only [Bool.and_eq_true, decide_eq_true_eq]; exact ⟨hi0, hi⟩, ?_⟩
    rw [br_both, wr (n := i + 1) (by omega) (by omega)]
    exact ⟨fun _ => kt, fun he => hag () hi (all_step (d := []) hi0 hi hI (by simpa using he))⟩
  have hall := all_done hi hI
  have hp35 : f35_pre a0 := by show a0.2.2.2.length ≤ _; omega
  have hp60 : f60_pre a1 := ⟨by omega, fun b hb => by have := hall b hb; simp only [f24, decide_eq_true_eq] at this; omega⟩
  have eta2 : ∀ g : Int × Int × Int × List Int, (g.1, g.2.1, g.2.2) = g := fun g => rfl
  have i35 : f35 a0 = a0 := rfl
  have i60 : f60 a1 = a1 := rfl
  refine ⟨hp35, hp60, ?_⟩
  rw [i35, i60, eta2]
  have hp59 : f59_pre (a0, a1, a2) := by show a0.2.2.2.length ≤ _; omega
  refine ⟨hp59, ?_⟩
  refine JoinQ.use (fun v => v.1 = spE a0 a1 a2) (fun G hG => ?_) (fun v hv => ?_)
  · rw [br_both]
    refine ⟨fun h => hG _ ?_, fun h => hG _ ?_⟩
    · have h : (f34 a0).2 = 0 := by simpa [f46] using h
      show f61 _ = spE _ _ _
      simp [spE, f42, h]
    · have h : (f34 a0).2 ≠ 0 := by simpa [f46] using h
      show (f34 a0).2 = spE _ _ _
      simp [spE, f42, h]
  obtain ⟨e, u⟩ := v
  simp only at hv
  subst hv
  dsimp only
  have s1 : ∀ n : Int, (n != n) = false := fun n => by simp
  have s2 : ∀ n : Int, (n == n) = true := fun n => by simp
  have z0 : ((0 : Int) == 0) = true := rfl
  have z1 : ((0 : Int) != 0) = false := rfl
  refine JoinQ.use0 True (fun G hG => ?_) (fun _ => ?_)
  · have hG := hG trivial
    have hp62 : f62_pre (a0, a1, a2) := by show a0.2.2.2.length ≤ _; omega
    by_cases hE : spE a0 a1 a2 = 0
    · have e59 : f59 (a0, a1, a2) = (f62 (a0, a1, a2), 0) := by
        simp only [f59]
        rw [if_neg (fun h => h hE)]
      simp only [hE, e59, s1, s2, hp62, true_and, Bool.and_true, Bool.not_true, br_t, br_f]
      exact hG
    · have e59 : f59 (a0, a1, a2) = ((0, 0, 0, 0), spE a0 a1 a2) := by
        simp only [f59]
        rw [if_pos hE]
      have n1 : (spE a0 a1 a2 == 0) = false := by simpa using hE
      have n2 : (spE a0 a1 a2 != 0) = true := by simpa using hE
      simp only [n1, n2, e59, s1, s2, z0, Bool.and_true, Bool.not_true, br_t, br_f]
      exact hG
  rw [br_true_]
  intro _
  rw [br_both]
  refine ⟨fun _ => kt, fun hne => ?_⟩
  have hpos : 0 < a1.length := by
    rcases Nat.eq_zero_or_pos a1.length with h | h
    · rw [h] at hne; simp at hne
    · exact h
  have hb : (decide ((0 : Nat) ≤ 0) && decide ((0 : Int) < (a1.length : Int))) = true := by simp [hpos]
  have hm : a1.getD 0 [] ∈ a1 := by rw [getD_lt hpos]; exact List.getElem_mem hpos
  have hl1 : (a1.getD 0 []).length ≤ 50 := by simpa [f24] using hall _ hm
  have hp26 : f26_pre (a1.getD 0 []) := by show (a1.getD 0 []).length ≤ _; omega
  rw [hb]
  simp only [br_t, hp26, true_and]
  generalize a1.getD 0 [] = l at hl1 hp26 hm
  have i26 : f26 l = l := rfl
  have i28 : f28 l = (f33 l).2 := rfl
  rw [i26, i28]
  by_cases hB : (f33 l).2 = 0
  · have e51 : f51 l = (f113 l, 0) := by rw [f51, if_neg (fun h => h hB)]
    have e63 : f63 l = (f116 (f113 l), 0) := by rw [f63, if_neg (fun h => h hB)]
    have hR : ∀ j, inR (l.getD j (0, 0)) := fun j => by
      by_cases hj : j < l.length
      · rw [getD_lt hj]
        have := (blk_ok hB).2.2 _ (List.getElem_mem hj)
        simp only [inR]
        omega
      · rw [show l.getD j (0, 0) = (0, 0) by simp [List.getD_eq_getElem?_getD, List.getElem?_eq_none (Nat.le_of_not_lt hj)]]
        simp [inR]
    have hp64 : f64_pre l := ⟨by omega, hR⟩
    have hp65 : f65_pre l := hp64
    have e64 : f64 l = f113 l := rfl
    have e65 : f65 l = f116 (f113 l) := rfl
    simp only [hB, e51, e63, e64, e65, hp64, hp65, true_and, s1, s2, Bool.and_true, br_t, br_f]
    exact kt
  · have e51 : f51 l = (((0, 0), (0, 0), (0, 0), 0, 0), (f33 l).2) := by rw [f51, if_pos hB]
    have e63 : f63 l = ((0, 0, 0, 0), (f33 l).2) := by rw [f63, if_pos hB]
    have n1 : ((f33 l).2 == 0) = false := by simpa using hB
    have n2 : ((f33 l).2 != 0) = true := by simpa using hB
    simp only [n1, n2, e51, e63, s1, s2, z0, Bool.and_true, br_t, br_f]
    exact kt
theorem f10_fn : f10_e.fn = f10 := rfl
theorem f10_ok : EntryOK Try.prog 10 f10_e := by
  refine entryF progOK (EnvOK.cons f16_ok (EnvOK.cons f24_ok (EnvOK.cons f26_ok (EnvOK.cons f28_ok (EnvOK.cons f32_ok (EnvOK.cons f35_ok (EnvOK.cons f46_ok (EnvOK.cons f51_ok (EnvOK.cons f59_ok (EnvOK.cons f60_ok (EnvOK.cons f61_ok (EnvOK.cons f62_ok (EnvOK.cons f63_ok (EnvOK.cons f64_ok (EnvOK.cons f65_ok (EnvOK.nil)))))))))))))))) (A := f10_A) (d := 6) Try.func10 rfl rfl (fun _ _ => trivial) fun x hpre => ?_
  obtain ⟨a0, a1, a2⟩ := x
  exact f10_t a0 a1 a2 _ fun _ h => h.trans (congrFun f10_fn.symm _)
end Go.Proofs.Ytdhekhichomoiaa
