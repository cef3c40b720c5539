/- What functions of the program compute, each proved once, part 6. -/
import Derived.Test.YtdhekhichomoiaaPiC
import Derived.Test.YtdhekhichomoiaaFnA
import Derived.Test.YtdhekhichomoiaaFnC
import Derived.Test.YtdhekhichomoiaaFnD
import Derived.Test.YtdhekhichomoiaaFnE
import Derived.Test.YtdhekhichomoiaaFnB

namespace Go.Proofs.Ytdhekhichomoiaa
open Go Go.Pi Go.RowKit
set_option maxRecDepth 100000
set_option linter.unusedVariables false
set_option linter.unusedSimpArgs false

theorem clE_eq {l : List (Int × Int)} (n : Int) : clE l n = if (f33 l).2 = 0 then (if f18 (n, 1, 1000) = true then 0 else 2) else (f33 l).2 := by
  have e : f95 (n, 1, 1000) = f18 (n, 1, 1000) := rfl
  simp only [clE, f42, e, f94]
  by_cases h : (f33 l).2 = 0
  · simp [h]
  · simp [h]
theorem f19_cases {n : Int} (h1 : -1000000000000 ≤ n) (h2 : n ≤ 1000000000000) : (0 ≤ n ∧ f19 n = n) ∨ (n < 0 ∧ f19 n = -n) := by
  unfold f19
  rw [wr (n := 0 - n) (by omega) (by omega)]
  simp only [minmax]
  split <;> omega
theorem clip_same {l : List (Int × Int)} {n : Int} (h : clE l n = 0) : (f66 (l, n)) = (f68 (l, n), 0) := by
  simp only [f66]
  rw [if_neg (fun hh => hh h), f68]
  have hb := blk_ok (f42_zero h).1
  have hn : 1 ≤ n ∧ n ≤ 1000 := by
    have := (f42_zero h).2
    by_cases h5 : f95 (n, 1, 1000) = true
    · simpa [f95] using h5
    · simp [f94, h5] at this
  congr 1
  refine placesN_congr l.length fun j hj => ?_
  have hz := hb.2.2 (l.getD j (0, 0)) (by rw [getD_lt hj]; exact List.getElem_mem hj)
  simp only
  generalize l.getD j (0, 0) = z at hz
  have c1 := f19_cases (n := z.1) (by omega) (by omega)
  have c2 := f19_cases (n := z.2) (by omega) (by omega)
  rw [Bool.eq_iff_iff]
  simp only [f117, f140, f95, Bool.not_eq_true', Bool.and_eq_false_iff, decide_eq_false_iff_not, decide_eq_true_eq, ge_iff_le]
  rw [wr (n := n - 1) (by omega) (by omega), wr (n := 0 - (n - 1)) (by omega) (by omega)]
  simp only [f121]
  generalize f19 z.1 = p at c1
  generalize f19 z.2 = q at c2
  simp only [minmax]
  split <;> omega
def f11 (x : (Int × Int × Int × List Int) × List (Int × Int) × Int × Int × Int) : Bool := true
def f11_e : Entry := { doms := [(true, (.pair (.int .i64) (.pair (.int .i64) (.pair (.int .i64) (.sl (.int .i64)))))), (false, (.sl (.pair (.int .i64) (.int .i64)))), (true, (.pair (.int .i64) (.pair (.int .i64) (.int .i64))))], cods := [(false, .bool)], pre := fun _ => True, fn := f11, uq := false, total := true }
def f11_E : Env := [(16, f16_e), (18, f18_e), (24, f24_e), (26, f26_e), (28, f28_e), (32, f32_e), (35, f35_e), (40, f40_e), (42, f42_e), (43, f43_e), (46, f46_e), (66, f66_e), (67, f67_e), (68, f68_e), (69, f69_e), (93, f93_e), (94, f94_e), (95, f95_e), (109, f109_e), (117, f117_e), (118, f118_e), (119, f119_e), (120, f120_e), (121, f121_e), (122, f122_e), (140, f140_e), (19, f19_e)]
def f11_A : Anns := { loops := [(1572909, { tms := [(1, .keep), (3, .keep), (5, .keep), (7, .keep), (8, .keep), (9, .keep), (10, .keep), (11, .keep), (12, .data false (.int .i64))], obs := [(1048576, .keep), (1048577, .keep), (1054730, .keep)], fz := [] }),
  (1572917, { tms := [(1, .keep), (3, .keep), (5, .keep), (9, .keep), (10, .keep), (11, .keep)], obs := [(1048576, .keep), (1048577, .keep), (1054730, .keep)], fz := [] }),
  (1572929, { tms := [(1, .keep), (3, .keep), (5, .keep), (9, .keep), (10, .keep), (11, .data false (.int .i64))], obs := [(1048576, .keep), (1048577, .keep), (1054730, .keep)], fz := [] }),
  (1572937, { tms := [(1, .keep), (3, .keep), (5, .keep), (9, .keep), (10, .keep), (11, .data false (.int .i64))], obs := [(1048576, .keep), (1048577, .keep), (1054730, .keep)], fz := [] })], own := [] }
theorem f11_run (a0 : Int × Int × Int × List Int) (a1 : List (Int × Int)) (a2 : Int × Int × Int) (K : Bool → Prop) : runF Try.prog f11_E f11_A 6 Try.f11 f11_e.doms f11_e.cods (a0, a1, a2) K =
    (br (!(f16 ()))
    (K false)
    (br (!(f32 a0))
    (K true)
    (br (!(f24 a1))
    (K true)
    (f26_pre a1 ∧
    f35_pre a0 ∧
    f26_pre a1 ∧
    JoinQ (V := Int × Unit) (fun J => (fun (join1 : Int → Prop) =>
    br ((f28 a1) == 0)
    (br (!(f18 (a2.1, (1, 1000))))
    (join1 2)
    (join1 (f28 a1)))
    (join1 (f28 a1))) (fun j1_0 => J (j1_0, ()))) (fun v => (fun (j1_0 : Int) =>
    JoinQ (V := Unit) (fun J => (fun (join2 : Prop) =>
    br (j1_0 != 0)
    (br ((f66 ((f26 a1), a2.1)).2 != j1_0)
    (K false)
    (br (lenOk (((f66 ((f26 a1), a2.1)).1).length))
    (br (((((f66 ((f26 a1), a2.1)).1).length) : Int) != 0)
    (K false)
    (br (j1_0 == 0)
    (br ((f66 ((f26 a1), a2.1)).2 != 0)
    (K false)
    (f68_pre (a1, a2.1) ∧
    br (!(f40 ((f66 ((f26 a1), a2.1)).1, (f68 (a1, a2.1)))))
    (K false)
    (join2)))
    (join2)))
    True))
    (br (j1_0 == 0)
    (br ((f66 ((f26 a1), a2.1)).2 != 0)
    (K false)
    (f68_pre (a1, a2.1) ∧
    br (!(f40 ((f66 ((f26 a1), a2.1)).1, (f68 (a1, a2.1)))))
    (K false)
    (join2)))
    (join2))) (J ())) (fun v =>
    JoinQ (V := Int × Unit) (fun J => (fun (join3 : Int → Prop) =>
    br ((f42 ((f46 a0), (f28 a1))) == 0)
    (join3 (f43 (a0, a2.2.1)))
    (join3 (f42 ((f46 a0), (f28 a1))))) (fun j3_0 => J (j3_0, ()))) (fun v => (fun (j3_0 : Int) =>
    JoinQ (V := Int × Unit) (fun J => (fun (join4 : Int → Prop) =>
    br (j3_0 == 0)
    (br (!(f18 (a2.2.2, (0, 8))))
    (join4 2)
    (join4 j3_0))
    (join4 j3_0)) (fun j4_0 => J (j4_0, ()))) (fun v => (fun (j4_0 : Int) =>
    br (j4_0 != 0)
    (br ((f67 (((f35 a0).1, (((f35 a0).2).1, (((f35 a0).2).2))), ((f26 a1), a2.2))).2 == j4_0)
    (K ((((f67 (((f35 a0).1, (((f35 a0).2).1, (((f35 a0).2).2))), ((f26 a1), a2.2))).1).1 == 0) && ((((f67 (((f35 a0).1, (((f35 a0).2).1, (((f35 a0).2).2))), ((f26 a1), a2.2))).1).2 == 0) && true)))
    (K false))
    (br ((f67 (((f35 a0).1, (((f35 a0).2).1, (((f35 a0).2).2))), ((f26 a1), a2.2))).2 != 0)
    (K false)
    (f69_pre (a0, (a1, a2.2)) ∧
    br (!((((f67 (((f35 a0).1, (((f35 a0).2).1, (((f35 a0).2).2))), ((f26 a1), a2.2))).1).1 == (f69 (a0, (a1, a2.2))).1) && ((((f67 (((f35 a0).1, (((f35 a0).2).1, (((f35 a0).2).2))), ((f26 a1), a2.2))).1).2 == (f69 (a0, (a1, a2.2))).2) && true)))
    (K false)
    (f35_pre a0 ∧
    f26_pre a1 ∧
    br ((f67 (((f35 a0).1, (((f35 a0).2).1, (((f35 a0).2).2))), ((f26 a1), (a2.2.1, (IntKind.i64.wrap (a2.2.2.tdiv 2)))))).2 == 0)
    (br (decide (((f67 (((f35 a0).1, (((f35 a0).2).1, (((f35 a0).2).2))), ((f26 a1), (a2.2.1, (IntKind.i64.wrap (a2.2.2.tdiv 2)))))).1).1 ≥ ((f67 (((f35 a0).1, (((f35 a0).2).1, (((f35 a0).2).2))), ((f26 a1), a2.2))).1).1))
    (K (decide (((f67 (((f35 a0).1, (((f35 a0).2).1, (((f35 a0).2).2))), ((f26 a1), (a2.2.1, (IntKind.i64.wrap (a2.2.2.tdiv 2)))))).1).2 ≤ ((f67 (((f35 a0).1, (((f35 a0).2).1, (((f35 a0).2).2))), ((f26 a1), a2.2))).1).2)))
    (K false))
    (K false))))) v.1)) v.1))) v.1))))) := by kernel_rfl
theorem f11_t (a0 : Int × Int × Int × List Int) (a1 : List (Int × Int)) (a2 : Int × Int × Int) (K : Bool → Prop) (hK : ∀ y : Bool, y = f11 (a0, a1, a2) → K y) : RunF Try.prog f11_E f11_A 6 Try.f11 f11_e.doms f11_e.cods (a0, a1, a2) K := by
  refine ⟨?_⟩
  rw [f11_run a0 a1 a2 K]
  have kt : K true := hK _ (by simp [f11])
  rw [show f16 () = true from rfl, Bool.not_true, br_f]
  by_cases h32 : f32 a0 = false
  · rw [h32, Bool.not_false, br_t]
    exact kt
  have h32 : f32 a0 = true := by simpa using h32
  rw [h32, Bool.not_true, br_f]
  by_cases h24 : f24 a1 = false
  · rw [h24, Bool.not_false, br_t]
    exact kt
  have h24 : f24 a1 = true := by simpa using h24
  rw [h24, Bool.not_true, br_f]
  have hg : a0.2.2.2.length ≤ 18 := by simpa [f32] using h32
  have hl : a1.length ≤ 50 := by simpa [f24] using h24
  have hp35 : f35_pre a0 := by show a0.2.2.2.length ≤ _; omega
  have hp26 : f26_pre a1 := by show a1.length ≤ _; omega
  have hp68 : f68_pre (a1, a2.1) := by show a1.length ≤ _; omega
  have eta2 : ∀ g : Int × Int × Int × List Int, (g.1, g.2.1, g.2.2) = g := fun g => rfl
  have i35 : f35 a0 = a0 := rfl
  have i26 : f26 a1 = a1 := rfl
  have i28 : f28 a1 = (f33 a1).2 := rfl
  have i46 : f46 a0 = (f34 a0).2 := rfl
  have i43 : f43 (a0, a2.2.1) = f107 (a0, a2.2.1) := rfl
  have s1 : ∀ n : Int, (n != n) = false := fun n => by simp
  have s2 : ∀ n : Int, (n == n) = true := fun n => by simp
  have z0 : ((0 : Int) == 0) = true := rfl
  have z1 : ((0 : Int) != 0) = false := rfl
  refine ⟨hp26, hp35, hp26, ?_⟩
  simp only [i35, i26, i28, i46, i43, eta2]
  refine JoinQ.use (fun v => v.1 = clE a1 a2.1) (fun G hG => ?_) (fun v hv => ?_)
  · have e := clE_eq (l := a1) a2.1
    rw [br_both]
    refine ⟨fun h => ?_, fun h => hG _ ?_⟩
    · have h : (f33 a1).2 = 0 := by simpa using h
      rw [br_both]
      refine ⟨fun h2 => hG _ ?_, fun h2 => hG _ ?_⟩
      · show (2 : Int) = _
        rw [e, if_pos h, if_neg (by simpa using h2)]
      · show (f33 a1).2 = _
        rw [e, if_pos h, if_pos (by simpa using h2), h]
    · have h : ¬ (f33 a1).2 = 0 := by simpa using h
      show (f33 a1).2 = _
      rw [e, if_neg h]
  obtain ⟨e, u⟩ := v
  simp only at hv
  subst hv
  refine JoinQ.use0 True (fun G hG => ?_) (fun _ => ?_)
  · have hG := hG trivial
    by_cases hE : clE a1 a2.1 = 0
    · have e40 : f40 (f68 (a1, a2.1), f68 (a1, a2.1)) = true := by simp [f40]
      simp only [hE, clip_same hE, e40, hp68, true_and, s1, s2, Bool.not_true, br_t, br_f]
      exact hG
    · have e66 : f66 (a1, a2.1) = ([], clE a1 a2.1) := by
        simp only [f66]
        rw [if_pos hE]
      have n1 : (clE a1 a2.1 == 0) = false := by simpa using hE
      have n2 : (clE a1 a2.1 != 0) = true := by simpa using hE
      have lI : lenOk ([] : List Int).length = true := rfl
      have lnI : (([] : List Int).length : Int) = 0 := rfl
      simp only [n1, n2, e66, s1, s2, z1, lI, lnI, br_t, br_f]
      exact hG
  refine JoinQ.use (fun v => v.1 = f42 (f42 ((f34 a0).2, (f33 a1).2), f107 (a0, a2.2.1))) (fun G hG => ?_) (fun v hv => ?_)
  · rw [br_both]
    refine ⟨fun h => hG _ ?_, fun h => hG _ ?_⟩
    · have h : f42 ((f34 a0).2, (f33 a1).2) = 0 := by simpa using h
      show f107 _ = _
      rw [h]
      simp [f42]
    · have h : f42 ((f34 a0).2, (f33 a1).2) ≠ 0 := by simpa using h
      show f42 _ = _
      generalize f42 ((f34 a0).2, (f33 a1).2) = y at h
      simp [f42, h]
  obtain ⟨e, u⟩ := v
  simp only at hv
  subst hv
  have hEE : enE a0 a1 a2.2 = f42 (f42 (f42 ((f34 a0).2, (f33 a1).2), f107 (a0, a2.2.1)), f94 (f95 (a2.2.2, 0, 8), 2)) := by
    simp only [enE, f42]
    by_cases h : (f34 a0).2 = 0 <;> by_cases h2 : (f33 a1).2 = 0 <;> simp [h, h2]
  refine JoinQ.use (fun v => v.1 = enE a0 a1 a2.2) (fun G hG => ?_) (fun v hv => ?_)
  · rw [hEE] at hG
    generalize f42 (f42 ((f34 a0).2, (f33 a1).2), f107 (a0, a2.2.1)) = y at hG
    have e18 : f95 (a2.2.2, 0, 8) = f18 (a2.2.2, 0, 8) := rfl
    rw [e18] at hG
    rw [br_both]
    refine ⟨fun h => ?_, fun h => hG _ ?_⟩
    · have h : y = 0 := by simpa using h
      rw [br_both]
      refine ⟨fun h2 => hG _ ?_, fun h2 => hG _ ?_⟩
      · show (2 : Int) = _
        have h2 : f18 (a2.2.2, 0, 8) = false := by simpa using h2
        simp [f42, f94, h, h2]
      · show y = _
        have h2 : f18 (a2.2.2, 0, 8) = true := by simpa using h2
        simp [f42, f94, h, h2]
    · have h : y ≠ 0 := by simpa using h
      show y = _
      simp [f42, h]
  obtain ⟨e, u⟩ := v
  simp only at hv
  subst hv
  by_cases hE : enE a0 a1 a2.2 = 0
  · have h8 := enE_off hE
    have hd : a2.2.2.tdiv 2 = a2.2.2 / 2 := Int.tdiv_eq_ediv_of_nonneg h8.1
    have hE2 : enE a0 a1 (a2.2.1, a2.2.2 / 2) = 0 := enE_less (n := a2.2.2) hE (by omega) (by omega)
    have e67 : f67 (a0, a1, a2.2) = (f69 (a0, a1, a2.2), 0) := f67_eq hE
    have e672 : f67 (a0, a1, a2.2.1, a2.2.2 / 2) = (f69 (a0, a1, a2.2.1, a2.2.2 / 2), 0) := f67_eq hE2
    have hp69 : f69_pre (a0, a1, a2.2) := ⟨by show a0.2.2.2.length ≤ _; omega, h8.1, h8.2⟩
    have hl := f69_less (g := a0) (l := a1) (k := a2.2.1) (n := a2.2.2) (m := a2.2.2 / 2) (by omega) (by omega)
    have hl1 : decide ((f69 (a0, a1, a2.2.1, a2.2.2 / 2)).1 ≥ (f69 (a0, a1, a2.2)).1) = true := decide_eq_true hl.1
    have hl2 : decide ((f69 (a0, a1, a2.2.1, a2.2.2 / 2)).2 ≤ (f69 (a0, a1, a2.2)).2) = true := decide_eq_true hl.2
    simp only [hd]
    rw [wr (n := a2.2.2 / 2) (by omega) (by omega)]
    simp only [hE, e67, e672, hp69, hp35, hp26, true_and, s1, s2, Bool.and_true, Bool.not_true, hl1, hl2, br_t, br_f]
    exact kt
  · have e67 : f67 (a0, a1, a2.2) = ((0, 0), enE a0 a1 a2.2) := by
      simp only [f67]
      rw [if_pos hE]
    have n2 : (enE a0 a1 a2.2 != 0) = true := by simpa using hE
    simp only [n2, e67, s2, z0, Bool.and_true, br_t, br_f]
    exact kt
theorem f11_fn : f11_e.fn = f11 := rfl
theorem f11_ok : EntryOK Try.prog 11 f11_e := by
  refine entryF progOK (EnvOK.cons f16_ok (EnvOK.cons f18_ok (EnvOK.cons f24_ok (EnvOK.cons f26_ok (EnvOK.cons f28_ok (EnvOK.cons f32_ok (EnvOK.cons f35_ok (EnvOK.cons f40_ok (EnvOK.cons f42_ok (EnvOK.cons f43_ok (EnvOK.cons f46_ok (EnvOK.cons f66_ok (EnvOK.cons f67_ok (EnvOK.cons f68_ok (EnvOK.cons f69_ok (EnvOK.cons f93_ok (EnvOK.cons f94_ok (EnvOK.cons f95_ok (EnvOK.cons f109_ok (EnvOK.cons f117_ok (EnvOK.cons f118_ok (EnvOK.cons f119_ok (EnvOK.cons f120_ok (EnvOK.cons f121_ok (EnvOK.cons f122_ok (EnvOK.cons f140_ok (EnvOK.cons f19_ok (EnvOK.nil)))))))))))))))))))))))))))) (A := f11_A) (d := 6) Try.func11 rfl rfl (fun _ _ => trivial) fun x hpre => ?_
  obtain ⟨a0, a1, a2⟩ := x
  exact f11_t a0 a1 a2 _ fun _ h => h.trans (congrFun f11_fn.symm _)
end Go.Proofs.Ytdhekhichomoiaa
