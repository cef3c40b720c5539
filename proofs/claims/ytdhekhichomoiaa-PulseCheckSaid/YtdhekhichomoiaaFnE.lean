/- What functions of the program compute, each proved once, part 5. -/
import Derived.Test.YtdhekhichomoiaaPiC
import Derived.Test.YtdhekhichomoiaaFnA
import Derived.Test.YtdhekhichomoiaaFnC
import Derived.Test.YtdhekhichomoiaaFnD
import Derived.Test.YtdhekhichomoiaaFnB

namespace Go.Proofs.Ytdhekhichomoiaa
open Go Go.Pi Go.RowKit
set_option maxRecDepth 100000
set_option linter.unusedVariables false
set_option linter.unusedSimpArgs false

def f5 (x : (Int × Int × Int × List Int) × List (Int × Int) × Int × Int) : Bool := true
def f5_e : Entry := { doms := [(true, (.pair (.int .i64) (.pair (.int .i64) (.pair (.int .i64) (.sl (.int .i64)))))), (false, (.sl (.pair (.int .i64) (.int .i64)))), (true, (.pair (.int .i64) (.int .i64)))], cods := [(false, .bool)], pre := fun _ => True, fn := f5, uq := false, total := true }
def f5_E : Env := [(16, f16_e), (18, f18_e), (24, f24_e), (26, f26_e), (29, f29_e), (32, f32_e), (33, f33_e), (34, f34_e), (35, f35_e), (36, f36_e), (37, f37_e), (38, f38_e), (39, f39_e), (40, f40_e), (41, f41_e), (42, f42_e), (43, f43_e), (44, f44_e), (45, f45_e)]
def f5_A : Anns := { loops := [(1572929, { tms := [(1, .keep), (3, .keep), (5, .keep), (11, .keep), (12, .keep), (13, .keep), (14, .keep), (16, .keep), (18, .keep), (19, .data false (.int .i64))], obs := [(1048576, .keep), (1048577, .keep)], fz := [] }),
  (1572937, { tms := [(1, .keep), (3, .keep), (5, .keep), (11, .keep), (12, .keep), (16, .keep), (18, .keep)], obs := [(1048576, .keep), (1048577, .keep)], fz := [] }),
  (1572949, { tms := [(1, .keep), (3, .keep), (5, .keep), (11, .keep), (12, .keep), (18, .data false (.int .i64))], obs := [(1048576, .keep), (1048577, .keep)], fz := [] }),
  (1572957, { tms := [(1, .keep), (3, .keep), (5, .keep), (11, .keep), (12, .keep), (18, .data false (.int .i64))], obs := [(1048576, .keep), (1048577, .keep)], fz := [] })], own := [] }
theorem f5_run (a0 : Int × Int × Int × List Int) (a1 : List (Int × Int)) (a2 : Int × Int) (K : Bool → Prop) : runF Try.prog f5_E f5_A 6 Try.f5 f5_e.doms f5_e.cods (a0, a1, a2) K =
    (br (!(f16 ()))
    (K false)
    (br (!(f32 a0))
    (K true)
    (br (!(f24 a1))
    (K true)
    (f26_pre a1 ∧
    f35_pre a0 ∧
    f35_pre a0 ∧
    f26_pre a1 ∧
    f35_pre a0 ∧
    br ((f33 (f26 a1)).2 != (f38 a1).2)
    (K false)
    (br ((f33 (f26 a1)).1 != (f38 a1).1)
    (K false)
    (br ((f34 ((f35 a0).1, (((f35 a0).2).1, (((f35 a0).2).2)))).2 != (f39 a0).2)
    (K false)
    (br ((f34 ((f35 a0).1, (((f35 a0).2).1, (((f35 a0).2).2)))).1 != (f39 a0).1)
    (K false)
    (JoinQ (V := Int × Unit) (fun J => (fun (join1 : Int → Prop) =>
    br ((f39 a0).2 == 0)
    (br (!(f18 (a2.2, (0, 47))))
    (join1 2)
    (join1 ((f39 a0).2)))
    (join1 ((f39 a0).2))) (fun j1_0 => J (j1_0, ()))) (fun v => (fun (j1_0 : Int) =>
    JoinQ (V := Unit) (fun J => (fun (join2 : Prop) =>
    br (j1_0 != 0)
    (br ((f37 (((f35 a0).1, (((f35 a0).2).1, (((f35 a0).2).2))), a2.2)).2 != j1_0)
    (K false)
    (br (lenOk (((f37 (((f35 a0).1, (((f35 a0).2).1, (((f35 a0).2).2))), a2.2)).1).length))
    (br (((((f37 (((f35 a0).1, (((f35 a0).2).1, (((f35 a0).2).2))), a2.2)).1).length) : Int) != 0)
    (K false)
    (br (j1_0 == 0)
    (br ((f37 (((f35 a0).1, (((f35 a0).2).1, (((f35 a0).2).2))), a2.2)).2 != 0)
    (K false)
    (f41_pre (a0, a2.2) ∧
    br (!(f40 ((f37 (((f35 a0).1, (((f35 a0).2).1, (((f35 a0).2).2))), a2.2)).1, (f41 (a0, a2.2)))))
    (K false)
    (join2)))
    (join2)))
    True))
    (br (j1_0 == 0)
    (br ((f37 (((f35 a0).1, (((f35 a0).2).1, (((f35 a0).2).2))), a2.2)).2 != 0)
    (K false)
    (f41_pre (a0, a2.2) ∧
    br (!(f40 ((f37 (((f35 a0).1, (((f35 a0).2).1, (((f35 a0).2).2))), a2.2)).1, (f41 (a0, a2.2)))))
    (K false)
    (join2)))
    (join2))) (J ())) (fun v =>
    JoinQ (V := Int × Unit) (fun J => (fun (join3 : Int → Prop) =>
    br ((f42 ((f39 a0).2, (f38 a1).2)) == 0)
    (join3 (f43 (a0, a2.1)))
    (join3 (f42 ((f39 a0).2, (f38 a1).2)))) (fun j3_0 => J (j3_0, ()))) (fun v => (fun (j3_0 : Int) =>
    JoinQ (V := Int × Unit) (fun J => (fun (join4 : Int → Prop) =>
    br (j3_0 == 0)
    (join4 (f44 (a0, (a1, a2.1))))
    (join4 j3_0)) (fun j4_0 => J (j4_0, ()))) (fun v => (fun (j4_0 : Int) =>
    br (j4_0 != 0)
    (br ((f36 (((f35 a0).1, (((f35 a0).2).1, (((f35 a0).2).2))), ((f26 a1), a2.1))).2 == j4_0)
    (br (lenOk (((f36 (((f35 a0).1, (((f35 a0).2).1, (((f35 a0).2).2))), ((f26 a1), a2.1))).1).length))
    (K (((((f36 (((f35 a0).1, (((f35 a0).2).1, (((f35 a0).2).2))), ((f26 a1), a2.1))).1).length) : Int) == 0))
    True)
    (K false))
    (br ((f36 (((f35 a0).1, (((f35 a0).2).1, (((f35 a0).2).2))), ((f26 a1), a2.1))).2 == 0)
    (f45_pre (a0, (a1, (a2.1, 0))) ∧
    K (f29 ((f36 (((f35 a0).1, (((f35 a0).2).1, (((f35 a0).2).2))), ((f26 a1), a2.1))).1, (f45 (a0, (a1, (a2.1, 0)))))))
    (K false))) v.1)) v.1))) v.1))))))))) := by kernel_rfl
theorem f5_t (a0 : Int × Int × Int × List Int) (a1 : List (Int × Int)) (a2 : Int × Int) (K : Bool → Prop) (hK : ∀ y : Bool, y = f5 (a0, a1, a2) → K y) : RunF Try.prog f5_E f5_A 6 Try.f5 f5_e.doms f5_e.cods (a0, a1, a2) K := by
  refine ⟨?_⟩
  rw [f5_run a0 a1 a2 K]
  have kt : K true := hK _ (by simp [f5])
  rw [show f16 () = true from rfl, Bool.not_true, br_f]
  by_cases h32 : f32 a0 = false
  · rw [h32, Bool.not_false, br_t]
    exact kt
  have h32 : f32 a0 = true := by simpa using h32
  rw [h32, Bool.not_true, br_f]
  by_cases h24 : f24 a1 = false
  · rw [h24, Bool.not_false, br_t]
    exact kt
  have h24 : f24 a1 = true := by simpa using h24
  rw [h24, Bool.not_true, br_f]
  have hl1 : a1.length ≤ 50 := by simpa [f24] using h24
  have hl0 : a0.2.2.2.length ≤ 18 := by simpa [f32] using h32
  have hp26 : f26_pre a1 := by show a1.length ≤ _; omega
  have hp35 : f35_pre a0 := by show a0.2.2.2.length ≤ _; omega
  have i35 : f35 a0 = a0 := rfl
  have eta2 : ∀ g : Int × Int × Int × List Int, (g.1, g.2.1, g.2.2) = g := fun g => rfl
  have i26 : f26 a1 = a1 := rfl
  have i38 : f38 a1 = f33 a1 := rfl
  have i39 : f39 a0 = f34 a0 := rfl
  have i43 : f43 (a0, a2.1) = f107 (a0, a2.1) := rfl
  have i44 : f44 (a0, a1, a2.1) = f94 (f108 (a0, a1, a2.1), 19) := rfl
  have i45 : f45 (a0, a1, a2.1, 0) = f109 (a0, a1, a2.1, 0) := rfl
  have i41 : f41 (a0, a2.2) = withL a0 a2.2 a0.2.2.1.toNat := rfl
  have hp45 : f45_pre (a0, a1, a2.1, 0) := by show a0.2.2.2.length ≤ _; omega
  have lnI : (([] : List Int).length : Int) = 0 := rfl
  have lnG : (([] : List (Int × Int)).length : Int) = 0 := rfl
  have l0 : ∀ n, lenOk n = true ↔ n ≤ 9223372036854775807 := fun n => lenOk_iff
  have lI : lenOk ([] : List Int).length = true := rfl
  have lG : lenOk ([] : List (Int × Int)).length = true := rfl
  have z0 : ((0 : Int) == 0) = true := rfl
  have z1 : ((0 : Int) != 0) = false := rfl
  have s1 : ∀ n : Int, (n != n) = false := fun n => by simp
  have s2 : ∀ n : Int, (n == n) = true := fun n => by simp
  have nz1 : ∀ n : Int, n ≠ 0 → (n == 0) = false := fun n h => by simpa using h
  have nz2 : ∀ n : Int, n ≠ 0 → (n != 0) = true := fun n h => by simpa using h
  simp only [i35, i26, i38, i39, i43, i44, i45, i41, eta2, hp26, hp35, hp45, true_and, s1, br_f]
  by_cases hG : (f34 a0).2 ≠ 0
  · have e36 : f36 (a0, a1, a2.1) = ([], (f34 a0).2) := by simp [f36, gateE, f42, hG]
    have e37 : f37 (a0, a2.2) = ([], (f34 a0).2) := by simp [f37, withE, f42, hG]
    have e42 : f42 ((f34 a0).2, (f33 a1).2) = (f34 a0).2 := by simp [f42, hG]
    simp only [e36, e37, e42, nz1 _ hG, nz2 _ hG, s1, s2, joinQ_ret, br_t, br_f, lI, lG, lnI, lnG, z0, z1]
    exact kt
  have hG : (f34 a0).2 = 0 := by simpa using hG
  have part : ∀ (X : Prop), X = (K true) → X := fun X h => by rw [h]; exact kt
  simp only [hG, z0, z1, joinQ_ret, br_t, br_f]
  by_cases hq : 0 ≤ a2.2 ∧ a2.2 ≤ 47
  · have h18 : f18 (a2.2, 0, 47) = true := by simp [f18, hq]
    have e37 : f37 (a0, a2.2) = (withL a0 a2.2 a0.2.2.1.toNat, 0) := by simp [f37, withE, f42, hG, hq]
    have hp41 : f41_pre (a0, a2.2) := ⟨hG, hq.1, hq.2⟩
    have e40 : f40 (withL a0 a2.2 a0.2.2.1.toNat, withL a0 a2.2 a0.2.2.1.toNat) = true := by simp [f40]
    simp only [h18, e37, e40, hp41, true_and, Bool.not_true, z0, z1, joinQ_ret, br_t, br_f]
    by_cases hB : (f33 a1).2 ≠ 0
    · have e36 : f36 (a0, a1, a2.1) = ([], (f33 a1).2) := by simp [f36, gateE, f42, hG, hB]
      have e42 : f42 (0, (f33 a1).2) = (f33 a1).2 := by simp [f42]
      simp only [e36, e42, nz1 _ hB, nz2 _ hB, s1, s2, joinQ_ret, br_t, br_f, lI, lG, lnI, lnG, z0, z1]
      exact kt
    have hB : (f33 a1).2 = 0 := by simpa using hB
    have e42 : f42 (0, 0) = 0 := rfl
    by_cases hM : f107 (a0, a2.1) ≠ 0
    · have e36 : f36 (a0, a1, a2.1) = ([], f107 (a0, a2.1)) := by simp [f36, gateE, f42, hG, hB, hM]
      simp only [hB, e36, e42, nz1 _ hM, nz2 _ hM, s1, s2, joinQ_ret, br_t, br_f, lI, lG, lnI, lnG, z0, z1]
      exact kt
    have hM : f107 (a0, a2.1) = 0 := by simpa using hM
    by_cases hO : f94 (f108 (a0, a1, a2.1), 19) ≠ 0
    · have e36 : f36 (a0, a1, a2.1) = ([], f94 (f108 (a0, a1, a2.1), 19)) := by simp [f36, gateE, f42, hG, hB, hM, hO]
      simp only [hB, hM, e36, e42, nz1 _ hO, nz2 _ hO, s1, s2, joinQ_ret, br_t, br_f, lI, lG, lnI, lnG, z0, z1]
      exact kt
    have hO : f94 (f108 (a0, a1, a2.1), 19) = 0 := by simpa using hO
    have e36 : f36 (a0, a1, a2.1) = (f109 (a0, a1, a2.1, 0), 0) := by simp [f36, gateE, f42, hG, hB, hM, hO]
    have e29 : f29 (f109 (a0, a1, a2.1, 0), f109 (a0, a1, a2.1, 0)) = true := by simp [f29]
    simp only [hB, hM, hO, e36, e42, e29, s1, s2, joinQ_ret, br_t, br_f, lI, lG, lnI, lnG, z0, z1]
    exact kt
  · have h18 : f18 (a2.2, 0, 47) = false := by
      simp only [f18, Bool.and_eq_false_iff, decide_eq_false_iff_not]
      omega
    have e37 : f37 (a0, a2.2) = ([], 2) := by simp [f37, withE, f42, hG, hq]
    have t2 : ((2 : Int) != 2) = false := rfl
    have t20 : ((2 : Int) != 0) = true := rfl
    have t21 : ((2 : Int) == 0) = false := rfl
    simp only [h18, e37, t2, t20, t21, Bool.not_false, lI, lnI, z0, z1, joinQ_ret, br_t, br_f]
    by_cases hB : (f33 a1).2 ≠ 0
    · have e36 : f36 (a0, a1, a2.1) = ([], (f33 a1).2) := by simp [f36, gateE, f42, hG, hB]
      have e42 : f42 (0, (f33 a1).2) = (f33 a1).2 := by simp [f42]
      simp only [e36, e42, nz1 _ hB, nz2 _ hB, s1, s2, joinQ_ret, br_t, br_f, lI, lG, lnI, lnG, z0, z1]
      exact kt
    have hB : (f33 a1).2 = 0 := by simpa using hB
    have e42 : f42 (0, 0) = 0 := rfl
    by_cases hM : f107 (a0, a2.1) ≠ 0
    · have e36 : f36 (a0, a1, a2.1) = ([], f107 (a0, a2.1)) := by simp [f36, gateE, f42, hG, hB, hM]
      simp only [hB, e36, e42, nz1 _ hM, nz2 _ hM, s1, s2, joinQ_ret, br_t, br_f, lI, lG, lnI, lnG, z0, z1]
      exact kt
    have hM : f107 (a0, a2.1) = 0 := by simpa using hM
    by_cases hO : f94 (f108 (a0, a1, a2.1), 19) ≠ 0
    · have e36 : f36 (a0, a1, a2.1) = ([], f94 (f108 (a0, a1, a2.1), 19)) := by simp [f36, gateE, f42, hG, hB, hM, hO]
      simp only [hB, hM, e36, e42, nz1 _ hO, nz2 _ hO, s1, s2, joinQ_ret, br_t, br_f, lI, lG, lnI, lnG, z0, z1]
      exact kt
    have hO : f94 (f108 (a0, a1, a2.1), 19) = 0 := by simpa using hO
    have e36 : f36 (a0, a1, a2.1) = (f109 (a0, a1, a2.1, 0), 0) := by simp [f36, gateE, f42, hG, hB, hM, hO]
    have e29 : f29 (f109 (a0, a1, a2.1, 0), f109 (a0, a1, a2.1, 0)) = true := by simp [f29]
    simp only [hB, hM, hO, e36, e42, e29, s1, s2, joinQ_ret, br_t, br_f, lI, lG, lnI, lnG, z0, z1]
    exact kt
theorem f5_fn : f5_e.fn = f5 := rfl
theorem f5_ok : EntryOK Try.prog 5 f5_e := by
  refine entryF progOK (EnvOK.cons f16_ok (EnvOK.cons f18_ok (EnvOK.cons f24_ok (EnvOK.cons f26_ok (EnvOK.cons f29_ok (EnvOK.cons f32_ok (EnvOK.cons f33_ok (EnvOK.cons f34_ok (EnvOK.cons f35_ok (EnvOK.cons f36_ok (EnvOK.cons f37_ok (EnvOK.cons f38_ok (EnvOK.cons f39_ok (EnvOK.cons f40_ok (EnvOK.cons f41_ok (EnvOK.cons f42_ok (EnvOK.cons f43_ok (EnvOK.cons f44_ok (EnvOK.cons f45_ok (EnvOK.nil)))))))))))))))))))) (A := f5_A) (d := 6) Try.func5 rfl rfl (fun _ _ => trivial) fun x hpre => ?_
  obtain ⟨a0, a1, a2⟩ := x
  exact f5_t a0 a1 a2 _ fun _ h => h.trans (congrFun f5_fn.symm _)
end Go.Proofs.Ytdhekhichomoiaa
