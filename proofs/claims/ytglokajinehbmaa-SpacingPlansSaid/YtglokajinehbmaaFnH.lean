/- What functions of the program compute, each proved once, part 8. -/
import Derived.Test.YtglokajinehbmaaPiD
import Derived.Test.YtglokajinehbmaaFnA
import Derived.Test.YtglokajinehbmaaFnC
import Derived.Test.YtglokajinehbmaaFnD
import Derived.Test.YtglokajinehbmaaFnF
import Derived.Test.YtglokajinehbmaaFnE
import Derived.Test.YtglokajinehbmaaFnG

namespace Go.Proofs.Ytglokajinehbmaa
open Go Go.Pi Go.RowKit
set_option maxRecDepth 100000
set_option linter.unusedVariables false
set_option linter.unusedSimpArgs false

def f11 (x : ((List (List Int) × List (List Int)) × List (ByteArray × Int × Int × Int × Int) × List Int) × List (Int × Int)) : Bool := true
/-- What the law asks of the margins. -/
theorem margins_ok {K : Bool → Prop} (hT : K true) {m : List Int × Int} {e : Int} {w : List Int} {P : Prop} (hm : m = if e ≠ 0 then ([], e) else (w, 0)) (hP : e = 0 → P) :
    br (e != 0) (br (m.2 == e) (br (lenOk m.1.length) (K ((m.1.length : Int) == 0)) True) (K false)) (br (m.2 == 0) (P ∧ K (f44 (m.1, w))) (K false)) := by
  by_cases h : e = 0
  · subst h
    rw [if_neg (fun hh => hh rfl)] at hm
    subst hm
    refine ⟨hP rfl, ?_⟩
    rw [show f44 (w, w) = true from decide_eq_true rfl]
    exact hT
  · rw [if_pos h] at hm
    subst hm
    rw [bne_iff_ne.2 h]
    simp only [beq_self_eq_true, br_t]
    exact hT
def f11_e : Entry := { doms := [(true, (.pair (.pair (.sl (.sl (.int .i64))) (.sl (.sl (.int .i64)))) (.pair (.sl (.pair .str (.pair (.int .i64) (.pair (.int .i64) (.pair (.int .i64) (.int .i64)))))) (.sl (.int .i64))))), (false, (.sl (.pair (.int .i64) (.int .i64))))], cods := [(false, .bool)], pre := fun _ => True, fn := f11, uq := false, total := true }
def f11_E : Env := [(13, f13_e), (21, f21_e), (25, f25_e), (27, f27_e), (38, f38_e), (39, f39_e), (44, f44_e), (46, f46_e), (49, f49_e), (55, f55_e), (56, f56_e), (57, f57_e)]
def f11_A : Anns := { loops := [], own := [] }
theorem f11_run (a0 : (List (List Int) × List (List Int)) × List (ByteArray × Int × Int × Int × Int) × List Int) (a1 : List (Int × Int)) (K : Bool → Prop) : runF Try.prog f11_E f11_A 6 Try.f11 f11_e.doms f11_e.cods (a0, a1) K =
    (br (!(f13 ()))
    (K false)
    (br (!(f21 a0))
    (K true)
    (br (lenOk (a1.length))
    (br (decide (((a1.length) : Int) > 8))
    (K true)
    (f25_pre a0 ∧
    f39_pre a1 ∧
    f38_pre ((((f25 a0).1), ((f25 a0).2)), (f39 a1)) ∧
    f25_pre a0 ∧
    f39_pre a1 ∧
    f55_pre ((((f25 a0).1), ((f25 a0).2)), (f39 a1)) ∧
    br ((f27 a0).2 == 0)
    (f49_pre (a0, a1) ∧
    f56_pre (a0, a1) ∧
    br ((f49 (a0, a1)) != 0)
    (br ((f38 ((((f25 a0).1), ((f25 a0).2)), (f39 a1))).2 != (f49 (a0, a1)))
    (K false)
    (br ((f38 ((((f25 a0).1), ((f25 a0).2)), (f39 a1))).1 != 0)
    (K false)
    (br ((f49 (a0, a1)) == 0)
    (br ((f38 ((((f25 a0).1), ((f25 a0).2)), (f39 a1))).2 != 0)
    (K false)
    (f46_pre (a0, a1) ∧
    br ((f38 ((((f25 a0).1), ((f25 a0).2)), (f39 a1))).1 != (f46 (a0, a1)))
    (K false)
    (br ((f56 (a0, a1)) != 0)
    (br ((f55 ((((f25 a0).1), ((f25 a0).2)), (f39 a1))).2 == (f56 (a0, a1)))
    (br (lenOk (((f55 ((((f25 a0).1), ((f25 a0).2)), (f39 a1))).1).length))
    (K (((((f55 ((((f25 a0).1), ((f25 a0).2)), (f39 a1))).1).length) : Int) == 0))
    True)
    (K false))
    (br ((f55 ((((f25 a0).1), ((f25 a0).2)), (f39 a1))).2 == 0)
    (f57_pre (a0, a1) ∧
    K (f44 ((f55 ((((f25 a0).1), ((f25 a0).2)), (f39 a1))).1, (f57 (a0, a1)))))
    (K false)))))
    (br ((f56 (a0, a1)) != 0)
    (br ((f55 ((((f25 a0).1), ((f25 a0).2)), (f39 a1))).2 == (f56 (a0, a1)))
    (br (lenOk (((f55 ((((f25 a0).1), ((f25 a0).2)), (f39 a1))).1).length))
    (K (((((f55 ((((f25 a0).1), ((f25 a0).2)), (f39 a1))).1).length) : Int) == 0))
    True)
    (K false))
    (br ((f55 ((((f25 a0).1), ((f25 a0).2)), (f39 a1))).2 == 0)
    (f57_pre (a0, a1) ∧
    K (f44 ((f55 ((((f25 a0).1), ((f25 a0).2)), (f39 a1))).1, (f57 (a0, a1)))))
    (K false))))))
    (br ((f49 (a0, a1)) == 0)
    (br ((f38 ((((f25 a0).1), ((f25 a0).2)), (f39 a1))).2 != 0)
    (K false)
    (f46_pre (a0, a1) ∧
    br ((f38 ((((f25 a0).1), ((f25 a0).2)), (f39 a1))).1 != (f46 (a0, a1)))
    (K false)
    (br ((f56 (a0, a1)) != 0)
    (br ((f55 ((((f25 a0).1), ((f25 a0).2)), (f39 a1))).2 == (f56 (a0, a1)))
    (br (lenOk (((f55 ((((f25 a0).1), ((f25 a0).2)), (f39 a1))).1).length))
    (K (((((f55 ((((f25 a0).1), ((f25 a0).2)), (f39 a1))).1).length) : Int) == 0))
    True)
    (K false))
    (br ((f55 ((((f25 a0).1), ((f25 a0).2)), (f39 a1))).2 == 0)
    (f57_pre (a0, a1) ∧
    K (f44 ((f55 ((((f25 a0).1), ((f25 a0).2)), (f39 a1))).1, (f57 (a0, a1)))))
    (K false)))))
    (br ((f56 (a0, a1)) != 0)
    (br ((f55 ((((f25 a0).1), ((f25 a0).2)), (f39 a1))).2 == (f56 (a0, a1)))
    (br (lenOk (((f55 ((((f25 a0).1), ((f25 a0).2)), (f39 a1))).1).length))
    (K (((((f55 ((((f25 a0).1), ((f25 a0).2)), (f39 a1))).1).length) : Int) == 0))
    True)
    (K false))
    (br ((f55 ((((f25 a0).1), ((f25 a0).2)), (f39 a1))).2 == 0)
    (f57_pre (a0, a1) ∧
    K (f44 ((f55 ((((f25 a0).1), ((f25 a0).2)), (f39 a1))).1, (f57 (a0, a1)))))
    (K false)))))
    (br ((f27 a0).2 != 0)
    (br ((f38 ((((f25 a0).1), ((f25 a0).2)), (f39 a1))).2 != (f27 a0).2)
    (K false)
    (br ((f38 ((((f25 a0).1), ((f25 a0).2)), (f39 a1))).1 != 0)
    (K false)
    (br ((f27 a0).2 == 0)
    (br ((f38 ((((f25 a0).1), ((f25 a0).2)), (f39 a1))).2 != 0)
    (K false)
    (f46_pre (a0, a1) ∧
    br ((f38 ((((f25 a0).1), ((f25 a0).2)), (f39 a1))).1 != (f46 (a0, a1)))
    (K false)
    (br ((f27 a0).2 != 0)
    (br ((f55 ((((f25 a0).1), ((f25 a0).2)), (f39 a1))).2 == (f27 a0).2)
    (br (lenOk (((f55 ((((f25 a0).1), ((f25 a0).2)), (f39 a1))).1).length))
    (K (((((f55 ((((f25 a0).1), ((f25 a0).2)), (f39 a1))).1).length) : Int) == 0))
    True)
    (K false))
    (br ((f55 ((((f25 a0).1), ((f25 a0).2)), (f39 a1))).2 == 0)
    (f57_pre (a0, a1) ∧
    K (f44 ((f55 ((((f25 a0).1), ((f25 a0).2)), (f39 a1))).1, (f57 (a0, a1)))))
    (K false)))))
    (br ((f27 a0).2 != 0)
    (br ((f55 ((((f25 a0).1), ((f25 a0).2)), (f39 a1))).2 == (f27 a0).2)
    (br (lenOk (((f55 ((((f25 a0).1), ((f25 a0).2)), (f39 a1))).1).length))
    (K (((((f55 ((((f25 a0).1), ((f25 a0).2)), (f39 a1))).1).length) : Int) == 0))
    True)
    (K false))
    (br ((f55 ((((f25 a0).1), ((f25 a0).2)), (f39 a1))).2 == 0)
    (f57_pre (a0, a1) ∧
    K (f44 ((f55 ((((f25 a0).1), ((f25 a0).2)), (f39 a1))).1, (f57 (a0, a1)))))
    (K false))))))
    (br ((f27 a0).2 == 0)
    (br ((f38 ((((f25 a0).1), ((f25 a0).2)), (f39 a1))).2 != 0)
    (K false)
    (f46_pre (a0, a1) ∧
    br ((f38 ((((f25 a0).1), ((f25 a0).2)), (f39 a1))).1 != (f46 (a0, a1)))
    (K false)
    (br ((f27 a0).2 != 0)
    (br ((f55 ((((f25 a0).1), ((f25 a0).2)), (f39 a1))).2 == (f27 a0).2)
    (br (lenOk (((f55 ((((f25 a0).1), ((f25 a0).2)), (f39 a1))).1).length))
    (K (((((f55 ((((f25 a0).1), ((f25 a0).2)), (f39 a1))).1).length) : Int) == 0))
    True)
    (K false))
    (br ((f55 ((((f25 a0).1), ((f25 a0).2)), (f39 a1))).2 == 0)
    (f57_pre (a0, a1) ∧
    K (f44 ((f55 ((((f25 a0).1), ((f25 a0).2)), (f39 a1))).1, (f57 (a0, a1)))))
    (K false)))))
    (br ((f27 a0).2 != 0)
    (br ((f55 ((((f25 a0).1), ((f25 a0).2)), (f39 a1))).2 == (f27 a0).2)
    (br (lenOk (((f55 ((((f25 a0).1), ((f25 a0).2)), (f39 a1))).1).length))
    (K (((((f55 ((((f25 a0).1), ((f25 a0).2)), (f39 a1))).1).length) : Int) == 0))
    True)
    (K false))
    (br ((f55 ((((f25 a0).1), ((f25 a0).2)), (f39 a1))).2 == 0)
    (f57_pre (a0, a1) ∧
    K (f44 ((f55 ((((f25 a0).1), ((f25 a0).2)), (f39 a1))).1, (f57 (a0, a1)))))
    (K false)))))))
    True))) := by kernel_rfl
theorem f11_t (a0 : (List (List Int) × List (List Int)) × List (ByteArray × Int × Int × Int × Int) × List Int) (a1 : List (Int × Int)) (K : Bool → Prop) (hK : ∀ y : Bool, y = f11 (a0, a1) → K y) : RunF Try.prog f11_E f11_A 6 Try.f11 f11_e.doms f11_e.cods (a0, a1) K := by
  refine ⟨?_⟩
  rw [f11_run a0 a1 K]
  have hT : K true := hK _ rfl
  rw [show (!(f13 ())) = false from rfl, br_f, br_both]
  refine ⟨fun _ => hT, fun hs => ?_⟩
  obtain ⟨m1, m2, m3⟩ := small_pre (not_false_.1 hs)
  rw [br_true_, lenOk_iff]
  intro _
  rw [br_dec]
  refine ⟨fun _ => hT, fun h8 => ?_⟩
  have h8 : a1.length ≤ 8 := by omega
  have e38 : f38 (((f25 a0).1, (f25 a0).2), f39 a1) = f38 (a0, a1) := rfl
  have e55 : f55 (((f25 a0).1, (f25 a0).2), f39 a1) = f55 (a0, a1) := rfl
  have e27 : f27 a0 = probOf a0 := rfl
  have e56 : f56 (a0, a1) = looseErr a0 a1 := rfl
  have e57 : f57 (a0, a1) = marg a0 a1 := rfl
  simp only [e38, e55, e27, e56, e57]
  have p39 : f39_pre a1 := by show a1.length ≤ 1000; omega
  have p38 : f38_pre (a0, a1) := ⟨m3, by simp only; omega⟩
  have p55 : f55_pre (a0, a1) := ⟨m3, by simp only; omega⟩
  refine ⟨m1, p39, p38, m1, p39, p55, ?_⟩
  rw [br_both]
  refine ⟨fun hp => ?_, fun hp => ?_⟩
  · have hok : okP a0 := by
      have : (probOf a0).2 = 0 := by simpa using hp
      exact this
    have hv := hok.v
    have h6 := hv.six
    refine ⟨hok, show a0.2.1.length ≤ 1000 by omega, ?_⟩
    have hm : f55 (a0, a1) = if looseErr a0 a1 ≠ 0 then ([], looseErr a0 a1) else (marg a0 a1, 0) := by rw [f55, if_neg (fun hh => hh hok)]
    have tail := margins_ok (P := f57_pre (a0, a1)) hT hm (fun h0 => ⟨hok, loose_valid h0, by simp only; omega⟩)
    have hpl : planE a0 a1 = slotsErr a0 a1 := if_pos hok
    have h38 : f38 (a0, a1) = if f49 (a0, a1) ≠ 0 then (0, f49 (a0, a1)) else (costF a0 a1, 0) := by
      have e1 : f38 (a0, a1) = if planE a0 a1 ≠ 0 then (0, planE a0 a1) else if a1.length ≠ a0.2.1.length then (0, 10) else (costF a0 a1, 0) := rfl
      have e2 : f49 (a0, a1) = if slotsErr a0 a1 ≠ 0 then slotsErr a0 a1 else if a1.length ≠ a0.2.1.length then 10 else 0 := rfl
      rw [e1, e2, hpl]
      by_cases h1 : slotsErr a0 a1 = 0
      · by_cases h2 : a1.length = a0.2.1.length
        · simp [h1, h2]
        · simp [h1, h2]
      · simp [h1]
    by_cases h49 : f49 (a0, a1) = 0
    · have hsl : slotsErr a0 a1 = 0 := by
        have := h49
        rw [f49] at this
        by_cases h1 : slotsErr a0 a1 = 0
        · exact h1
        · rw [if_pos h1] at this
          exact this
      rw [if_neg (fun hh => hh h49)] at h38
      have e46 : f46 (a0, a1) = costF a0 a1 := rfl
      have b1 : (f49 (a0, a1) != 0) = false := by rw [h49]; rfl
      have b2 : (f49 (a0, a1) == 0) = true := by rw [h49]; rfl
      simp only [b1, b2, h38, e46, bne_self_eq_false, br_f, br_t]
      exact ⟨⟨hok, slotsErr_valid hok hsl, by simp only; omega⟩, tail⟩
    · rw [if_pos h49] at h38
      have b1 : (f49 (a0, a1) != 0) = true := bne_iff_ne.2 h49
      have b2 : (f49 (a0, a1) == 0) = false := beq_eq_false_iff_ne.2 h49
      simp only [b1, b2, h38, bne_self_eq_false, br_f, br_t]
      exact tail
  · have hp : (probOf a0).2 ≠ 0 := by simpa using hp
    have hm : f55 (a0, a1) = if (probOf a0).2 ≠ 0 then ([], (probOf a0).2) else (marg a0 a1, 0) := by rw [f55, if_pos hp, if_pos hp]
    have tail := margins_ok (P := f57_pre (a0, a1)) hT hm (fun h0 => absurd h0 hp)
    have hpl : planE a0 a1 = (probOf a0).2 := if_neg hp
    have h38 : f38 (a0, a1) = (0, (probOf a0).2) := by rw [f38, hpl, if_pos hp]
    have b1 : ((probOf a0).2 != 0) = true := bne_iff_ne.2 hp
    have b2 : ((probOf a0).2 == 0) = false := beq_eq_false_iff_ne.2 hp
    rw [b1] at tail
    simp only [b1, b2, h38, bne_self_eq_false, br_f, br_t]
    exact tail
theorem f11_fn : f11_e.fn = f11 := rfl
theorem f11_ok : EntryOK Try.prog 11 f11_e := by
  refine entryF progOK (EnvOK.cons f13_ok (EnvOK.cons f21_ok (EnvOK.cons f25_ok (EnvOK.cons f27_ok (EnvOK.cons f38_ok (EnvOK.cons f39_ok (EnvOK.cons f44_ok (EnvOK.cons f46_ok (EnvOK.cons f49_ok (EnvOK.cons f55_ok (EnvOK.cons f56_ok (EnvOK.cons f57_ok (EnvOK.nil))))))))))))) (A := f11_A) (d := 6) Try.func11 rfl rfl rfl (fun _ _ => trivial) fun x hpre => ?_
  obtain ⟨a0, a1⟩ := x
  exact f11_t a0 a1 _ fun _ h => h.trans (congrFun f11_fn.symm _)
end Go.Proofs.Ytglokajinehbmaa
