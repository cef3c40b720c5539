/- What functions of the program compute, each proved once, part 5. -/
import Derived.Test.YtglokajinehbmaaPiD
import Derived.Test.YtglokajinehbmaaFnA
import Derived.Test.YtglokajinehbmaaFnD
import Derived.Test.YtglokajinehbmaaFnC

section
namespace Go.Proofs.Ytglokajinehbmaa
open Go Go.Pi Go.RowKit
set_option maxRecDepth 100000
set_option linter.unusedVariables false
set_option linter.unusedSimpArgs false

def f25 (p : (List (List Int) × List (List Int)) × List (ByteArray × Int × Int × Int × Int) × List Int) : (List (List Int) × List (List Int)) × List (ByteArray × Int × Int × Int × Int) × List Int := p
def f25_pre (p : (List (List Int) × List (List Int)) × List (ByteArray × Int × Int × Int × Int) × List Int) : Prop := f19_pre p.1 ∧ f23_pre p.2.1 ∧ p.2.2.length ≤ 1000
theorem few_pre {r : List (List Int) × List (List Int)} (h : f14 r = true) : f19_pre r := by
  unfold f14 at h
  obtain ⟨⟨h1, h2⟩, h3, h4⟩ := of_decide_eq_true h
  exact ⟨⟨by omega, fun x hx => by have := h3 x hx; omega⟩, ⟨by omega, fun x hx => by have := h4 x hx; omega⟩⟩
theorem small_pre {p : (List (List Int) × List (List Int)) × List (ByteArray × Int × Int × Int × Int) × List Int} (h : f21 p = true) : f25_pre p ∧ f23_pre p.2.1 ∧ f22_pre p.2.1 := by
  unfold f21 at h
  simp only [Bool.and_eq_true, decide_eq_true_eq] at h
  obtain ⟨h1, h2, h3⟩ := h
  unfold f71 at h2
  obtain ⟨h4, h5⟩ := of_decide_eq_true h2
  have e23 : f23_pre p.2.1 := by show p.2.1.length ≤ 1000; omega
  exact ⟨⟨few_pre h1, e23, by omega⟩, e23, fun a ha => by have := h5 a ha; omega⟩
def f25_e : Entry := { doms := [(true, (.pair (.pair (.sl (.sl (.int .i64))) (.sl (.sl (.int .i64)))) (.pair (.sl (.pair .str (.pair (.int .i64) (.pair (.int .i64) (.pair (.int .i64) (.int .i64)))))) (.sl (.int .i64)))))], cods := [(true, (.pair (.pair (.sl (.sl (.int .i64))) (.sl (.sl (.int .i64)))) (.pair (.sl (.pair .str (.pair (.int .i64) (.pair (.int .i64) (.pair (.int .i64) (.int .i64)))))) (.sl (.int .i64)))))], pre := f25_pre, fn := f25, uq := false, total := false }
def f25_E : Env := [(19, f19_e), (20, f20_e), (23, f23_e), (21, f21_e), (14, f14_e), (71, f71_e), (22, f22_e)]
def f25_A : Anns := { loops := [], own := [] }
theorem f25_run (a0 : (List (List Int) × List (List Int)) × List (ByteArray × Int × Int × Int × Int) × List Int) (K : ((List (List Int) × List (List Int)) × List (ByteArray × Int × Int × Int × Int) × List Int) → Prop) : runF Try.prog f25_E f25_A 6 Try.f25 f25_e.doms f25_e.cods a0 K =
    (f19_pre a0.1 ∧
    f23_pre a0.2.1 ∧
    f20_pre a0.2.2 ∧
    K ((f19 a0.1), ((f23 a0.2.1), (f20 a0.2.2)))) := by kernel_rfl
theorem f25_t (a0 : (List (List Int) × List (List Int)) × List (ByteArray × Int × Int × Int × Int) × List Int) (hpre : f25_pre a0) (K : ((List (List Int) × List (List Int)) × List (ByteArray × Int × Int × Int × Int) × List Int) → Prop) (hK : ∀ y : (List (List Int) × List (List Int)) × List (ByteArray × Int × Int × Int × Int) × List Int, y = f25 a0 → K y) : RunF Try.prog f25_E f25_A 6 Try.f25 f25_e.doms f25_e.cods a0 K := by
  refine ⟨?_⟩
  rw [f25_run a0 K]
  obtain ⟨h1, h2, h3⟩ := hpre
  exact ⟨h1, h2, show a0.2.2.length ≤ 1048576 from Nat.le_trans h3 (by omega), hK _ rfl⟩
theorem f25_fn : f25_e.fn = f25 := rfl
theorem f25_ok : EntryOK Try.prog 25 f25_e := by
  refine entryF progOK (EnvOK.cons f19_ok (EnvOK.cons f20_ok (EnvOK.cons f23_ok (EnvOK.cons f21_ok (EnvOK.cons f14_ok (EnvOK.cons f71_ok (EnvOK.cons f22_ok (EnvOK.nil)))))))) (A := f25_A) (d := 6) Try.func25 rfl rfl rfl (fun h => by cases h) fun x hpre => ?_
  exact f25_t x hpre _ fun _ h => h.trans (congrFun f25_fn.symm _)
end Go.Proofs.Ytglokajinehbmaa
end

section
namespace Go.Proofs.Ytglokajinehbmaa
open Go Go.Pi Go.RowKit
set_option maxRecDepth 100000
set_option linter.unusedVariables false
set_option linter.unusedSimpArgs false

def f4 (x : (List (List Int) × List (List Int)) × List (ByteArray × Int × Int × Int × Int) × List Int) : Bool := true
def f4_e : Entry := { doms := [(true, (.pair (.pair (.sl (.sl (.int .i64))) (.sl (.sl (.int .i64)))) (.pair (.sl (.pair .str (.pair (.int .i64) (.pair (.int .i64) (.pair (.int .i64) (.int .i64)))))) (.sl (.int .i64)))))], cods := [(false, .bool)], pre := fun _ => True, fn := f4, uq := false, total := true }
def f4_E : Env := [(13, f13_e), (21, f21_e), (22, f22_e), (23, f23_e), (24, f24_e), (25, f25_e), (26, f26_e), (27, f27_e)]
def f4_A : Anns := { loops := [], own := [] }
theorem f4_run (a0 : (List (List Int) × List (List Int)) × List (ByteArray × Int × Int × Int × Int) × List Int) (K : Bool → Prop) : runF Try.prog f4_E f4_A 6 Try.f4 f4_e.doms f4_e.cods a0 K =
    (br (!(f13 ()))
    (K false)
    (br (!(f21 a0))
    (K true)
    (f23_pre a0.2.1 ∧
    f22_pre (f23 a0.2.1) ∧
    f25_pre a0 ∧
    f24_pre (((f25 a0).1), ((f25 a0).2)) ∧
    br ((f22 (f23 a0.2.1)).2 == (f26 a0.2.1).2)
    (br ((f22 (f23 a0.2.1)).1 == (f26 a0.2.1).1)
    (br ((f24 (((f25 a0).1), ((f25 a0).2))).2 == (f27 a0).2)
    (K ((f24 (((f25 a0).1), ((f25 a0).2))).1 == (f27 a0).1))
    (K false))
    (K false))
    (K false)))) := by kernel_rfl
theorem f4_t (a0 : (List (List Int) × List (List Int)) × List (ByteArray × Int × Int × Int × Int) × List Int) (K : Bool → Prop) (hK : ∀ y : Bool, y = f4 a0 → K y) : RunF Try.prog f4_E f4_A 6 Try.f4 f4_e.doms f4_e.cods a0 K := by
  refine ⟨?_⟩
  rw [f4_run a0 K]
  have hT : K true := hK _ rfl
  rw [show (!(f13 ())) = false from rfl, br_f, br_both]
  refine ⟨fun _ => hT, fun hs => ?_⟩
  obtain ⟨m1, m2, m3⟩ := small_pre (not_false_.1 hs)
  refine ⟨m2, m3, m1, m3, ?_⟩
  have e22 : f22 (f23 a0.2.1) = arrOf a0.2.1 := rfl
  have e26 : f26 a0.2.1 = arrOf a0.2.1 := rfl
  have e24 : f24 ((f25 a0).1, (f25 a0).2) = probOf a0 := rfl
  have e27 : f27 a0 = probOf a0 := rfl
  simp only [e22, e26, e24, e27, beq_self_eq_true, br_t]
  exact hT
theorem f4_fn : f4_e.fn = f4 := rfl
theorem f4_ok : EntryOK Try.prog 4 f4_e := by
  refine entryF progOK (EnvOK.cons f13_ok (EnvOK.cons f21_ok (EnvOK.cons f22_ok (EnvOK.cons f23_ok (EnvOK.cons f24_ok (EnvOK.cons f25_ok (EnvOK.cons f26_ok (EnvOK.cons f27_ok (EnvOK.nil))))))))) (A := f4_A) (d := 6) Try.func4 rfl rfl rfl (fun _ _ => trivial) fun x hpre => ?_
  exact f4_t x _ fun _ h => h.trans (congrFun f4_fn.symm _)
end Go.Proofs.Ytglokajinehbmaa
end
