/- What functions of the program compute, each proved once, part 6. -/
import Derived.Test.YtglokajinehbmaaPiD
import Derived.Test.YtglokajinehbmaaFnA
import Derived.Test.YtglokajinehbmaaFnE
import Derived.Test.YtglokajinehbmaaFnD

section
namespace Go.Proofs.Ytglokajinehbmaa
open Go Go.Pi Go.RowKit
set_option maxRecDepth 100000
set_option linter.unusedVariables false
set_option linter.unusedSimpArgs false

def f28 (r : List (List Int) × List (List Int)) : Int × Int := ruleOf r
def f28_e : Entry := { doms := [(true, (.pair (.sl (.sl (.int .i64))) (.sl (.sl (.int .i64)))))], cods := [(false, (.int .i64)), (false, (.int .i64))], pre := fun _ => True, fn := f28, uq := false, total := true }
def f28_E : Env := [(65, f65_e), (66, f66_e), (68, f68_e), (30, f30_e), (17, f17_e)]
def f28_A : Anns := { loops := [(1104883482624, { tms := [(1, .keep), (9, .keep), (10, .keep), (11, .data false (.int .i64))], obs := [(1048576, .keep), (1049603, .keep)], fz := [] }),
  (1214832240989632511082496, { tms := [(1, .keep), (9, .keep), (10, .keep), (11, .data false (.int .i64))], obs := [(1048576, .keep), (1049603, .keep), (1158554306974057477, .keep)], fz := [] })], own := [] }
theorem f28_run (a0 : List (List Int) × List (List Int)) (K : (Int × Int) → Prop) : runF Try.prog f28_E f28_A 6 Try.f28 f28_e.doms f28_e.cods a0 K =
    (br (lenOk (a0.1.length))
    (br (decide (((a0.1.length) : Int) > 0))
    (br (lenOk (a0.2.length))
    (br ((f66 ([(f68 ((((a0.2.length) : Int) == ((a0.1.length) : Int)), 10)), (f68 ((decide (((a0.1.length) : Int) ≤ 4)), 8))] : List Int)) != 0)
    (K (0, (f66 ([(f68 ((((a0.2.length) : Int) == ((a0.1.length) : Int)), 10)), (f68 ((decide (((a0.1.length) : Int) ≤ 4)), 8))] : List Int))))
    (br (lenOk (a0.1.length))
    (LoopP (V := Int × Unit) (fun again v => (fun (again1 : Int → Prop) (v1_0 : Int) =>
    br (decide (v1_0 < ((a0.1.length) : Int)))
    (br (decide (0 ≤ v1_0) && decide (v1_0 < ((a0.1.length) : Int)))
    (br (decide (0 ≤ v1_0) && decide (v1_0 < ((a0.2.length) : Int)))
    (br (lenOk ((a0.1.getD v1_0.toNat []).length))
    (br ((((a0.1.getD v1_0.toNat []).length) : Int) != ((a0.1.length) : Int))
    (K (v1_0, 10))
    (br (lenOk ((a0.2.getD v1_0.toNat []).length))
    (br ((((a0.2.getD v1_0.toNat []).length) : Int) != ((a0.1.length) : Int))
    (K (v1_0, 10))
    (br (lenOk ((a0.1.getD v1_0.toNat []).length))
    (LoopP (V := Int × Unit) (fun again v => (fun (again2 : Int → Prop) (v2_0 : Int) =>
    br (decide (v2_0 < (((a0.1.getD v1_0.toNat []).length) : Int)))
    (br (decide (0 ≤ v2_0) && decide (v2_0 < (((a0.1.getD v1_0.toNat []).length) : Int)))
    (br (f65 (((a0.1.getD v1_0.toNat []).getD v2_0.toNat 0), (0, 600)))
    (br (decide (0 ≤ v2_0) && decide (v2_0 < (((a0.2.getD v1_0.toNat []).length) : Int)))
    (br ((f68 ((f65 (((a0.2.getD v1_0.toNat []).getD v2_0.toNat 0), (0, ((a0.1.getD v1_0.toNat []).getD v2_0.toNat 0)))), 2)) != 0)
    (br ((f68 ((f65 (((a0.2.getD v1_0.toNat []).getD v2_0.toNat 0), (0, ((a0.1.getD v1_0.toNat []).getD v2_0.toNat 0)))), 2)) != 0)
    (K (v1_0, (f68 ((f65 (((a0.2.getD v1_0.toNat []).getD v2_0.toNat 0), (0, ((a0.1.getD v1_0.toNat []).getD v2_0.toNat 0)))), 2))))
    (again1 (IntKind.i64.wrap (v1_0 + 1))))
    (again2 (IntKind.i64.wrap (v2_0 + 1))))
    False)
    (br ((f68 (false, 2)) != 0)
    (br ((f68 (false, 2)) != 0)
    (K (v1_0, (f68 (false, 2))))
    (again1 (IntKind.i64.wrap (v1_0 + 1))))
    (again2 (IntKind.i64.wrap (v2_0 + 1)))))
    False)
    (again1 (IntKind.i64.wrap (v1_0 + 1))))
    (fun v2_0 => again (v2_0, ())) v.1) (0, ()))
    True))
    True))
    True)
    False)
    False)
    (K (0, 0)))
    (fun v1_0 => again (v1_0, ())) v.1) (0, ()))
    True))
    True)
    (br ((f66 ([(f68 (false, 10)), (f68 ((decide (((a0.1.length) : Int) ≤ 4)), 8))] : List Int)) != 0)
    (K (0, (f66 ([(f68 (false, 10)), (f68 ((decide (((a0.1.length) : Int) ≤ 4)), 8))] : List Int))))
    (br (lenOk (a0.1.length))
    (LoopP (V := Int × Unit) (fun again v => (fun (again3 : Int → Prop) (v3_0 : Int) =>
    br (decide (v3_0 < ((a0.1.length) : Int)))
    (br (decide (0 ≤ v3_0) && decide (v3_0 < ((a0.1.length) : Int)))
    (br (decide (0 ≤ v3_0) && decide (v3_0 < ((a0.2.length) : Int)))
    (br (lenOk ((a0.1.getD v3_0.toNat []).length))
    (br ((((a0.1.getD v3_0.toNat []).length) : Int) != ((a0.1.length) : Int))
    (K (v3_0, 10))
    (br (lenOk ((a0.2.getD v3_0.toNat []).length))
    (br ((((a0.2.getD v3_0.toNat []).length) : Int) != ((a0.1.length) : Int))
    (K (v3_0, 10))
    (br (lenOk ((a0.1.getD v3_0.toNat []).length))
    (LoopP (V := Int × Unit) (fun again v => (fun (again4 : Int → Prop) (v4_0 : Int) =>
    br (decide (v4_0 < (((a0.1.getD v3_0.toNat []).length) : Int)))
    (br (decide (0 ≤ v4_0) && decide (v4_0 < (((a0.1.getD v3_0.toNat []).length) : Int)))
    (br (f65 (((a0.1.getD v3_0.toNat []).getD v4_0.toNat 0), (0, 600)))
    (br (decide (0 ≤ v4_0) && decide (v4_0 < (((a0.2.getD v3_0.toNat []).length) : Int)))
    (br ((f68 ((f65 (((a0.2.getD v3_0.toNat []).getD v4_0.toNat 0), (0, ((a0.1.getD v3_0.toNat []).getD v4_0.toNat 0)))), 2)) != 0)
    (br ((f68 ((f65 (((a0.2.getD v3_0.toNat []).getD v4_0.toNat 0), (0, ((a0.1.getD v3_0.toNat []).getD v4_0.toNat 0)))), 2)) != 0)
    (K (v3_0, (f68 ((f65 (((a0.2.getD v3_0.toNat []).getD v4_0.toNat 0), (0, ((a0.1.getD v3_0.toNat []).getD v4_0.toNat 0)))), 2))))
    (again3 (IntKind.i64.wrap (v3_0 + 1))))
    (again4 (IntKind.i64.wrap (v4_0 + 1))))
    False)
    (br ((f68 (false, 2)) != 0)
    (br ((f68 (false, 2)) != 0)
    (K (v3_0, (f68 (false, 2))))
    (again3 (IntKind.i64.wrap (v3_0 + 1))))
    (again4 (IntKind.i64.wrap (v4_0 + 1)))))
    False)
    (again3 (IntKind.i64.wrap (v3_0 + 1))))
    (fun v4_0 => again (v4_0, ())) v.1) (0, ()))
    True))
    True))
    True)
    False)
    False)
    (K (0, 0)))
    (fun v3_0 => again (v3_0, ())) v.1) (0, ()))
    True)))
    True) := by kernel_rfl
theorem f28_t (a0 : List (List Int) × List (List Int)) (K : (Int × Int) → Prop) (hK : ∀ y : Int × Int, y = f28 a0 → K y) : RunF Try.prog f28_E f28_A 6 Try.f28 f28_e.doms f28_e.cods a0 K := by
  refine ⟨?_⟩
  rw [f28_run a0 K]
  have e68 : f68 (false, 2) = 2 := rfl
  have e68' : f68 (false, 10) = 10 := rfl
  -- the rows
  have rows : ¬ (a0.1.length = 0 ∨ a0.2.length ≠ a0.1.length) → ¬ a0.1.length > 4 → LoopP (V := Int × Unit) (fun again v => (fun (again1 : Int → Prop) (v1_0 : Int) =>
    br (decide (v1_0 < ((a0.1.length) : Int)))
    (br (decide (0 ≤ v1_0) && decide (v1_0 < ((a0.1.length) : Int)))
    (br (decide (0 ≤ v1_0) && decide (v1_0 < ((a0.2.length) : Int)))
    (br (lenOk ((a0.1.getD v1_0.toNat []).length))
    (br ((((a0.1.getD v1_0.toNat []).length) : Int) != ((a0.1.length) : Int))
    (K (v1_0, 10))
    (br (lenOk ((a0.2.getD v1_0.toNat []).length))
    (br ((((a0.2.getD v1_0.toNat []).length) : Int) != ((a0.1.length) : Int))
    (K (v1_0, 10))
    (br (lenOk ((a0.1.getD v1_0.toNat []).length))
    (LoopP (V := Int × Unit) (fun again v => (fun (again2 : Int → Prop) (v2_0 : Int) =>
    br (decide (v2_0 < (((a0.1.getD v1_0.toNat []).length) : Int)))
    (br (decide (0 ≤ v2_0) && decide (v2_0 < (((a0.1.getD v1_0.toNat []).length) : Int)))
    (br (f65 (((a0.1.getD v1_0.toNat []).getD v2_0.toNat 0), (0, 600)))
    (br (decide (0 ≤ v2_0) && decide (v2_0 < (((a0.2.getD v1_0.toNat []).length) : Int)))
    (br ((f68 ((f65 (((a0.2.getD v1_0.toNat []).getD v2_0.toNat 0), (0, ((a0.1.getD v1_0.toNat []).getD v2_0.toNat 0)))), 2)) != 0)
    (br ((f68 ((f65 (((a0.2.getD v1_0.toNat []).getD v2_0.toNat 0), (0, ((a0.1.getD v1_0.toNat []).getD v2_0.toNat 0)))), 2)) != 0)
    (K (v1_0, (f68 ((f65 (((a0.2.getD v1_0.toNat []).getD v2_0.toNat 0), (0, ((a0.1.getD v1_0.toNat []).getD v2_0.toNat 0)))), 2))))
    (again1 (IntKind.i64.wrap (v1_0 + 1))))
    (again2 (IntKind.i64.wrap (v2_0 + 1))))
    False)
    (br ((f68 (false, 2)) != 0)
    (br ((f68 (false, 2)) != 0)
    (K (v1_0, (f68 (false, 2))))
    (again1 (IntKind.i64.wrap (v1_0 + 1))))
    (again2 (IntKind.i64.wrap (v2_0 + 1)))))
    False)
    (again1 (IntKind.i64.wrap (v1_0 + 1))))
    (fun v2_0 => again (v2_0, ())) v.1) (0, ()))
    True))
    True))
    True)
    False)
    False)
    (K (0, 0)))
    (fun v1_0 => again (v1_0, ())) v.1) (0, ()) := by
    intro hn h4
    refine each_loop (K := K) (n := a0.1.length) (e := rowE a0) (hK _ (by rw [f28, ruleOf, if_neg hn, if_neg h4])) (fun again i hi hI good bad fin => ?_)
    dsimp only
    rw [br_dec]
    refine ⟨fun h1 => ?_, fun h1 => fin (by omega)⟩
    have hlt : i < a0.1.length := by omega
    have b0 : (decide (0 ≤ (i : Int)) && decide ((i : Int) < (a0.1.length : Int))) = true := inb (by omega) (by omega)
    have b1 : (decide (0 ≤ (i : Int)) && decide ((i : Int) < (a0.2.length : Int))) = true := inb (by omega) (by omega)
    rw [b0, b1]
    simp only [Int.toNat_natCast, br_t]
    have ten : ((a0.1.getD i []).length ≠ a0.1.length ∨ (a0.2.getD i []).length ≠ a0.1.length) → K ((i : Int), 10) := fun hc => by
      have e : rowE a0 i = 10 := if_pos hc
      have := bad hlt (by rw [e]; decide)
      rwa [e] at this
    rw [br_true_]
    intro _
    rw [br_both]
    refine ⟨fun h => ten (.inl (cast_ne.1 h)), fun h => ?_⟩
    have hA := cast_ne_f.1 h
    rw [br_true_]
    intro _
    rw [br_both]
    refine ⟨fun h => ten (.inr (cast_ne.1 h)), fun h => ?_⟩
    have hB := cast_ne_f.1 h
    rw [br_true_]
    intro _
    have hne : ¬ ((a0.1.getD i []).length ≠ a0.1.length ∨ (a0.2.getD i []).length ≠ a0.1.length) := by omega
    refine LoopP.up a0.1.length (fun k _ => ∀ j < k.toNat, rowP a0 i j) (fun again2 k v hk0 hk1 hJ hag2 => ?_) (by omega) (fun j hj => by simp at hj)
    dsimp only
    rw [br_dec]
    refine ⟨fun hk => ?_, fun hk => ?_⟩
    · have c0 : (decide (0 ≤ k) && decide (k < ((a0.1.getD i []).length : Int))) = true := inb hk0 (by omega)
      have c1 : (decide (0 ≤ k) && decide (k < ((a0.2.getD i []).length : Int))) = true := inb hk0 (by omega)
      rw [c0, c1]
      simp only [br_t, e68]
      have two : ¬ rowP a0 i k.toNat → K ((i : Int), 2) := fun hr => by
        have e : rowE a0 i = 2 := by rw [rowE, if_neg hne, if_neg fun hh => hr (hh k.toNat (by omega))]
        have := bad hlt (by rw [e]; decide)
        rwa [e] at this
      rw [br_both]
      refine ⟨fun h => ?_, fun h => ?_⟩
      · have h3 := f65_t1.1 h
        cases h5 : f65 ((a0.2.getD i []).getD k.toNat 0, 0, (a0.1.getD i []).getD k.toNat 0) with
        | false => exact two fun hr => f65_f1.1 h5 hr.2
        | true =>
          show again2 _
          rw [wr (n := k + 1) (by omega) (by omega)]
          refine hag2 () (by omega) fun j hj => ?_
          by_cases hjk : j = k.toNat
          · rw [hjk]; exact ⟨h3, f65_t1.1 h5⟩
          · exact hJ j (by omega)
      · exact two fun hr => f65_f1.1 h hr.1
    · rw [wr (n := (i : Int) + 1) (by omega) (by omega)]
      refine good hlt ?_
      rw [rowE, if_neg hne, if_pos fun j hj => hJ j (by omega)]
  simp only [e68']
  rw [br_true_]
  intro _
  rw [br_dec]
  refine ⟨fun h0 => ?_, fun h0 => hK _ ?_⟩
  · rw [br_true_]
    intro _
    have hf : f66 [f68 ((a0.2.length : Int) == (a0.1.length : Int), 10), f68 (decide ((a0.1.length : Int) ≤ 4), 8)] = if a0.2.length ≠ a0.1.length then 10 else if a0.1.length > 4 then 8 else 0 := by
      simp only [f66_cons, f66_nil, f68]
      by_cases h1 : a0.2.length = a0.1.length
      · rw [cast_eq.2 h1]
        by_cases h2 : a0.1.length > 4
        · have : ¬ ((a0.1.length : Int) ≤ 4) := by omega
          simp [h1, h2, this]
        · have : ((a0.1.length : Int) ≤ 4) := by omega
          simp [h1, h2, this]
      · rw [cast_eq_f.2 h1]
        simp [h1]
    rw [hf]
    by_cases h1 : a0.2.length ≠ a0.1.length
    · rw [if_pos h1]
      exact hK _ (by rw [f28, ruleOf, if_pos (.inr h1)])
    · rw [if_neg h1]
      by_cases h2 : a0.1.length > 4
      · rw [if_pos h2]
        exact hK _ (by rw [f28, ruleOf, if_neg (by omega), if_pos h2])
      · rw [if_neg h2]
        show br (lenOk a0.1.length) _ True
        rw [br_true_]
        intro _
        exact rows (by omega) h2
  · have : a0.1.length = 0 := by omega
    rw [f28, ruleOf, if_pos (.inl this)]
    simp only [f66_cons, f66_nil]
    simp
theorem f28_fn : f28_e.fn = f28 := rfl
theorem f28_ok : EntryOK Try.prog 28 f28_e := by
  refine entryF progOK (EnvOK.cons f65_ok (EnvOK.cons f66_ok (EnvOK.cons f68_ok (EnvOK.cons f30_ok (EnvOK.cons f17_ok (EnvOK.nil)))))) (A := f28_A) (d := 6) Try.func28 rfl rfl rfl (fun _ _ => trivial) fun x hpre => ?_
  exact f28_t x _ fun _ h => h.trans (congrFun f28_fn.symm _)
end Go.Proofs.Ytglokajinehbmaa
end

section
namespace Go.Proofs.Ytglokajinehbmaa
open Go Go.Pi Go.RowKit
set_option maxRecDepth 100000
set_option linter.unusedVariables false
set_option linter.unusedSimpArgs false

def f67 (r : List (List Int) × List (List Int)) : Int := (ruleOf r).2
def f67_e : Entry := { doms := [(true, (.pair (.sl (.sl (.int .i64))) (.sl (.sl (.int .i64)))))], cods := [(false, (.int .i64))], pre := fun _ => True, fn := f67, uq := false, total := true }
def f67_E : Env := [(28, f28_e)]
def f67_A : Anns := { loops := [], own := [] }
theorem f67_run (a0 : List (List Int) × List (List Int)) (K : Int → Prop) : runF Try.prog f67_E f67_A 6 Try.f67 f67_e.doms f67_e.cods a0 K =
    (K ((f28 a0).2)) := by kernel_rfl
theorem f67_t (a0 : List (List Int) × List (List Int)) (K : Int → Prop) (hK : ∀ y : Int, y = f67 a0 → K y) : RunF Try.prog f67_E f67_A 6 Try.f67 f67_e.doms f67_e.cods a0 K := by
  refine ⟨?_⟩
  rw [f67_run a0 K]
  exact hK _ rfl
theorem f67_fn : f67_e.fn = f67 := rfl
theorem f67_ok : EntryOK Try.prog 67 f67_e := by
  refine entryF progOK (EnvOK.cons f28_ok (EnvOK.nil)) (A := f67_A) (d := 6) Try.func67 rfl rfl rfl (fun _ _ => trivial) fun x hpre => ?_
  exact f67_t x _ fun _ h => h.trans (congrFun f67_fn.symm _)
end Go.Proofs.Ytglokajinehbmaa
end

section
namespace Go.Proofs.Ytglokajinehbmaa
open Go Go.Pi Go.RowKit
set_option maxRecDepth 100000
set_option linter.unusedVariables false
set_option linter.unusedSimpArgs false

def sepE (r : Rul) (x : Int × Int × Bool) : Int := if (ruleOf r).2 ≠ 0 then (ruleOf r).2 else if (0 ≤ x.1 ∧ x.1 < r.1.length) ∧ 0 ≤ x.2.1 ∧ x.2.1 < r.1.length then 0 else 6
def f29 (x : (List (List Int) × List (List Int)) × Int × Int × Bool) : Int × Int := if sepE x.1 x.2 ≠ 0 then (0, sepE x.1 x.2) else (secAt x.1 x.2.1 x.2.2.1 x.2.2.2, 0)
def f29_pre (x : (List (List Int) × List (List Int)) × Int × Int × Bool) : Prop := x.1.1.length ≤ 1048576
def f29_e : Entry := { doms := [(true, (.pair (.sl (.sl (.int .i64))) (.sl (.sl (.int .i64))))), (true, (.pair (.int .i64) (.pair (.int .i64) .bool)))], cods := [(false, (.int .i64)), (false, (.int .i64))], pre := f29_pre, fn := f29, uq := false, total := false }
def f29_E : Env := [(65, f65_e), (66, f66_e), (67, f67_e), (68, f68_e), (86, f86_e), (31, f31_e), (16, f16_e)]
def f29_A : Anns := { loops := [], own := [1051141, 1051142, 1051146, 1051147] }
theorem f29_run (a0 : List (List Int) × List (List Int)) (a1 : Int × Int × Bool) (K : (Int × Int) → Prop) : runF Try.prog f29_E f29_A 6 Try.f29 f29_e.doms f29_e.cods (a0, a1) K =
    (br (lenOk (a0.1.length))
    (br (f65 (a1.1, (0, (IntKind.i64.wrap (((a0.1.length) : Int) - 1)))))
    (br (lenOk (a0.1.length))
    (br ((f66 ([(f67 a0), (f68 ((f65 (a1.2.1, (0, (IntKind.i64.wrap (((a0.1.length) : Int) - 1))))), 6))] : List Int)) != 0)
    (K (0, (f66 ([(f67 a0), (f68 ((f65 (a1.2.1, (0, (IntKind.i64.wrap (((a0.1.length) : Int) - 1))))), 6))] : List Int))))
    (f86_pre (a0, a1) ∧
    K ((f86 (a0, a1)), 0)))
    True)
    (br ((f66 ([(f67 a0), (f68 (false, 6))] : List Int)) != 0)
    (K (0, (f66 ([(f67 a0), (f68 (false, 6))] : List Int))))
    (f86_pre (a0, a1) ∧
    K ((f86 (a0, a1)), 0))))
    True) := by kernel_rfl
theorem f29_t (a0 : List (List Int) × List (List Int)) (a1 : Int × Int × Bool) (hpre : f29_pre (a0, a1)) (K : (Int × Int) → Prop) (hK : ∀ y : Int × Int, y = f29 (a0, a1) → K y) : RunF Try.prog f29_E f29_A 6 Try.f29 f29_e.doms f29_e.cods (a0, a1) K := by
  refine ⟨?_⟩
  rw [f29_run a0 a1 K]
  have hl : a0.1.length ≤ 1048576 := hpre
  have e67 : f67 a0 = (ruleOf a0).2 := rfl
  have ef : f29 (a0, a1) = if sepE a0 a1 ≠ 0 then (0, sepE a0 a1) else (secAt a0 a1.1 a1.2.1 a1.2.2, 0) := rfl
  rw [ef] at hK
  have e65 : ∀ n : Int, f65 (n, 0, (a0.1.length : Int) - 1) = decide (0 ≤ n ∧ n < a0.1.length) := fun n => by
    rw [Bool.eq_iff_iff, f65_t1, decide_eq_true_iff]
    exact ⟨fun h => ⟨h.1, by omega⟩, fun h => ⟨h.1, by omega⟩⟩
  have two : ∀ (a : Int) (b : Bool), f66 [a, f68 (b, 6)] = if a ≠ 0 then a else if b = true then 0 else 6 := fun a b => by
    rw [f66_cons]
    by_cases h : a = 0
    · rw [if_pos h, if_neg (fun hh => hh h)]
      cases b <;> rfl
    · rw [if_neg h, if_pos h]
  simp only [wr (n := (a0.1.length : Int) - 1) (by omega) (by omega), e65, two, e67]
  have fin : ∀ b : Bool, (b = true ↔ ((0 ≤ a1.1 ∧ a1.1 < a0.1.length) ∧ 0 ≤ a1.2.1 ∧ a1.2.1 < a0.1.length)) →
      br ((if (ruleOf a0).2 ≠ 0 then (ruleOf a0).2 else if b = true then 0 else 6) != 0) (K (0, if (ruleOf a0).2 ≠ 0 then (ruleOf a0).2 else if b = true then 0 else 6)) (f86_pre (a0, a1) ∧ K (f86 (a0, a1), 0)) := fun b hb => by
    have he : (if (ruleOf a0).2 ≠ 0 then (ruleOf a0).2 else if b = true then 0 else 6) = sepE a0 a1 := by
      unfold sepE
      by_cases h2 : b = true
      · rw [if_pos h2, if_pos (hb.1 h2)]
      · rw [if_neg h2, if_neg (fun hh => h2 (hb.2 hh))]
    rw [he, br_both]
    refine ⟨fun h => hK _ ?_, fun h => ?_⟩
    · rw [if_pos (by simpa using h)]
    · have h : sepE a0 a1 = 0 := by simpa using h
      rw [if_neg (fun hh => hh h)] at hK
      unfold sepE at h
      split at h
      · rename_i hh; exact absurd h hh
      · rename_i hh
        split at h
        · rename_i hin
          exact ⟨⟨Classical.byContradiction hh, hin.1, hin.2.1, hin.2.2⟩, hK _ rfl⟩
        · simp at h
  rw [br_true_]
  intro _
  rw [br_dec]
  refine ⟨fun h1 => ?_, fun h1 => ?_⟩
  · rw [br_true_]
    intro _
    have := fin (decide (0 ≤ a1.2.1 ∧ a1.2.1 < (a0.1.length : Int))) (by rw [decide_eq_true_iff]; exact ⟨fun h => ⟨h1, h⟩, fun h => h.2⟩)
    exact this
  · have := fin false ⟨fun h => (by cases h), fun h => absurd h.1 h1⟩
    exact this
theorem f29_fn : f29_e.fn = f29 := rfl
theorem f29_ok : EntryOK Try.prog 29 f29_e := by
  refine entryF progOK (EnvOK.cons f65_ok (EnvOK.cons f66_ok (EnvOK.cons f67_ok (EnvOK.cons f68_ok (EnvOK.cons f86_ok (EnvOK.cons f31_ok (EnvOK.cons f16_ok (EnvOK.nil)))))))) (A := f29_A) (d := 6) Try.func29 rfl rfl rfl (fun h => by cases h) fun x hpre => ?_
  obtain ⟨a0, a1⟩ := x
  exact f29_t a0 a1 hpre _ fun _ h => h.trans (congrFun f29_fn.symm _)
end Go.Proofs.Ytglokajinehbmaa
end

section
namespace Go.Proofs.Ytglokajinehbmaa
open Go Go.Pi Go.RowKit
set_option maxRecDepth 100000
set_option linter.unusedVariables false
set_option linter.unusedSimpArgs false

def f33 (x : (List (List Int) × List (List Int)) × List Int × Int) : Int := capF x.1 x.2.1 x.2.2
def f33_pre (x : (List (List Int) × List (List Int)) × List Int × Int) : Prop := MixV x.1 x.2.1 x.2.2
def f33_e : Entry := { doms := [(true, (.pair (.sl (.sl (.int .i64))) (.sl (.sl (.int .i64))))), (false, (.sl (.int .i64))), (false, (.int .i64))], cods := [(false, (.int .i64))], pre := f33_pre, fn := f33, uq := false, total := false }
def f33_E : Env := [(16, f16_e)]
def f33_A : Anns := { loops := [(1048576, { tms := [(1, .keep), (2, .keep), (3, .keep), (7, .data false (.int .i64)), (8, .data false (.int .i64)), (9, .data false (.int .i64))], obs := [(1048576, .keep)], fz := [] })], own := [] }
theorem f33_run (a0 : List (List Int) × List (List Int)) (a1 : List Int) (a2 : Int) (K : Int → Prop) : runF Try.prog f33_E f33_A 6 Try.f33 f33_e.doms f33_e.cods (a0, a1, a2) K =
    (LoopP (V := Int × Int × Int × Unit) (fun again v => (fun (again1 : Int → Int → Int → Prop) (v1_0 : Int) (v1_1 : Int) (v1_2 : Int) =>
    br (!(decide (((a1.length) : Int) = 0)))
    (br (decide (0 ≤ (v1_2.tmod ((a1.length) : Int))) && decide ((v1_2.tmod ((a1.length) : Int)) < ((a1.length) : Int)))
    (br (decide (0 ≤ (a1.getD ((v1_2.tmod ((a1.length) : Int)).toNat) 0)) && decide ((a1.getD ((v1_2.tmod ((a1.length) : Int)).toNat) 0) < ((a0.1.length) : Int)))
    (br (!(decide (((a1.length) : Int) = 0)))
    (br (decide (0 ≤ ((IntKind.i64.wrap (v1_2 + 1)).tmod ((a1.length) : Int))) && decide (((IntKind.i64.wrap (v1_2 + 1)).tmod ((a1.length) : Int)) < ((a1.length) : Int)))
    (br (decide (0 ≤ (a1.getD (((IntKind.i64.wrap (v1_2 + 1)).tmod ((a1.length) : Int)).toNat) 0)) && decide ((a1.getD (((IntKind.i64.wrap (v1_2 + 1)).tmod ((a1.length) : Int)).toNat) 0) < (((a0.1.getD ((a1.getD ((v1_2.tmod ((a1.length) : Int)).toNat) 0).toNat) []).length) : Int)))
    (br (lenOk (a1.length))
    (br (lenOk (a1.length))
    (br (decide ((IntKind.i64.wrap (v1_1 + ((a0.1.getD ((a1.getD ((v1_2.tmod ((a1.length) : Int)).toNat) 0).toNat) []).getD ((a1.getD (((IntKind.i64.wrap (v1_2 + 1)).tmod ((a1.length) : Int)).toNat) 0).toNat) 0))) > a2))
    (K v1_0)
    (again1 (IntKind.i64.wrap (v1_0 + 1)) (IntKind.i64.wrap (v1_1 + ((a0.1.getD ((a1.getD ((v1_2.tmod ((a1.length) : Int)).toNat) 0).toNat) []).getD ((a1.getD (((IntKind.i64.wrap (v1_2 + 1)).tmod ((a1.length) : Int)).toNat) 0).toNat) 0))) (IntKind.i64.wrap (v1_2 + 1))))
    True)
    True)
    False)
    False)
    False)
    False)
    False)
    False)
    (fun v1_0 v1_1 v1_2 => again (v1_0, v1_1, v1_2, ())) v.1 v.2.1 v.2.2.1) (1, 0, 0, ())) := by kernel_rfl
theorem f33_t (a0 : List (List Int) × List (List Int)) (a1 : List Int) (a2 : Int) (hpre : f33_pre (a0, a1, a2)) (K : Int → Prop) (hK : ∀ y : Int, y = f33 (a0, a1, a2) → K y) : RunF Try.prog f33_E f33_A 6 Try.f33 f33_e.doms f33_e.cods (a0, a1, a2) K := by
  refine ⟨?_⟩
  rw [f33_run a0 a1 a2 K]
  have h : MixV a0 a1 a2 := hpre
  have hs := h.secs
  have hcap := capF_is h
  have hc := IsCap.le_secs h hcap.le
  have hlen := h.len
  refine LoopP.of (fun q : Int × Int × Int × Unit => ∃ i : Nat, i < capF a0 a1 a2 ∧ q.1 = (i : Int) + 1 ∧ q.2.1 = timeAt a0 a1 i ∧ q.2.2.1 = (i : Int)) (fun q => ((capF a0 a1 a2 : Int) - q.2.2.1).toNat) (fun again q hq hag => ?_) ⟨0, ?_, rfl, rfl, rfl⟩
  · obtain ⟨c, t, ii, u⟩ := q
    obtain ⟨i, hi, e1, e2, e3⟩ := hq
    simp only at e1 e2 e3
    subst e1 e2 e3
    dsimp only
    have hm := Nat.mod_lt i hlen.1
    obtain ⟨g1, g2⟩ := mix_in h.rule h.cat hm
    have d1 := h.cat _ hm
    have d2 := h.cat _ g2
    have hmm : (i % a1.length + 1) % a1.length = (i + 1) % a1.length := by rw [Nat.mod_add_mod]
    rw [hmm] at g2 d2
    have hgi := h.gap_in hm
    have ht := timeAt_600 h i
    have ht0 := timeAt_ge h i
    have hgap : (a0.1.getD (a1.getD (i % a1.length) 0).toNat []).getD (a1.getD ((i + 1) % a1.length) 0).toNat 0 = gapAt a0 a1 (i % a1.length) := by rw [gapAt, hmm]
    rw [wr (n := (i : Int) + 1) (by omega) (by omega), wr (n := (i : Int) + 1 + 1) (by omega) (by omega), show (i : Int) + 1 = ((i + 1 : Nat) : Int) by omega, tm_nat, tm_nat, Int.toNat_natCast, Int.toNat_natCast, hgap]
    have hst : timeAt a0 a1 i + gapAt a0 a1 (i % a1.length) = timeAt a0 a1 (i + 1) := rfl
    rw [hst, wr (n := timeAt a0 a1 (i + 1)) (by omega) (by omega)]
    rw [br_false_]
    refine ⟨by rw [decide_eq_false (by omega)]; rfl, ?_⟩
    rw [br_false_]
    refine ⟨inb (by omega) (by omega), ?_⟩
    rw [br_false_]
    refine ⟨inb d1.1 d1.2, ?_⟩
    rw [br_false_]
    refine ⟨by rw [decide_eq_false (by omega)]; rfl, ?_⟩
    rw [br_false_]
    refine ⟨inb (by omega) (by omega), ?_⟩
    rw [br_false_]
    refine ⟨inb d2.1 (by rw [g1]; exact d2.2), ?_⟩
    rw [br_true_, br_true_]
    intro _ _
    rw [br_dec]
    refine ⟨fun hgt => hK _ ?_, fun hle => ?_⟩
    · have : IsCap a0 a1 a2 (i + 1) := ⟨fun j hj => by
        rcases Nat.lt_or_ge j (capF a0 a1 a2) with hh | hh
        · exact hcap.le j hh
        · omega, by omega⟩
      have := this.uniq hcap
      show ((i + 1 : Nat) : Int) = capF a0 a1 a2
      rw [this]
    · have hne : i + 1 < capF a0 a1 a2 := by
        rcases Nat.lt_or_ge (i + 1) (capF a0 a1 a2) with hh | hh
        · exact hh
        · have : capF a0 a1 a2 = i + 1 := by omega
          have := hcap.gt
          rw [‹capF a0 a1 a2 = i + 1›] at this
          omega
      exact hag (_, _, _, ()) ⟨i + 1, hne, by simp only, rfl, rfl⟩ (by simp only; omega)
  · rcases Nat.lt_or_ge 0 (capF a0 a1 a2) with hh | hh
    · exact hh
    · have : capF a0 a1 a2 = 0 := by omega
      have h2 := hcap.gt
      rw [this] at h2
      have : timeAt a0 a1 0 = 0 := rfl
      omega
theorem f33_fn : f33_e.fn = f33 := rfl
theorem f33_ok : EntryOK Try.prog 33 f33_e := by
  refine entryF progOK (EnvOK.cons f16_ok (EnvOK.nil)) (A := f33_A) (d := 6) Try.func33 rfl rfl rfl (fun h => by cases h) fun x hpre => ?_
  obtain ⟨a0, a1, a2⟩ := x
  exact f33_t a0 a1 a2 hpre _ fun _ h => h.trans (congrFun f33_fn.symm _)
end Go.Proofs.Ytglokajinehbmaa
end

section
namespace Go.Proofs.Ytglokajinehbmaa
open Go Go.Pi Go.RowKit
set_option maxRecDepth 100000
set_option linter.unusedVariables false
set_option linter.unusedSimpArgs false

def capE (r : Rul) (mix : List Int) (secs : Int) : Int := if (ruleOf r).2 ≠ 0 then (ruleOf r).2 else mixErr r mix secs
def f18 (x : (List (List Int) × List (List Int)) × List Int × Int) : Int × Int := if capE x.1 x.2.1 x.2.2 ≠ 0 then (0, capE x.1 x.2.1 x.2.2) else ((capF x.1 x.2.1 x.2.2 : Int), 0)
def f18_pre (x : (List (List Int) × List (List Int)) × List Int × Int) : Prop := x.1.1.length ≤ 1048576 ∧ x.2.1.length ≤ 1048576
/-- The errors but that of the gaps. -/
def capE0 (r : Rul) (mix : List Int) (secs : Int) : Int := if (ruleOf r).2 ≠ 0 then (ruleOf r).2 else
  if mix.length = 0 then 10 else if mix.length > 12 then 8 else if (eachE mix.length (catI r mix)).2 ≠ 0 then 6 else if ¬ (0 ≤ secs ∧ secs ≤ 7200) then 2 else 0
theorem capE_of {r : Rul} {mix : List Int} {secs : Int} : capE r mix secs = if capE0 r mix secs ≠ 0 then capE0 r mix secs else if (eachE mix.length (gapI r mix)).2 ≠ 0 then 11 else 0 := by
  unfold capE capE0 mixErr
  by_cases h1 : (ruleOf r).2 = 0 <;> by_cases h2 : mix.length = 0 <;> by_cases h3 : mix.length > 12 <;> by_cases h4 : (eachE mix.length (catI r mix)).2 = 0 <;> by_cases h5 : 0 ≤ secs ∧ secs ≤ 7200 <;> simp [h1, h2, h3, h4, h5]
theorem capE0_zero {r : Rul} {mix : List Int} {secs : Int} (h : capE0 r mix secs = 0) : (ruleOf r).2 = 0 ∧ (0 < mix.length ∧ mix.length ≤ 12) ∧ (∀ i, i < mix.length → 0 ≤ mix.getD i 0 ∧ mix.getD i 0 < r.1.length) ∧ 0 ≤ secs ∧ secs ≤ 7200 := by
  unfold capE0 at h
  split at h
  · rename_i hh; exact absurd h hh
  · rename_i h0
    split at h
    · simp at h
    · rename_i h1
      split at h
      · simp at h
      · rename_i h2
        split at h
        · simp at h
        · rename_i h3
          split at h
          · simp at h
          · rename_i h4
            have h3 := eachE_zero (Classical.byContradiction h3)
            refine ⟨Classical.byContradiction h0, ⟨by omega, by omega⟩, fun i hi => ?_, Classical.byContradiction h4⟩
            have := h3 i hi
            unfold catI at this
            split at this
            · assumption
            · simp at this
theorem five (a : Int) (b c d e : Bool) : f66 [a, f68 (b, 10), f68 (c, 8), f68 (d, 6), f68 (e, 2)] = if a ≠ 0 then a else if b = false then 10 else if c = false then 8 else if d = false then 6 else if e = false then 2 else 0 := by
  rw [f66_cons]
  by_cases h : a = 0
  · rw [if_pos h, if_neg (fun hh => hh h)]
    cases b <;> cases c <;> cases d <;> cases e <;> rfl
  · rw [if_neg h, if_pos h]
/-- What follows where there is no error. -/
def capTail (a0 : Rul) (a1 : List Int) (a2 : Int) (K : Int × Int → Prop) : Prop := br (lenOk (a1.length))
  (LoopP (V := Int × List Int × Unit) (fun again v => (fun (again2 : Int → List Int → Prop) (v2_0 : Int) (v2_1 : List Int) =>
  br (decide (v2_0 < ((a1.length) : Int)))
  (br (decide (0 ≤ v2_0) && decide (v2_0 < ((a1.length) : Int)))
  (br (decide (0 ≤ (a1.getD v2_0.toNat 0)) && decide ((a1.getD v2_0.toNat 0) < ((a0.1.length) : Int)))
  (br (!(decide (((a1.length) : Int) = 0)))
  (br (decide (0 ≤ ((IntKind.i64.wrap (v2_0 + 1)).tmod ((a1.length) : Int))) && decide (((IntKind.i64.wrap (v2_0 + 1)).tmod ((a1.length) : Int)) < ((a1.length) : Int)))
  (br (decide (0 ≤ (a1.getD (((IntKind.i64.wrap (v2_0 + 1)).tmod ((a1.length) : Int)).toNat) 0)) && decide ((a1.getD (((IntKind.i64.wrap (v2_0 + 1)).tmod ((a1.length) : Int)).toNat) 0) < (((a0.1.getD ((a1.getD v2_0.toNat 0).toNat) []).length) : Int)))
  (br (roomOk ((v2_1.length) + 1) 8)
  (br (lenOk (a1.length))
  (again2 (IntKind.i64.wrap (v2_0 + 1)) (v2_1 ++ ([((a0.1.getD ((a1.getD v2_0.toNat 0).toNat) []).getD ((a1.getD (((IntKind.i64.wrap (v2_0 + 1)).tmod ((a1.length) : Int)).toNat) 0).toNat) 0)] : List Int)))
  True)
  False)
  False)
  False)
  False)
  False)
  False)
  (br (f69 (v2_1, 0))
  (K (0, 11))
  (LoopP (V := Int × Int × Unit) (fun again v => (fun (again3 : Int → Int → Prop) (v3_0 : Int) (v3_1 : Int) =>
  br (decide (v3_1 ≤ a2))
  (br (lenOk (v2_1.length))
  (br (!(decide (((v2_1.length) : Int) = 0)))
  (br (decide (0 ≤ (v3_0.tmod ((v2_1.length) : Int))) && decide ((v3_0.tmod ((v2_1.length) : Int)) < ((v2_1.length) : Int)))
  (again3 (IntKind.i64.wrap (v3_0 + 1)) (IntKind.i64.wrap (v3_1 + (v2_1.getD ((v3_0.tmod ((v2_1.length) : Int)).toNat) 0))))
  False)
  False)
  True)
  (K (v3_0, 0)))
  (fun v3_0 v3_1 => again (v3_0, v3_1, ())) v.1 v.2.1) (0, 0, ()))))
  (fun v2_0 v2_1 => again (v2_0, v2_1, ())) v.1 v.2.1) (0, ([] : List Int), ()))
  True
/-- What follows behind the look at the mix. -/
def capErr (a0 : Rul) (a1 : List Int) (a2 : Int) (d : Bool) (K : Int × Int → Prop) : Prop := br (lenOk (a1.length))
  (br (lenOk (a1.length))
  (br ((f66 ([(f67 a0), (f68 ((decide (((a1.length) : Int) > 0)), 10)), (f68 ((decide (((a1.length) : Int) ≤ 12)), 8)), (f68 (d, 6)), (f68 ((f65 (a2, (0, 7200))), 2))] : List Int)) != 0)
  (K (0, (f66 ([(f67 a0), (f68 ((decide (((a1.length) : Int) > 0)), 10)), (f68 ((decide (((a1.length) : Int) ≤ 12)), 8)), (f68 (d, 6)), (f68 ((f65 (a2, (0, 7200))), 2))] : List Int))))
  (capTail a0 a1 a2 K))
  True)
  True
def f18_e : Entry := { doms := [(true, (.pair (.sl (.sl (.int .i64))) (.sl (.sl (.int .i64))))), (false, (.sl (.int .i64))), (false, (.int .i64))], cods := [(false, (.int .i64)), (false, (.int .i64))], pre := f18_pre, fn := f18, uq := false, total := false }
def f18_E : Env := [(65, f65_e), (66, f66_e), (67, f67_e), (68, f68_e), (69, f69_e), (29, f29_e), (33, f33_e)]
def f18_A : Anns := { loops := [(1048576, { tms := [(1, .keep), (2, .keep), (3, .keep), (10, .ref 1057809), (39, .keep), (40, .keep), (41, .data false (.int .i64))], obs := [(1048576, .keep), (1057809, .arr (.uniq) (.int .i64))], fz := [] }),
  (1048578, { tms := [(2, .keep), (10, .keep), (13, .data false (.int .i64)), (14, .data false (.int .i64))], obs := [(1048576, .keep), (1057809, .keep)], fz := [] }),
  (1154049604612784128, { tms := [(0, .keep), (1, .keep), (7, .keep), (8, .data false (.int .i64))], obs := [(1048576, .keep)], fz := [] })], own := [] }
theorem f18_run (a0 : List (List Int) × List (List Int)) (a1 : List Int) (a2 : Int) (K : (Int × Int) → Prop) : runF Try.prog f18_E f18_A 6 Try.f18 f18_e.doms f18_e.cods (a0, a1, a2) K =
    (br (lenOk (a1.length))
    (LoopP (V := Int × Unit) (fun again v => (fun (again1 : Int → Prop) (v1_0 : Int) =>
    br (decide (v1_0 < ((a1.length) : Int)))
    (br (decide (0 ≤ v1_0) && decide (v1_0 < ((a1.length) : Int)))
    (br (lenOk (a0.1.length))
    (br (!(f65 ((a1.getD v1_0.toNat 0), (0, (IntKind.i64.wrap (((a0.1.length) : Int) - 1))))))
    (capErr a0 a1 a2 (!(decide (v1_0 ≥ 0))) K)
    (again1 (IntKind.i64.wrap (v1_0 + 1))))
    True)
    False)
    (capErr a0 a1 a2 true K))
    (fun v1_0 => again (v1_0, ())) v.1) (0, ()))
    True) := by kernel_rfl
theorem f18_t (a0 : List (List Int) × List (List Int)) (a1 : List Int) (a2 : Int) (hpre : f18_pre (a0, a1, a2)) (K : (Int × Int) → Prop) (hK : ∀ y : Int × Int, y = f18 (a0, a1, a2) → K y) : RunF Try.prog f18_E f18_A 6 Try.f18 f18_e.doms f18_e.cods (a0, a1, a2) K := by
  refine ⟨?_⟩
  rw [f18_run a0 a1 a2 K]
  obtain ⟨hl, hl2⟩ := hpre
  simp only at hl hl2
  have e67 : f67 a0 = (ruleOf a0).2 := rfl
  have ef : f18 (a0, a1, a2) = if capE a0 a1 a2 ≠ 0 then (0, capE a0 a1 a2) else ((capF a0 a1 a2 : Int), 0) := rfl
  rw [ef] at hK
  have e65 : ∀ n : Int, f65 (n, 0, (a0.1.length : Int) - 1) = decide (0 ≤ n ∧ n < a0.1.length) := fun n => by
    rw [Bool.eq_iff_iff, f65_t1, decide_eq_true_iff]
    exact ⟨fun h => ⟨h.1, by omega⟩, fun h => ⟨h.1, by omega⟩⟩
  have err : ∀ d : Bool, (d = true ↔ (eachE a1.length (catI a0 a1)).2 = 0) → f66 [f67 a0, f68 (decide ((a1.length : Int) > 0), 10), f68 (decide ((a1.length : Int) ≤ 12), 8), f68 (d, 6), f68 (f65 (a2, 0, 7200), 2)] = capE0 a0 a1 a2 := fun d hd => by
    rw [e67, five, capE0]
    have q1 : (decide ((a1.length : Int) > 0) = false) ↔ a1.length = 0 := by rw [decide_eq_false_iff_not]; omega
    have q2 : (decide ((a1.length : Int) ≤ 12) = false) ↔ a1.length > 12 := by rw [decide_eq_false_iff_not]; omega
    have q3 : (d = false) ↔ (eachE a1.length (catI a0 a1)).2 ≠ 0 := by rw [ne_eq, ← hd, Bool.not_eq_true]
    simp only [q1, q2, q3, f65_f1]
  have tail : capE0 a0 a1 a2 = 0 → capTail a0 a1 a2 K := fun h0 => by
    obtain ⟨hr, hlen, hc, hs⟩ := capE0_zero h0
    rw [capE_of, if_neg (show ¬ capE0 a0 a1 a2 ≠ 0 from fun hh => hh h0)] at hK
    unfold capTail
    rw [br_true_]
    intro _
    refine LoopP.of (fun q : Int × List Int × Unit => ∃ i : Nat, i ≤ a1.length ∧ q.1 = (i : Int) ∧ q.2.1 = (List.range i).map (gapAt a0 a1)) (fun q => ((a1.length : Int) - q.1).toNat) (fun again q hq hag => ?_) ⟨0, by omega, rfl, rfl⟩
    obtain ⟨ii, l, u⟩ := q
    obtain ⟨i, hi, e1, e2⟩ := hq
    simp only at e1 e2
    subst e1
    dsimp only
    rw [br_dec]
    refine ⟨fun hlt => ?_, fun hlt => ?_⟩
    · have hlt : i < a1.length := by omega
      obtain ⟨g1, g2⟩ := mix_in hr hc hlt
      have d1 := hc i hlt
      have d2 := hc _ g2
      have hll : l.length = i := by rw [e2]; simp
      rw [wr (n := (i : Int) + 1) (by omega) (by omega), show (i : Int) + 1 = ((i + 1 : Nat) : Int) by omega, tm_nat, Int.toNat_natCast, Int.toNat_natCast, br_false_]
      refine ⟨inb (by omega) (by omega), ?_⟩
      rw [br_false_]
      refine ⟨inb d1.1 d1.2, ?_⟩
      rw [br_false_]
      refine ⟨by rw [decide_eq_false (by omega)]; rfl, ?_⟩
      rw [br_false_]
      refine ⟨inb (by omega) (by omega), ?_⟩
      rw [br_false_]
      refine ⟨inb d2.1 (by rw [g1]; exact d2.2), ?_⟩
      rw [br_false_, roomOk_iff]
      refine ⟨by omega, ?_⟩
      rw [br_true_]
      intro _
      refine hag (_, _, ()) ⟨i + 1, by omega, by simp only, ?_⟩ (by simp only; omega)
      simp only
      rw [e2, List.range_succ, List.map_append]
      rfl
    · have hi : i = a1.length := by omega
      subst hi
      have hmem : (0 ∈ l) ↔ (eachE a1.length (gapI a0 a1)).2 ≠ 0 := by
        rw [e2]
        constructor
        · intro hm he
          obtain ⟨j, hj, hg⟩ := List.mem_map.1 hm
          have := eachE_zero he j (List.mem_range.1 hj)
          unfold gapI at this
          rw [if_pos hg] at this
          simp at this
        · intro he
          rcases Classical.em (∃ j, j < a1.length ∧ gapAt a0 a1 j = 0) with ⟨j, hj, hg⟩ | hno
          · exact List.mem_map.2 ⟨j, List.mem_range.2 hj, hg⟩
          · refine absurd ?_ he
            rw [eachE_none fun j hj => ?_]
            rw [gapI, if_neg (fun hh => hno ⟨j, hj, hh⟩)]
      have e69 : f69 (l, 0) = decide (0 ∈ l) := rfl
      rw [e69, br_dec]
      refine ⟨fun hm => hK _ ?_, fun hm => ?_⟩
      · rw [if_pos (hmem.1 hm)]
        rfl
      · have he : (eachE a1.length (gapI a0 a1)).2 = 0 := Classical.byContradiction fun hh => hm (hmem.2 hh)
        rw [show (if (eachE a1.length (gapI a0 a1)).2 ≠ 0 then (11 : Int) else 0) = 0 from if_neg (fun hh => hh he), if_neg (fun hh => hh rfl)] at hK
        have hM : MixV a0 a1 a2 := ⟨hr, hlen, hc, hs, fun i hi hg => by
          have := eachE_zero he i hi
          rw [gapI, if_pos hg] at this
          simp at this⟩
        have hcap := capF_is hM
        have hcs := IsCap.le_secs hM hcap.le
        have hll : l.length = a1.length := by rw [e2]; simp
        refine LoopP.of (fun q : Int × Int × Unit => ∃ i : Nat, i ≤ capF a0 a1 a2 ∧ q.1 = (i : Int) ∧ q.2.1 = timeAt a0 a1 i) (fun q => ((capF a0 a1 a2 : Int) - q.1).toNat) (fun again q hq hag => ?_) ⟨0, by omega, rfl, rfl⟩
        obtain ⟨ii, tt, u⟩ := q
        obtain ⟨i, hi, e1, e3⟩ := hq
        simp only at e1 e3
        subst e1 e3
        dsimp only
        rw [br_dec]
        refine ⟨fun hle => ?_, fun hgt => hK _ ?_⟩
        · have hlt : i < capF a0 a1 a2 := by
            rcases Nat.lt_or_ge i (capF a0 a1 a2) with hh | hh
            · exact hh
            · have : i = capF a0 a1 a2 := by omega
              subst this
              have := hcap.gt
              omega
          have hm := Nat.mod_lt i hlen.1
          have hgi := hM.gap_in hm
          have ht := timeAt_600 hM i
          have ht0 := timeAt_ge hM i
          have hg : l.getD (i % a1.length) 0 = gapAt a0 a1 (i % a1.length) := by rw [e2, range_getD hm]
          rw [hll, tm_nat, Int.toNat_natCast, hg, wr (n := (i : Int) + 1) (by omega) (by omega), wr (n := timeAt a0 a1 i + _) (by omega) (by omega), br_true_]
          intro _
          rw [br_false_]
          refine ⟨by rw [decide_eq_false (by omega)]; rfl, ?_⟩
          rw [br_false_]
          refine ⟨inb (by omega) (by omega), ?_⟩
          exact hag (_, _, ()) ⟨i + 1, by omega, by simp only; omega, rfl⟩ (by simp only; omega)
        · have : IsCap a0 a1 a2 i := ⟨fun j hj => hcap.le j (by omega), by omega⟩
          rw [this.uniq hcap]
  have rest : ∀ d : Bool, (d = true ↔ (eachE a1.length (catI a0 a1)).2 = 0) → capErr a0 a1 a2 d K := fun d hd => by
    unfold capErr
    rw [err d hd, br_true_, br_true_]
    intro _ _
    rw [br_both]
    refine ⟨fun h => hK _ ?_, fun h => tail (by simpa using h)⟩
    have h : capE0 a0 a1 a2 ≠ 0 := by simpa using h
    rw [capE_of, if_pos h, if_pos h]
  rw [br_true_]
  intro _
  refine each_walk (n := a1.length) (e := catI a0 a1) (fun again i hi hI good => ?_)
  dsimp only
  rw [br_dec]
  refine ⟨fun hlt => ?_, fun hlt => ?_⟩
  · have hlt : i < a1.length := by omega
    rw [br_false_]
    refine ⟨inb (by omega) (by omega), ?_⟩
    rw [br_true_]
    intro _
    rw [Int.toNat_natCast, wr (n := (a0.1.length : Int) - 1) (by omega) (by omega), e65, wr (n := (i : Int) + 1) (by omega) (by omega), br_both]
    refine ⟨fun hb => rest _ ?_, fun hb => good hlt ?_⟩
    · have hb := of_decide_eq_false (not_true.1 hb)
      have he : catI a0 a1 i ≠ 0 := by rw [catI, if_neg hb]; decide
      rw [eachE_some hlt hI he, decide_eq_true (show (i : Int) ≥ 0 by omega)]
      exact ⟨fun h => (by cases h), fun h => absurd h he⟩
    · have hb := of_decide_eq_true (not_false_.1 hb)
      rw [catI, if_pos hb]
  · refine rest true ⟨fun _ => ?_, fun _ => rfl⟩
    rw [eachE_none fun j hj => hI j (by omega)]
theorem f18_fn : f18_e.fn = f18 := rfl
theorem f18_ok : EntryOK Try.prog 18 f18_e := by
  refine entryF progOK (EnvOK.cons f65_ok (EnvOK.cons f66_ok (EnvOK.cons f67_ok (EnvOK.cons f68_ok (EnvOK.cons f69_ok (EnvOK.cons f29_ok (EnvOK.cons f33_ok (EnvOK.nil)))))))) (A := f18_A) (d := 6) Try.func18 rfl rfl rfl (fun h => by cases h) fun x hpre => ?_
  obtain ⟨a0, a1, a2⟩ := x
  exact f18_t a0 a1 a2 hpre _ fun _ h => h.trans (congrFun f18_fn.symm _)
end Go.Proofs.Ytglokajinehbmaa
end

section
namespace Go.Proofs.Ytglokajinehbmaa
open Go Go.Pi Go.RowKit
set_option maxRecDepth 100000
set_option linter.unusedVariables false
set_option linter.unusedSimpArgs false

def f20 (l : List Int) : List Int := l
def f20_pre (l : List Int) : Prop := l.length ≤ 1048576
def f20_e : Entry := { doms := [(false, (.sl (.int .i64)))], cods := [(false, (.sl (.int .i64)))], pre := f20_pre, fn := f20, uq := true, total := false }
def f20_E : Env := []
def f20_A : Anns := { loops := [], own := [1049600] }
theorem f20_run (a0 : List Int) (K : (List Int) → Prop) : runU Try.prog f20_E f20_A 6 Try.f20 f20_e.doms f20_e.cods a0 K =
    (br (roomOk (0 + (a0.length)) 8)
    (K (([] : List Int) ++ a0))
    False) := by kernel_rfl
theorem f20_t (a0 : List Int) (hpre : f20_pre a0) (K : (List Int) → Prop) (hK : ∀ y : List Int, y = f20 a0 → K y) : RunU Try.prog f20_E f20_A 6 Try.f20 f20_e.doms f20_e.cods a0 K := by
  refine ⟨?_⟩
  rw [f20_run a0 K]
  simp only [br_false_, roomOk_iff]
  have : a0.length ≤ 1048576 := hpre
  exact ⟨by omega, hK _ (by simp [f20])⟩
theorem f20_fn : f20_e.fn = f20 := rfl
theorem f20_ok : EntryOK Try.prog 20 f20_e := by
  refine entryFU progOK (EnvOK.nil) (A := f20_A) (d := 6) Try.func20 rfl rfl (fun h => by cases h) fun x hpre => ?_
  exact f20_t x hpre _ fun _ h => h.trans (congrFun f20_fn.symm _)
end Go.Proofs.Ytglokajinehbmaa
end

section
namespace Go.Proofs.Ytglokajinehbmaa
open Go Go.Pi Go.RowKit
set_option maxRecDepth 100000
set_option linter.unusedVariables false
set_option linter.unusedSimpArgs false

def f70 (l : List (List Int)) : List (List Int) := l
def f70_pre (l : List (List Int)) : Prop := l.length ≤ 1000 ∧ ∀ x ∈ l, x.length ≤ 1000
def f70_e : Entry := { doms := [(false, (.sl (.sl (.int .i64))))], cods := [(false, (.sl (.sl (.int .i64))))], pre := f70_pre, fn := f70, uq := false, total := false }
def f70_E : Env := [(20, f20_e)]
def f70_A : Anns := { loops := [(1048576, { tms := [(0, .keep), (3, .ref 1053703), (4, .data false (.int .i64))], obs := [(1053703, .arr (.uniq) (.sl (.int .i64)))], fz := [] })], own := [] }
theorem f70_run (a0 : List (List Int)) (K : (List (List Int)) → Prop) : runF Try.prog f70_E f70_A 6 Try.f70 f70_e.doms f70_e.cods a0 K =
    (LoopP (V := Int × List (List Int) × Unit) (fun again v => (fun (again1 : Int → List (List Int) → Prop) (v1_0 : Int) (v1_1 : List (List Int)) =>
    br (lenOk (a0.length))
    (br (decide (v1_0 < ((a0.length) : Int)))
    (br (decide (0 ≤ v1_0) && decide (v1_0 < ((a0.length) : Int)))
    (f20_pre (a0.getD v1_0.toNat []) ∧
    br (roomOk ((v1_1.length) + 1) 24)
    (again1 (IntKind.i64.wrap (v1_0 + 1)) (v1_1 ++ ([(f20 (a0.getD v1_0.toNat []))] : List (List Int))))
    False)
    False)
    (K v1_1))
    True)
    (fun v1_0 v1_1 => again (v1_0, v1_1, ())) v.1 v.2.1) (0, ([] : List (List Int)), ())) := by kernel_rfl
theorem f70_t (a0 : List (List Int)) (hpre : f70_pre a0) (K : (List (List Int)) → Prop) (hK : ∀ y : List (List Int), y = f70 a0 → K y) : RunF Try.prog f70_E f70_A 6 Try.f70 f70_e.doms f70_e.cods a0 K := by
  refine ⟨?_⟩
  rw [f70_run a0 K]
  obtain ⟨h1, h2⟩ := hpre
  refine LoopP.up a0.length (fun i v => v.1 = a0.take i.toNat) (fun again i v hi0 hn hI hag => ?_) (by omega) rfl
  obtain ⟨xs, u⟩ := v
  have hI : xs = a0.take i.toNat := hI
  subst hI
  dsimp only
  rw [br_true_]
  intro _
  rw [br_dec]
  refine ⟨fun hi => ?_, fun hi => hK _ ?_⟩
  · have hil : i.toNat < a0.length := by omega
    have hlen : (a0.take i.toNat).length ≤ 1000 := by rw [List.length_take]; omega
    rw [br_false_, getD_lt hil]
    refine ⟨by simp; omega, ?_, ?_⟩
    · have := h2 _ (List.getElem_mem hil)
      show (a0[i.toNat]).length ≤ 1048576
      omega
    · rw [br_false_, roomOk_iff, wr (n := i + 1) (by omega) (by omega)]
      refine ⟨by omega, hag (_, ()) hi ?_⟩
      show a0.take i.toNat ++ [f20 a0[i.toNat]] = a0.take (i + 1).toNat
      rw [show (i + 1).toNat = i.toNat + 1 by omega, List.take_add_one, List.getElem?_eq_getElem hil]
      rfl
  · rw [f70, List.take_of_length_le (by omega)]
theorem f70_fn : f70_e.fn = f70 := rfl
theorem f70_ok : EntryOK Try.prog 70 f70_e := by
  refine entryF progOK (EnvOK.cons f20_ok (EnvOK.nil)) (A := f70_A) (d := 6) Try.func70 rfl rfl rfl (fun h => by cases h) fun x hpre => ?_
  exact f70_t x hpre _ fun _ h => h.trans (congrFun f70_fn.symm _)
end Go.Proofs.Ytglokajinehbmaa
end

section
namespace Go.Proofs.Ytglokajinehbmaa
open Go Go.Pi Go.RowKit
set_option maxRecDepth 100000
set_option linter.unusedVariables false
set_option linter.unusedSimpArgs false

def f19 (r : List (List Int) × List (List Int)) : List (List Int) × List (List Int) := r
def f19_pre (r : List (List Int) × List (List Int)) : Prop := f70_pre r.1 ∧ f70_pre r.2
def f19_e : Entry := { doms := [(true, (.pair (.sl (.sl (.int .i64))) (.sl (.sl (.int .i64)))))], cods := [(true, (.pair (.sl (.sl (.int .i64))) (.sl (.sl (.int .i64)))))], pre := f19_pre, fn := f19, uq := false, total := false }
def f19_E : Env := [(70, f70_e)]
def f19_A : Anns := { loops := [], own := [] }
theorem f19_run (a0 : List (List Int) × List (List Int)) (K : (List (List Int) × List (List Int)) → Prop) : runF Try.prog f19_E f19_A 6 Try.f19 f19_e.doms f19_e.cods a0 K =
    (f70_pre a0.1 ∧
    f70_pre a0.2 ∧
    K ((f70 a0.1), (f70 a0.2))) := by kernel_rfl
theorem f19_t (a0 : List (List Int) × List (List Int)) (hpre : f19_pre a0) (K : (List (List Int) × List (List Int)) → Prop) (hK : ∀ y : List (List Int) × List (List Int), y = f19 a0 → K y) : RunF Try.prog f19_E f19_A 6 Try.f19 f19_e.doms f19_e.cods a0 K := by
  refine ⟨?_⟩
  rw [f19_run a0 K]
  exact ⟨hpre.1, hpre.2, hK _ rfl⟩
theorem f19_fn : f19_e.fn = f19 := rfl
theorem f19_ok : EntryOK Try.prog 19 f19_e := by
  refine entryF progOK (EnvOK.cons f70_ok (EnvOK.nil)) (A := f19_A) (d := 6) Try.func19 rfl rfl rfl (fun h => by cases h) fun x hpre => ?_
  exact f19_t x hpre _ fun _ h => h.trans (congrFun f19_fn.symm _)
end Go.Proofs.Ytglokajinehbmaa
end

section
namespace Go.Proofs.Ytglokajinehbmaa
open Go Go.Pi Go.RowKit
set_option maxRecDepth 100000
set_option linter.unusedVariables false
set_option linter.unusedSimpArgs false

def f32 (x : (List (List Int) × List (List Int)) × Int × Int × Bool) : Int := secAt x.1 x.2.1 x.2.2.1 x.2.2.2
def f32_pre (x : (List (List Int) × List (List Int)) × Int × Int × Bool) : Prop := (ruleOf x.1).2 = 0 ∧ (0 ≤ x.2.1 ∧ x.2.1 < x.1.1.length) ∧ 0 ≤ x.2.2.1 ∧ x.2.2.1 < x.1.1.length
def f32_e : Entry := { doms := [(true, (.pair (.sl (.sl (.int .i64))) (.sl (.sl (.int .i64))))), (true, (.pair (.int .i64) (.pair (.int .i64) .bool)))], cods := [(false, (.int .i64))], pre := f32_pre, fn := f32, uq := false, total := false }
def f32_E : Env := [(86, f86_e)]
def f32_A : Anns := { loops := [], own := [] }
theorem f32_run (a0 : List (List Int) × List (List Int)) (a1 : Int × Int × Bool) (K : Int → Prop) : runF Try.prog f32_E f32_A 6 Try.f32 f32_e.doms f32_e.cods (a0, a1) K =
    (br a1.2.2
    (br (decide (0 ≤ a1.1) && decide (a1.1 < ((a0.2.length) : Int)))
    (br (decide (0 ≤ a1.2.1) && decide (a1.2.1 < (((a0.2.getD a1.1.toNat []).length) : Int)))
    (K ((a0.2.getD a1.1.toNat []).getD a1.2.1.toNat 0))
    False)
    False)
    (br (decide (0 ≤ a1.1) && decide (a1.1 < ((a0.1.length) : Int)))
    (br (decide (0 ≤ a1.2.1) && decide (a1.2.1 < (((a0.1.getD a1.1.toNat []).length) : Int)))
    (K ((a0.1.getD a1.1.toNat []).getD a1.2.1.toNat 0))
    False)
    False)) := by kernel_rfl
theorem f32_t (a0 : List (List Int) × List (List Int)) (a1 : Int × Int × Bool) (hpre : f32_pre (a0, a1)) (K : Int → Prop) (hK : ∀ y : Int, y = f32 (a0, a1) → K y) : RunF Try.prog f32_E f32_A 6 Try.f32 f32_e.doms f32_e.cods (a0, a1) K := by
  refine ⟨?_⟩
  rw [f32_run a0 a1 K]
  obtain ⟨l, f, fr⟩ := a1
  obtain ⟨h, ⟨h1, h2⟩, h3, h4⟩ := hpre
  simp only at h h1 h2 h3 h4
  obtain ⟨⟨p1, p2, p3⟩, hr⟩ := ruleOf_zero h
  obtain ⟨⟨q1, q2⟩, _⟩ := hr l.toNat (by omega)
  dsimp only
  rw [br_both]
  refine ⟨fun hf => ?_, fun hf => ?_⟩
  · rw [br_false_, br_false_]
    exact ⟨inb h1 (by omega), inb h3 (by omega), hK _ (by rw [f32, secAt, hf]; rfl)⟩
  · rw [br_false_, br_false_]
    exact ⟨inb h1 (by omega), inb h3 (by omega), hK _ (by rw [f32, secAt, hf]; rfl)⟩
theorem f32_fn : f32_e.fn = f32 := rfl
theorem f32_ok : EntryOK Try.prog 32 f32_e := by
  refine entryF progOK (EnvOK.cons f86_ok (EnvOK.nil)) (A := f32_A) (d := 6) Try.func32 rfl rfl rfl (fun h => by cases h) fun x hpre => ?_
  obtain ⟨a0, a1⟩ := x
  exact f32_t a0 a1 hpre _ fun _ h => h.trans (congrFun f32_fn.symm _)
end Go.Proofs.Ytglokajinehbmaa
end
