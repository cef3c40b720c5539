/- What functions of the program compute, each proved once, part 6. -/
import Derived.Test.YtglokajinehbmaaGreatPiD
import Derived.Test.YtglokajinehbmaaGreatFnA
import Derived.Test.YtglokajinehbmaaGreatFnD
import Derived.Test.YtglokajinehbmaaGreatFnB

section
namespace Go.Proofs.YtglokajinehbmaaGreat
open Go Go.Pi Go.RowKit
set_option maxRecDepth 100000
set_option linter.unusedVariables false
set_option linter.unusedSimpArgs false

def f95 (r : List (List Int) × List (List Int)) : Int × Int := ruleOf r
def f95_e : Entry := { doms := [(true, (.pair (.sl (.sl (.int .i64))) (.sl (.sl (.int .i64)))))], cods := [(false, (.int .i64)), (false, (.int .i64))], pre := fun _ => True, fn := f95, uq := false, total := true }
def f95_E : Env := [(39, f39_e), (42, f42_e), (43, f43_e), (85, f85_e), (25, f25_e)]
def f95_A : Anns := { loops := [(1104883482624, { tms := [(1, .keep), (9, .keep), (10, .keep), (11, .data false (.int .i64))], obs := [(1048576, .keep), (1049603, .keep)], fz := [] }),
  (1214832240989632511082496, { tms := [(1, .keep), (9, .keep), (10, .keep), (11, .data false (.int .i64))], obs := [(1048576, .keep), (1049603, .keep), (1158554306974057477, .keep)], fz := [] })], own := [] }
theorem f95_run (a0 : List (List Int) × List (List Int)) (K : (Int × Int) → Prop) : runF Tryz.prog f95_E f95_A 6 Tryz.f95 f95_e.doms f95_e.cods a0 K =
    (br (lenOk (a0.1.length))
    (br (decide (((a0.1.length) : Int) > 0))
    (br (lenOk (a0.2.length))
    (br ((f42 ([(f43 ((((a0.2.length) : Int) == ((a0.1.length) : Int)), 10)), (f43 ((decide (((a0.1.length) : Int) ≤ 4)), 8))] : List Int)) != 0)
    (K (0, (f42 ([(f43 ((((a0.2.length) : Int) == ((a0.1.length) : Int)), 10)), (f43 ((decide (((a0.1.length) : Int) ≤ 4)), 8))] : List Int))))
    (br (lenOk (a0.1.length))
    (LoopP (V := Int × Unit) (fun again v => (fun (again1 : Int → Prop) (v1_0 : Int) =>
    br (decide (v1_0 < ((a0.1.length) : Int)))
    (br (decide (0 ≤ v1_0) && decide (v1_0 < ((a0.1.length) : Int)))
    (br (decide (0 ≤ v1_0) && decide (v1_0 < ((a0.2.length) : Int)))
    (br (lenOk ((a0.1.getD v1_0.toNat []).length))
    (br ((((a0.1.getD v1_0.toNat []).length) : Int) != ((a0.1.length) : Int))
    (K (v1_0, 10))
    (br (lenOk ((a0.2.getD v1_0.toNat []).length))
    (br ((((a0.2.getD v1_0.toNat []).length) : Int) != ((a0.1.length) : Int))
    (K (v1_0, 10))
    (br (lenOk ((a0.1.getD v1_0.toNat []).length))
    (LoopP (V := Int × Unit) (fun again v => (fun (again2 : Int → Prop) (v2_0 : Int) =>
    br (decide (v2_0 < (((a0.1.getD v1_0.toNat []).length) : Int)))
    (br (decide (0 ≤ v2_0) && decide (v2_0 < (((a0.1.getD v1_0.toNat []).length) : Int)))
    (br (f39 (((a0.1.getD v1_0.toNat []).getD v2_0.toNat 0), (0, 600)))
    (br (decide (0 ≤ v2_0) && decide (v2_0 < (((a0.2.getD v1_0.toNat []).length) : Int)))
    (br ((f43 ((f39 (((a0.2.getD v1_0.toNat []).getD v2_0.toNat 0), (0, ((a0.1.getD v1_0.toNat []).getD v2_0.toNat 0)))), 2)) != 0)
    (br ((f43 ((f39 (((a0.2.getD v1_0.toNat []).getD v2_0.toNat 0), (0, ((a0.1.getD v1_0.toNat []).getD v2_0.toNat 0)))), 2)) != 0)
    (K (v1_0, (f43 ((f39 (((a0.2.getD v1_0.toNat []).getD v2_0.toNat 0), (0, ((a0.1.getD v1_0.toNat []).getD v2_0.toNat 0)))), 2))))
    (again1 (IntKind.i64.wrap (v1_0 + 1))))
    (again2 (IntKind.i64.wrap (v2_0 + 1))))
    False)
    (br ((f43 (false, 2)) != 0)
    (br ((f43 (false, 2)) != 0)
    (K (v1_0, (f43 (false, 2))))
    (again1 (IntKind.i64.wrap (v1_0 + 1))))
    (again2 (IntKind.i64.wrap (v2_0 + 1)))))
    False)
    (again1 (IntKind.i64.wrap (v1_0 + 1))))
    (fun v2_0 => again (v2_0, ())) v.1) (0, ()))
    True))
    True))
    True)
    False)
    False)
    (K (0, 0)))
    (fun v1_0 => again (v1_0, ())) v.1) (0, ()))
    True))
    True)
    (br ((f42 ([(f43 (false, 10)), (f43 ((decide (((a0.1.length) : Int) ≤ 4)), 8))] : List Int)) != 0)
    (K (0, (f42 ([(f43 (false, 10)), (f43 ((decide (((a0.1.length) : Int) ≤ 4)), 8))] : List Int))))
    (br (lenOk (a0.1.length))
    (LoopP (V := Int × Unit) (fun again v => (fun (again3 : Int → Prop) (v3_0 : Int) =>
    br (decide (v3_0 < ((a0.1.length) : Int)))
    (br (decide (0 ≤ v3_0) && decide (v3_0 < ((a0.1.length) : Int)))
    (br (decide (0 ≤ v3_0) && decide (v3_0 < ((a0.2.length) : Int)))
    (br (lenOk ((a0.1.getD v3_0.toNat []).length))
    (br ((((a0.1.getD v3_0.toNat []).length) : Int) != ((a0.1.length) : Int))
    (K (v3_0, 10))
    (br (lenOk ((a0.2.getD v3_0.toNat []).length))
    (br ((((a0.2.getD v3_0.toNat []).length) : Int) != ((a0.1.length) : Int))
    (K (v3_0, 10))
    (br (lenOk ((a0.1.getD v3_0.toNat []).length))
    (LoopP (V := Int × Unit) (fun again v => (fun (again4 : Int → Prop) (v4_0 : Int) =>
    br (decide (v4_0 < (((a0.1.getD v3_0.toNat []).length) : Int)))
    (br (decide (0 ≤ v4_0) && decide (v4_0 < (((a0.1.getD v3_0.toNat []).length) : Int)))
    (br (f39 (((a0.1.getD v3_0.toNat []).getD v4_0.toNat 0), (0, 600)))
    (br (decide (0 ≤ v4_0) && decide (v4_0 < (((a0.2.getD v3_0.toNat []).length) : Int)))
    (br ((f43 ((f39 (((a0.2.getD v3_0.toNat []).getD v4_0.toNat 0), (0, ((a0.1.getD v3_0.toNat []).getD v4_0.toNat 0)))), 2)) != 0)
    (br ((f43 ((f39 (((a0.2.getD v3_0.toNat []).getD v4_0.toNat 0), (0, ((a0.1.getD v3_0.toNat []).getD v4_0.toNat 0)))), 2)) != 0)
    (K (v3_0, (f43 ((f39 (((a0.2.getD v3_0.toNat []).getD v4_0.toNat 0), (0, ((a0.1.getD v3_0.toNat []).getD v4_0.toNat 0)))), 2))))
    (again3 (IntKind.i64.wrap (v3_0 + 1))))
    (again4 (IntKind.i64.wrap (v4_0 + 1))))
    False)
    (br ((f43 (false, 2)) != 0)
    (br ((f43 (false, 2)) != 0)
    (K (v3_0, (f43 (false, 2))))
    (again3 (IntKind.i64.wrap (v3_0 + 1))))
    (again4 (IntKind.i64.wrap (v4_0 + 1)))))
    False)
    (again3 (IntKind.i64.wrap (v3_0 + 1))))
    (fun v4_0 => again (v4_0, ())) v.1) (0, ()))
    True))
    True))
    True)
    False)
    False)
    (K (0, 0)))
    (fun v3_0 => again (v3_0, ())) v.1) (0, ()))
    True)))
    True) := by kernel_rfl
theorem f95_t (a0 : List (List Int) × List (List Int)) (K : (Int × Int) → Prop) (hK : ∀ y : Int × Int, y = f95 a0 → K y) : RunF Tryz.prog f95_E f95_A 6 Tryz.f95 f95_e.doms f95_e.cods a0 K := by
  refine ⟨?_⟩
  rw [f95_run a0 K]
  have e68 : f43 (false, 2) = 2 := rfl
  have e68' : f43 (false, 10) = 10 := rfl
  -- the rows
  have rows : ¬ (a0.1.length = 0 ∨ a0.2.length ≠ a0.1.length) → ¬ a0.1.length > 4 → LoopP (V := Int × Unit) (fun again v => (fun (again1 : Int → Prop) (v1_0 : Int) =>
    br (decide (v1_0 < ((a0.1.length) : Int)))
    (br (decide (0 ≤ v1_0) && decide (v1_0 < ((a0.1.length) : Int)))
    (br (decide (0 ≤ v1_0) && decide (v1_0 < ((a0.2.length) : Int)))
    (br (lenOk ((a0.1.getD v1_0.toNat []).length))
    (br ((((a0.1.getD v1_0.toNat []).length) : Int) != ((a0.1.length) : Int))
    (K (v1_0, 10))
    (br (lenOk ((a0.2.getD v1_0.toNat []).length))
    (br ((((a0.2.getD v1_0.toNat []).length) : Int) != ((a0.1.length) : Int))
    (K (v1_0, 10))
    (br (lenOk ((a0.1.getD v1_0.toNat []).length))
    (LoopP (V := Int × Unit) (fun again v => (fun (again2 : Int → Prop) (v2_0 : Int) =>
    br (decide (v2_0 < (((a0.1.getD v1_0.toNat []).length) : Int)))
    (br (decide (0 ≤ v2_0) && decide (v2_0 < (((a0.1.getD v1_0.toNat []).length) : Int)))
    (br (f39 (((a0.1.getD v1_0.toNat []).getD v2_0.toNat 0), (0, 600)))
    (br (decide (0 ≤ v2_0) && decide (v2_0 < (((a0.2.getD v1_0.toNat []).length) : Int)))
    (br ((f43 ((f39 (((a0.2.getD v1_0.toNat []).getD v2_0.toNat 0), (0, ((a0.1.getD v1_0.toNat []).getD v2_0.toNat 0)))), 2)) != 0)
    (br ((f43 ((f39 (((a0.2.getD v1_0.toNat []).getD v2_0.toNat 0), (0, ((a0.1.getD v1_0.toNat []).getD v2_0.toNat 0)))), 2)) != 0)
    (K (v1_0, (f43 ((f39 (((a0.2.getD v1_0.toNat []).getD v2_0.toNat 0), (0, ((a0.1.getD v1_0.toNat []).getD v2_0.toNat 0)))), 2))))
    (again1 (IntKind.i64.wrap (v1_0 + 1))))
    (again2 (IntKind.i64.wrap (v2_0 + 1))))
    False)
    (br ((f43 (false, 2)) != 0)
    (br ((f43 (false, 2)) != 0)
    (K (v1_0, (f43 (false, 2))))
    (again1 (IntKind.i64.wrap (v1_0 + 1))))
    (again2 (IntKind.i64.wrap (v2_0 + 1)))))
    False)
    (again1 (IntKind.i64.wrap (v1_0 + 1))))
    (fun v2_0 => again (v2_0, ())) v.1) (0, ()))
    True))
    True))
    True)
    False)
    False)
    (K (0, 0)))
    (fun v1_0 => again (v1_0, ())) v.1) (0, ()) := by
    intro hn h4
    refine each_loop (K := K) (n := a0.1.length) (e := rowE a0) (hK _ (by rw [f95, ruleOf, if_neg hn, if_neg h4])) (fun again i hi hI good bad fin => ?_)
    dsimp only
    rw [br_dec]
    refine ⟨fun h1 => ?_, fun h1 => fin (by omega)⟩
    have hlt : i < a0.1.length := by omega
    have b0 : (decide (0 ≤ (i : Int)) && decide ((i : Int) < (a0.1.length : Int))) = true := inb (by omega) (by omega)
    have b1 : (decide (0 ≤ (i : Int)) && decide ((i : Int) < (a0.2.length : Int))) = true := inb (by omega) (by omega)
    rw [b0, b1]
    simp only [Int.toNat_natCast, br_t]
    have ten : ((a0.1.getD i []).length ≠ a0.1.length ∨ (a0.2.getD i []).length ≠ a0.1.length) → K ((i : Int), 10) := fun hc => by
      have e : rowE a0 i = 10 := if_pos hc
      have := bad hlt (by rw [e]; decide)
      rwa [e] at this
    rw [br_true_]
    intro _
    rw [br_both]
    refine ⟨fun h => ten (.inl (cast_ne.1 h)), fun h => ?_⟩
    have hA := cast_ne_f.1 h
    rw [br_true_]
    intro _
    rw [br_both]
    refine ⟨fun h => ten (.inr (cast_ne.1 h)), fun h => ?_⟩
    have hB := cast_ne_f.1 h
    rw [br_true_]
    intro _
    have hne : ¬ ((a0.1.getD i []).length ≠ a0.1.length ∨ (a0.2.getD i []).length ≠ a0.1.length) := by omega
    refine LoopP.up a0.1.length (fun k _ => ∀ j < k.toNat, rowP a0 i j) (fun again2 k v hk0 hk1 hJ hag2 => ?_) (by omega) (fun j hj => by simp at hj)
    dsimp only
    rw [br_dec]
    refine ⟨fun hk => ?_, fun hk => ?_⟩
    · have c0 : (decide (0 ≤ k) && decide (k < ((a0.1.getD i []).length : Int))) = true := inb hk0 (by omega)
      have c1 : (decide (0 ≤ k) && decide (k < ((a0.2.getD i []).length : Int))) = true := inb hk0 (by omega)
      rw [c0, c1]
      simp only [br_t, e68]
      have two : ¬ rowP a0 i k.toNat → K ((i : Int), 2) := fun hr => by
        have e : rowE a0 i = 2 := by rw [rowE, if_neg hne, if_neg fun hh => hr (hh k.toNat (by omega))]
        have := bad hlt (by rw [e]; decide)
        rwa [e] at this
      rw [br_both]
      refine ⟨fun h => ?_, fun h => ?_⟩
      · have h3 := f39_t1.1 h
        cases h5 : f39 ((a0.2.getD i []).getD k.toNat 0, 0, (a0.1.getD i []).getD k.toNat 0) with
        | false => exact two fun hr => f39_f1.1 h5 hr.2
        | true =>
          show again2 _
          rw [wr (n := k + 1) (by omega) (by omega)]
          refine hag2 () (by omega) fun j hj => ?_
          by_cases hjk : j = k.toNat
          · rw [hjk]; exact ⟨h3, f39_t1.1 h5⟩
          · exact hJ j (by omega)
      · exact two fun hr => f39_f1.1 h hr.1
    · rw [wr (n := (i : Int) + 1) (by omega) (by omega)]
      refine good hlt ?_
      rw [rowE, if_neg hne, if_pos fun j hj => hJ j (by omega)]
  simp only [e68']
  rw [br_true_]
  intro _
  rw [br_dec]
  refine ⟨fun h0 => ?_, fun h0 => hK _ ?_⟩
  · rw [br_true_]
    intro _
    have hf : f42 [f43 ((a0.2.length : Int) == (a0.1.length : Int), 10), f43 (decide ((a0.1.length : Int) ≤ 4), 8)] = if a0.2.length ≠ a0.1.length then 10 else if a0.1.length > 4 then 8 else 0 := by
      simp only [f42_cons, f42_nil, f43]
      by_cases h1 : a0.2.length = a0.1.length
      · rw [cast_eq.2 h1]
        by_cases h2 : a0.1.length > 4
        · have : ¬ ((a0.1.length : Int) ≤ 4) := by omega
          simp [h1, h2, this]
        · have : ((a0.1.length : Int) ≤ 4) := by omega
          simp [h1, h2, this]
      · rw [cast_eq_f.2 h1]
        simp [h1]
    rw [hf]
    by_cases h1 : a0.2.length ≠ a0.1.length
    · rw [if_pos h1]
      exact hK _ (by rw [f95, ruleOf, if_pos (.inr h1)])
    · rw [if_neg h1]
      by_cases h2 : a0.1.length > 4
      · rw [if_pos h2]
        exact hK _ (by rw [f95, ruleOf, if_neg (by omega), if_pos h2])
      · rw [if_neg h2]
        show br (lenOk a0.1.length) _ True
        rw [br_true_]
        intro _
        exact rows (by omega) h2
  · have : a0.1.length = 0 := by omega
    rw [f95, ruleOf, if_pos (.inl this)]
    simp only [f42_cons, f42_nil]
    simp
theorem f95_fn : f95_e.fn = f95 := rfl
theorem f95_ok : EntryOK Tryz.prog 95 f95_e := by
  refine entryF progOK (EnvOK.cons f39_ok (EnvOK.cons f42_ok (EnvOK.cons f43_ok (EnvOK.cons f85_ok (EnvOK.cons f25_ok (EnvOK.nil)))))) (A := f95_A) (d := 6) Tryz.func95 rfl rfl rfl rfl (fun _ _ => trivial) fun x hpre => ?_
  exact f95_t x _ fun _ h => h.trans (congrFun f95_fn.symm _)
end Go.Proofs.YtglokajinehbmaaGreat
end

section
namespace Go.Proofs.YtglokajinehbmaaGreat
open Go Go.Pi Go.RowKit
set_option maxRecDepth 100000
set_option linter.unusedVariables false
set_option linter.unusedSimpArgs false

theorem two_errs (a b : Bool) : f42 [f43 (a, 6), f43 (b, 9)] = if a = false then 6 else if b = false then 9 else 0 := by
  cases a <;> cases b <;> rfl
def f76 (p : (List (List Int) × List (List Int)) × List (ByteArray × Int × Int × Int × Int) × List Int) : Int × Int := probOf p
def f76_pre (p : (List (List Int) × List (List Int)) × List (ByteArray × Int × Int × Int × Int) × List Int) : Prop := f97_pre p.2.1
def f76_e : Entry := { doms := [(true, (.pair (.pair (.sl (.sl (.int .i64))) (.sl (.sl (.int .i64)))) (.pair (.sl (.pair .str (.pair (.int .i64) (.pair (.int .i64) (.pair (.int .i64) (.int .i64)))))) (.sl (.int .i64)))))], cods := [(false, (.int .i64)), (false, (.int .i64))], pre := f76_pre, fn := f76, uq := false, total := false }
def f76_E : Env := [(39, f39_e), (42, f42_e), (43, f43_e), (95, f95_e), (97, f97_e), (49, f49_e), (86, f86_e), (85, f85_e)]
def f76_A : Anns := { loops := [(1107030966272, { tms := [(1, .keep), (9, .keep), (10, .keep), (11, .data false (.int .i64))], obs := [(1048576, .keep)], fz := [] }),
  (1111325933568, { tms := [(1, .keep), (9, .keep), (10, .keep), (11, .data false (.int .i64))], obs := [(1048576, .keep), (1058816, .cells [.data (.int .i64)])], fz := [] })], own := [] }
theorem f76_run (a0 : (List (List Int) × List (List Int)) × List (ByteArray × Int × Int × Int × Int) × List Int) (K : (Int × Int) → Prop) : runF Tryz.prog f76_E f76_A 6 Tryz.f76 f76_e.doms f76_e.cods a0 K =
    (br ((f95 a0.1).2 != 0)
    (K (f95 a0.1))
    (f97_pre a0.2.1 ∧
    br ((f97 a0.2.1).2 != 0)
    (K (f97 a0.2.1))
    (br (lenOk (a0.2.1.length))
    (LoopP (V := Int × Unit) (fun again v => (fun (again1 : Int → Prop) (v1_0 : Int) =>
    br (decide (v1_0 < ((a0.2.1.length) : Int)))
    (br (decide (0 ≤ v1_0) && decide (v1_0 < ((a0.2.1.length) : Int)))
    (br (lenOk (a0.1.1.length))
    (br ((f43 ((decide (((a0.2.1.getD v1_0.toNat ((⟨#[]⟩ : ByteArray), (0, (0, (0, 0))))).2).1 < ((a0.1.1.length) : Int))), 6)) != 0)
    (br ((f43 ((decide (((a0.2.1.getD v1_0.toNat ((⟨#[]⟩ : ByteArray), (0, (0, (0, 0))))).2).1 < ((a0.1.1.length) : Int))), 6)) != 0)
    (K (v1_0, (f43 ((decide (((a0.2.1.getD v1_0.toNat ((⟨#[]⟩ : ByteArray), (0, (0, (0, 0))))).2).1 < ((a0.1.1.length) : Int))), 6))))
    (br (lenOk (a0.2.2.length))
    (LoopP (V := Int × Int × Unit) (fun again v => (fun (again2 : Int → Int → Prop) (v2_0 : Int) (v2_1 : Int) =>
    br (decide (v2_0 < ((a0.2.2.length) : Int)))
    (br (decide (0 ≤ v2_0) && decide (v2_0 < ((a0.2.2.length) : Int)))
    (br (lenOk (a0.2.1.length))
    (br ((f42 ([(f43 ((f39 ((a0.2.2.getD v2_0.toNat 0), (0, (IntKind.i64.wrap (((a0.2.1.length) : Int) - 1))))), 6)), (f43 ((decide ((a0.2.2.getD v2_0.toNat 0) > v2_1)), 9))] : List Int)) != 0)
    (K (v2_0, (f42 ([(f43 ((f39 ((a0.2.2.getD v2_0.toNat 0), (0, (IntKind.i64.wrap (((a0.2.1.length) : Int) - 1))))), 6)), (f43 ((decide ((a0.2.2.getD v2_0.toNat 0) > v2_1)), 9))] : List Int))))
    (again2 (IntKind.i64.wrap (v2_0 + 1)) (a0.2.2.getD v2_0.toNat 0)))
    True)
    False)
    (K (0, 0)))
    (fun v2_0 v2_1 => again (v2_0, v2_1, ())) v.1 v.2.1) (0, (-1), ()))
    True))
    (again1 (IntKind.i64.wrap (v1_0 + 1))))
    True)
    False)
    (br (lenOk (a0.2.2.length))
    (LoopP (V := Int × Int × Unit) (fun again v => (fun (again3 : Int → Int → Prop) (v3_0 : Int) (v3_1 : Int) =>
    br (decide (v3_0 < ((a0.2.2.length) : Int)))
    (br (decide (0 ≤ v3_0) && decide (v3_0 < ((a0.2.2.length) : Int)))
    (br (lenOk (a0.2.1.length))
    (br ((f42 ([(f43 ((f39 ((a0.2.2.getD v3_0.toNat 0), (0, (IntKind.i64.wrap (((a0.2.1.length) : Int) - 1))))), 6)), (f43 ((decide ((a0.2.2.getD v3_0.toNat 0) > v3_1)), 9))] : List Int)) != 0)
    (K (v3_0, (f42 ([(f43 ((f39 ((a0.2.2.getD v3_0.toNat 0), (0, (IntKind.i64.wrap (((a0.2.1.length) : Int) - 1))))), 6)), (f43 ((decide ((a0.2.2.getD v3_0.toNat 0) > v3_1)), 9))] : List Int))))
    (again3 (IntKind.i64.wrap (v3_0 + 1)) (a0.2.2.getD v3_0.toNat 0)))
    True)
    False)
    (K (0, 0)))
    (fun v3_0 v3_1 => again (v3_0, v3_1, ())) v.1 v.2.1) (0, (-1), ()))
    True))
    (fun v1_0 => again (v1_0, ())) v.1) (0, ()))
    True))) := by kernel_rfl
theorem f76_t (a0 : (List (List Int) × List (List Int)) × List (ByteArray × Int × Int × Int × Int) × List Int) (hpre : f76_pre a0) (K : (Int × Int) → Prop) (hK : ∀ y : Int × Int, y = f76 a0 → K y) : RunF Tryz.prog f76_E f76_A 6 Tryz.f76 f76_e.doms f76_e.cods a0 K := by
  refine ⟨?_⟩
  rw [f76_run a0 K]
  have hd : ((⟨#[]⟩ : ByteArray), ((0 : Int), ((0 : Int), ((0 : Int), (0 : Int))))) = arrD := rfl
  have e28 : f95 a0.1 = ruleOf a0.1 := rfl
  have e22 : f97 a0.2.1 = arrOf a0.2.1 := rfl
  simp only [hd, e28, e22]
  rw [br_both]
  refine ⟨fun h => hK _ ?_, fun h => ⟨hpre, ?_⟩⟩
  · rw [f76, probOf, if_pos (by simpa using h)]
  have n1 : ¬ (ruleOf a0.1).2 ≠ 0 := by simpa using h
  rw [br_both]
  refine ⟨fun h => hK _ ?_, fun h => ?_⟩
  · rw [f76, probOf, if_neg n1, if_pos (by simpa using h)]
  have n2 : ¬ (arrOf a0.2.1).2 ≠ 0 := by simpa using h
  obtain ⟨a6, aV⟩ := arrOf_zero (show (arrOf a0.2.1).2 = 0 by omega)
  rw [br_true_]
  intro _
  refine each_walk (n := a0.2.1.length) (e := catE a0) (fun again i hi hI good => ?_)
  dsimp only
  rw [br_dec]
  refine ⟨fun h1 => ?_, fun h1 => ?_⟩
  · have hlt : i < a0.2.1.length := by omega
    rw [br_false_]
    refine ⟨inb (by omega) h1, ?_⟩
    simp only [Int.toNat_natCast]
    rw [br_true_]
    intro _
    by_cases hc : (a0.2.1.getD i arrD).2.1 < (a0.1.1.length : Int)
    · rw [decide_eq_true hc]
      show again _
      rw [wr (n := (i : Int) + 1) (by omega) (by omega)]
      exact good hlt (by rw [catE, if_pos hc])
    · rw [decide_eq_false hc]
      have he : catE a0 i = 6 := by rw [catE, if_neg hc]
      have := eachE_some hlt hI (show catE a0 i ≠ 0 by rw [he]; decide)
      refine hK _ ?_
      rw [f76, probOf, if_neg n1, if_neg n2, this, he]
      rfl
  · have hz := eachE_none (n := a0.2.1.length) fun j hj => hI j (by omega)
    have n3 : ¬ (eachE a0.2.1.length (catE a0)).2 ≠ 0 := by rw [hz]; simp
    have e24 : f76 a0 = eachE a0.2.2.length (freeE a0) := by rw [f76, probOf, if_neg n1, if_neg n2, if_neg n3]
    rw [br_true_, lenOk_iff]
    intro hlf
    refine LoopP.of (fun q : Int × Int × Unit => ∃ j : Nat, j ≤ a0.2.2.length ∧ q.1 = (j : Int) ∧ q.2.1 = (if j = 0 then -1 else a0.2.2.getD (j - 1) 0) ∧ ∀ k, k < j → freeE a0 k = 0) (fun q => ((a0.2.2.length : Int) - q.1).toNat) (fun again2 q hq hag2 => ?_) ⟨0, by omega, rfl, rfl, fun k hk => by omega⟩
    obtain ⟨jj, last, u⟩ := q
    obtain ⟨j, hj, e1, e2, hJ⟩ := hq
    simp only at e1 e2
    subst e1 e2
    dsimp only
    rw [br_dec]
    refine ⟨fun h2 => ?_, fun h2 => hK _ ?_⟩
    · have hlt : j < a0.2.2.length := by omega
      rw [br_false_]
      refine ⟨inb (by omega) h2, ?_⟩
      simp only [Int.toNat_natCast]
      rw [br_true_, lenOk_iff]
      intro _
      rw [wr (n := (a0.2.1.length : Int) - 1) (by omega) (by omega)]
      have hX : f42 [f43 (f39 (a0.2.2.getD j 0, 0, (a0.2.1.length : Int) - 1), 6), f43 (decide (a0.2.2.getD j 0 > if j = 0 then -1 else a0.2.2.getD (j - 1) 0), 9)] = freeE a0 j := by
        rw [two_errs, freeE]
        by_cases h3 : 0 ≤ a0.2.2.getD j 0 ∧ a0.2.2.getD j 0 ≤ (a0.2.1.length : Int) - 1
        · rw [f39_t1.2 h3, if_neg (show ¬ (true = false) by decide), if_neg (fun hh : ¬ (0 ≤ a0.2.2.getD j 0 ∧ a0.2.2.getD j 0 ≤ (a0.2.1.length : Int) - 1) => hh h3)]
          by_cases h4 : j = 0
          · have h5 : a0.2.2.getD j 0 > -1 := by omega
            rw [if_pos h4, decide_eq_true h5, if_neg (show ¬ (true = false) by decide), if_neg (show ¬ (0 < j ∧ a0.2.2.getD j 0 ≤ a0.2.2.getD (j - 1) 0) by omega)]
          · rw [if_neg h4]
            by_cases h5 : a0.2.2.getD j 0 > a0.2.2.getD (j - 1) 0
            · rw [decide_eq_true h5, if_neg (show ¬ (true = false) by decide), if_neg (show ¬ (0 < j ∧ a0.2.2.getD j 0 ≤ a0.2.2.getD (j - 1) 0) by omega)]
            · rw [decide_eq_false h5, if_pos rfl, if_pos (show 0 < j ∧ a0.2.2.getD j 0 ≤ a0.2.2.getD (j - 1) 0 by omega)]
        · rw [f39_f1.2 h3, if_pos rfl, if_pos h3]
      rw [hX, br_both]
      refine ⟨fun h3 => ?_, fun h3 => ?_⟩
      · have h3 : freeE a0 j ≠ 0 := by simpa using h3
        refine hK _ ?_
        rw [e24, eachE_some hlt hJ h3]
      · have h3 : freeE a0 j = 0 := by simpa using h3
        rw [wr (n := (j : Int) + 1) (by omega) (by omega)]
        refine hag2 (_, _, ()) ⟨j + 1, by omega, by simp only; omega, by simp, fun k hk => ?_⟩ (by simp only; omega)
        by_cases hkj : k = j
        · rw [hkj]; exact h3
        · exact hJ k (by omega)
    · rw [e24, eachE_none fun k hk => hJ k (by omega)]
theorem f76_fn : f76_e.fn = f76 := rfl
theorem f76_ok : EntryOK Tryz.prog 76 f76_e := by
  refine entryF progOK (EnvOK.cons f39_ok (EnvOK.cons f42_ok (EnvOK.cons f43_ok (EnvOK.cons f95_ok (EnvOK.cons f97_ok (EnvOK.cons f49_ok (EnvOK.cons f86_ok (EnvOK.cons f85_ok (EnvOK.nil))))))))) (A := f76_A) (d := 6) Tryz.func76 rfl rfl rfl rfl (fun h => by cases h) fun x hpre => ?_
  exact f76_t x hpre _ fun _ h => h.trans (congrFun f76_fn.symm _)
end Go.Proofs.YtglokajinehbmaaGreat
end

section
namespace Go.Proofs.YtglokajinehbmaaGreat
open Go Go.Pi Go.RowKit
set_option maxRecDepth 100000
set_option linter.unusedVariables false
set_option linter.unusedSimpArgs false

def contL (p : Prob) : List (Int × Int) → List Int → Option (List (Int × Int))
  | out, [] => some out
  | out, a :: r => if soonF p out a > (p.2.1.getD a.toNat arrD).2.2.2.1 then none else contL p (out ++ [(a, soonF p out a)]) r
def contF (p : Prob) (fixed : List (Int × Int)) (order : List Int) : List (Int × Int) × Bool := match contL p fixed order with
  | some l => (l, true)
  | none => ([], false)
def inA (p : Prob) (a : Int) : Prop := 0 ≤ a ∧ a < p.2.1.length
theorem slotV_soon {p : Prob} (h : ProbV p) {out : List (Int × Int)} (ho : ∀ s ∈ out, slotV p s) {a : Int} (ha : inA p a) (ht : ¬ soonF p out a > (p.2.1.getD a.toNat arrD).2.2.2.1) : slotV p (a, soonF p out a) := by
  obtain ⟨a1, a2⟩ := ha
  obtain ⟨⟨_, b, _⟩, _⟩ := h.arr a.toNat (by omega)
  have := soonF_in h ⟨a1, a2⟩ ho
  have b3 := b.2.2.1
  exact ⟨⟨a1, a2⟩, by simp only; omega, by simp only; omega⟩
theorem slotsV_app {p : Prob} {out : List (Int × Int)} (ho : ∀ s ∈ out, slotV p s) {s : Int × Int} (hs : slotV p s) : ∀ x ∈ out ++ [s], slotV p x := fun x hx => by
  rcases List.mem_append.1 hx with h | h
  · exact ho x h
  · simp only [List.mem_singleton] at h
    rw [h]; exact hs
/-- A loop that places arrivals one after the other. -/
structure ContI (p : Prob) (fixed : List (Int × Int)) (order : List Int) (i : Nat) (out : List (Int × Int)) : Prop where
  le : i ≤ order.length
  eq : contL p fixed order = contL p out (order.drop i)
  ok : ∀ s ∈ out, slotV p s
  len : out.length ≤ fixed.length + i
theorem ContI.done {p : Prob} {fixed : List (Int × Int)} {order : List Int} {i : Nat} {out : List (Int × Int)} (h : ContI p fixed order i out) (hi : ¬ i < order.length) : contF p fixed order = (out, true) := by
  unfold contF
  rw [h.eq, List.drop_eq_nil_of_le (by omega)]
  rfl
theorem ContI.fail {p : Prob} {fixed : List (Int × Int)} {order : List Int} {i : Nat} {out : List (Int × Int)} (h : ContI p fixed order i out) (hi : i < order.length) (ht : soonF p out (order.getD i 0) > (p.2.1.getD (order.getD i 0).toNat arrD).2.2.2.1) : contF p fixed order = ([], false) := by
  unfold contF
  rw [getD_lt hi] at ht
  rw [h.eq, List.drop_eq_getElem_cons hi, contL, if_pos ht]
theorem ContI.next {p : Prob} {fixed : List (Int × Int)} {order : List Int} {i : Nat} {out : List (Int × Int)} (hv : ProbV p) (h : ContI p fixed order i out) (hi : i < order.length) (ha : inA p (order.getD i 0)) (ht : ¬ soonF p out (order.getD i 0) > (p.2.1.getD (order.getD i 0).toNat arrD).2.2.2.1) : ContI p fixed order (i + 1) (out ++ [(order.getD i 0, soonF p out (order.getD i 0))]) := by
  refine ⟨by omega, ?_, slotsV_app h.ok (slotV_soon hv h.ok ha ht), by have := h.len; simp; omega⟩
  rw [getD_lt hi] at ht ⊢
  rw [h.eq, List.drop_eq_getElem_cons hi, contL, if_neg ht]
def f78 (x : ((List (List Int) × List (List Int)) × List (ByteArray × Int × Int × Int × Int) × List Int) × List (Int × Int) × List Int) : List (Int × Int) × Bool := contF x.1 x.2.1 x.2.2
def f78_pre (x : ((List (List Int) × List (List Int)) × List (ByteArray × Int × Int × Int × Int) × List Int) × List (Int × Int) × List Int) : Prop := okP x.1 ∧ ((∀ s ∈ x.2.1, slotV x.1 s) ∧ x.2.1.length ≤ 1000) ∧ (∀ a ∈ x.2.2, inA x.1 a) ∧ x.2.2.length ≤ 1000
def f78_e : Entry := { doms := [(true, (.pair (.pair (.sl (.sl (.int .i64))) (.sl (.sl (.int .i64)))) (.pair (.sl (.pair .str (.pair (.int .i64) (.pair (.int .i64) (.pair (.int .i64) (.int .i64)))))) (.sl (.int .i64))))), (false, (.sl (.pair (.int .i64) (.int .i64)))), (false, (.sl (.int .i64)))], cods := [(false, (.sl (.pair (.int .i64) (.int .i64)))), (false, .bool)], pre := f78_pre, fn := f78, uq := false, total := false }
def f78_E : Env := [(55, f55_e), (103, f103_e)]
def f78_A : Anns := { loops := [(1048576, { tms := [(3, .keep), (8, .ref 1049601), (14, .keep), (15, .keep), (16, .data false (.int .i64))], obs := [(1048576, .keep), (1049601, .arr (.grow) (.pair (.int .i64) (.int .i64)))], fz := [] })], own := [1049601] }
theorem f78_run (a0 : (List (List Int) × List (List Int)) × List (ByteArray × Int × Int × Int × Int) × List Int) (a1 : List (Int × Int)) (a2 : List Int) (K : (List (Int × Int) × Bool) → Prop) : runF Tryz.prog f78_E f78_A 6 Tryz.f78 f78_e.doms f78_e.cods (a0, a1, a2) K =
    (f55_pre a1 ∧
    br (lenOk (a2.length))
    (LoopP (V := Int × List (Int × Int) × Unit) (fun again v => (fun (again1 : Int → List (Int × Int) → Prop) (v1_0 : Int) (v1_1 : List (Int × Int)) =>
    br (decide (v1_0 < ((a2.length) : Int)))
    (br (decide (0 ≤ v1_0) && decide (v1_0 < ((a2.length) : Int)))
    (f103_pre (a0, (v1_1, (a2.getD v1_0.toNat 0))) ∧
    br (decide (0 ≤ (a2.getD v1_0.toNat 0)) && decide ((a2.getD v1_0.toNat 0) < ((a0.2.1.length) : Int)))
    (br (decide ((f103 (a0, (v1_1, (a2.getD v1_0.toNat 0)))) > ((((a0.2.1.getD ((a2.getD v1_0.toNat 0).toNat) ((⟨#[]⟩ : ByteArray), (0, (0, (0, 0))))).2).2).2).1))
    (K (([] : List (Int × Int)), false))
    (br (roomOk ((v1_1.length) + 1) 16)
    (again1 (IntKind.i64.wrap (v1_0 + 1)) (v1_1 ++ ([((a2.getD v1_0.toNat 0), (f103 (a0, (v1_1, (a2.getD v1_0.toNat 0)))))] : List (Int × Int))))
    False))
    False)
    False)
    (K (v1_1, true)))
    (fun v1_0 v1_1 => again (v1_0, v1_1, ())) v.1 v.2.1) (0, (f55 a1), ()))
    True) := by kernel_rfl
theorem f78_t (a0 : (List (List Int) × List (List Int)) × List (ByteArray × Int × Int × Int × Int) × List Int) (a1 : List (Int × Int)) (a2 : List Int) (hpre : f78_pre (a0, a1, a2)) (K : (List (Int × Int) × Bool) → Prop) (hK : ∀ y : List (Int × Int) × Bool, y = f78 (a0, a1, a2) → K y) : RunF Tryz.prog f78_E f78_A 6 Tryz.f78 f78_e.doms f78_e.cods (a0, a1, a2) K := by
  refine ⟨?_⟩
  rw [f78_run a0 a1 a2 K]
  obtain ⟨h, ⟨hs, hs1⟩, ho, ho1⟩ := hpre
  simp only at h hs hs1 ho ho1
  have hv := h.v
  have hd : ((⟨#[]⟩ : ByteArray), ((0 : Int), ((0 : Int), ((0 : Int), (0 : Int))))) = arrD := rfl
  simp only [hd]
  refine ⟨show a1.length ≤ 1048576 by omega, ?_⟩
  rw [br_true_]
  intro _
  refine LoopP.of (fun q : Int × List (Int × Int) × Unit => ∃ i : Nat, q.1 = (i : Int) ∧ ContI a0 a1 a2 i q.2.1) (fun q => ((a2.length : Int) - q.1).toNat) (fun again q hq hag => ?_) ⟨0, rfl, by omega, rfl, hs, by simp only; show a1.length ≤ _; omega⟩
  obtain ⟨j, out, u⟩ := q
  obtain ⟨i, e1, hI⟩ := hq
  simp only at e1 hI
  subst e1
  dsimp only
  have hi := hI.le
  have hlen := hI.len
  rw [br_dec]
  refine ⟨fun hlt => ?_, fun hlt => hK _ ?_⟩
  · have hlt : i < a2.length := by omega
    have ha := ho (a2.getD i 0) (by rw [getD_lt hlt]; exact List.getElem_mem _)
    rw [br_false_]
    refine ⟨inb (by omega) (by omega), ?_⟩
    simp only [Int.toNat_natCast]
    refine ⟨⟨h, hI.ok, ha.1, ha.2⟩, ?_⟩
    rw [br_false_]
    refine ⟨inb ha.1 ha.2, ?_⟩
    rw [br_dec]
    refine ⟨fun ht => hK _ (hI.fail hlt ht).symm, fun ht => ?_⟩
    rw [br_false_, roomOk_iff, wr (n := (i : Int) + 1) (by omega) (by omega)]
    exact ⟨by omega, hag (_, _, ()) ⟨i + 1, by simp only; omega, hI.next hv hlt ha ht⟩ (by simp only; omega)⟩
  · rw [f78, hI.done (by omega)]
theorem f78_fn : f78_e.fn = f78 := rfl
theorem f78_ok : EntryOK Tryz.prog 78 f78_e := by
  refine entryF progOK (EnvOK.cons f55_ok (EnvOK.cons f103_ok (EnvOK.nil))) (A := f78_A) (d := 6) Tryz.func78 rfl rfl rfl rfl (fun h => by cases h) fun x hpre => ?_
  obtain ⟨a0, a1, a2⟩ := x
  exact f78_t a0 a1 a2 hpre _ fun _ h => h.trans (congrFun f78_fn.symm _)
end Go.Proofs.YtglokajinehbmaaGreat
end

section
namespace Go.Proofs.YtglokajinehbmaaGreat
open Go Go.Pi Go.RowKit
set_option maxRecDepth 100000
set_option linter.unusedVariables false
set_option linter.unusedSimpArgs false

def f18 (l : List (Int × Int)) : List (Int × Int) := l
def f18_pre (l : List (Int × Int)) : Prop := l.length ≤ 1000
def f18_e : Entry := { doms := [(false, (.sl (.pair (.int .i64) (.int .i64))))], cods := [(false, (.sl (.pair (.int .i64) (.int .i64))))], pre := f18_pre, fn := f18, uq := true, total := false }
def f18_E : Env := []
def f18_A : Anns := { loops := [], own := [1049600] }
theorem f18_run (a0 : List (Int × Int)) (K : (List (Int × Int)) → Prop) : runU Tryz.prog f18_E f18_A 6 Tryz.f18 f18_e.doms f18_e.cods a0 K =
    (br (roomOk (0 + (a0.length)) 16)
    (K (([] : List (Int × Int)) ++ a0))
    False) := by kernel_rfl
theorem f18_t (a0 : List (Int × Int)) (hpre : f18_pre a0) (K : (List (Int × Int)) → Prop) (hK : ∀ y : List (Int × Int), y = f18 a0 → K y) : RunU Tryz.prog f18_E f18_A 6 Tryz.f18 f18_e.doms f18_e.cods a0 K := by
  refine ⟨?_⟩
  rw [f18_run a0 K]
  have h : a0.length ≤ 1000 := hpre
  rw [br_false_, roomOk_iff]
  exact ⟨by omega, hK _ rfl⟩
theorem f18_fn : f18_e.fn = f18 := rfl
theorem f18_ok : EntryOK Tryz.prog 18 f18_e := by
  refine entryFU progOK (EnvOK.nil) (A := f18_A) (d := 6) Tryz.func18 rfl rfl rfl (fun h => by cases h) fun x hpre => ?_
  exact f18_t x hpre _ fun _ h => h.trans (congrFun f18_fn.symm _)
end Go.Proofs.YtglokajinehbmaaGreat
end

section
namespace Go.Proofs.YtglokajinehbmaaGreat
open Go Go.Pi Go.RowKit
set_option maxRecDepth 100000
set_option linter.unusedVariables false
set_option linter.unusedSimpArgs false

def f50 (x : List Int × Int) : Bool := decide (x.2 ∈ x.1)
def f50_e : Entry := { doms := [(false, (.sl (.int .i64))), (false, (.int .i64))], cods := [(false, .bool)], pre := fun _ => True, fn := f50, uq := false, total := true }
def f50_E : Env := []
def f50_A : Anns := { loops := [(1048576, { tms := [(0, .keep), (1, .keep), (5, .data false (.int .i64))], obs := [], fz := [] })], own := [] }
theorem f50_run (a0 : List Int) (a1 : Int) (K : Bool → Prop) : runF Tryz.prog f50_E f50_A 6 Tryz.f50 f50_e.doms f50_e.cods (a0, a1) K =
    (LoopP (V := Int × Unit) (fun again v => (fun (again1 : Int → Prop) (v1_0 : Int) =>
    br (lenOk (a0.length))
    (br (decide (v1_0 < ((a0.length) : Int)))
    (br (decide (0 ≤ v1_0) && decide (v1_0 < ((a0.length) : Int)))
    (br ((a0.getD v1_0.toNat 0) == a1)
    (K true)
    (again1 (IntKind.i64.wrap (v1_0 + 1))))
    False)
    (K false))
    True)
    (fun v1_0 => again (v1_0, ())) v.1) (0, ())) := by kernel_rfl
theorem f50_t (a0 : List Int) (a1 : Int) (K : Bool → Prop) (hK : ∀ y : Bool, y = f50 (a0, a1) → K y) : RunF Tryz.prog f50_E f50_A 6 Tryz.f50 f50_e.doms f50_e.cods (a0, a1) K := by
  refine ⟨?_⟩
  rw [f50_run a0 a1 K]
  refine LoopP.up a0.length (fun i _ => ∀ x ∈ a0.take i.toNat, (x == a1) = false) (fun again i v hi0 hn hI hag => ?_) (by omega) all_zero
  dsimp only
  rw [br_true_, lenOk_iff]
  intro hl
  rw [br_both]
  refine ⟨fun hi => ?_, fun hi => hK _ ?_⟩
  · simp only [decide_eq_true_eq] at hi
    simp only [br_false_, Bool.and_eq_true, decide_eq_true_eq]
    refine ⟨⟨hi0, hi⟩, ?_⟩
    rw [br_both]
    refine ⟨fun he => hK _ ?_, fun hne => ?_⟩
    · have h1 : i.toNat < a0.length := by omega
      have : a1 ∈ a0 := by
        have h2 : a0[i.toNat] = a1 := by rw [← getD_lt (d := (0 : Int)) h1]; simpa using he
        rw [← h2]
        exact List.getElem_mem h1
      simp [f50, this]
    · rw [wr (by omega) (by omega)]
      exact hag () hi (all_step hi0 hi hI hne)
  · simp only [decide_eq_false_iff_not] at hi
    have h2 := all_done hi hI
    have : a1 ∉ a0 := fun hm => by simpa using h2 a1 hm
    simp [f50, this]
theorem f50_fn : f50_e.fn = f50 := rfl
theorem f50_ok : EntryOK Tryz.prog 50 f50_e := by
  refine entryF progOK (EnvOK.nil) (A := f50_A) (d := 6) Tryz.func50 rfl rfl rfl rfl (fun _ _ => trivial) fun x hpre => ?_
  obtain ⟨a0, a1⟩ := x
  exact f50_t a0 a1 _ fun _ h => h.trans (congrFun f50_fn.symm _)
end Go.Proofs.YtglokajinehbmaaGreat
end

section
namespace Go.Proofs.YtglokajinehbmaaGreat
open Go Go.Pi Go.RowKit
set_option maxRecDepth 100000
set_option linter.unusedVariables false
set_option linter.unusedSimpArgs false

def f92 (x : (List (List Int) × List (List Int)) × Int × Int × Bool) : Int := secAt x.1 x.2.1 x.2.2.1 x.2.2.2
def f92_pre (x : (List (List Int) × List (List Int)) × Int × Int × Bool) : Prop := (ruleOf x.1).2 = 0 ∧ (0 ≤ x.2.1 ∧ x.2.1 < x.1.1.length) ∧ 0 ≤ x.2.2.1 ∧ x.2.2.1 < x.1.1.length
def f92_e : Entry := { doms := [(true, (.pair (.sl (.sl (.int .i64))) (.sl (.sl (.int .i64))))), (true, (.pair (.int .i64) (.pair (.int .i64) .bool)))], cods := [(false, (.int .i64))], pre := f92_pre, fn := f92, uq := false, total := false }
def f92_E : Env := [(124, f124_e)]
def f92_A : Anns := { loops := [], own := [] }
theorem f92_run (a0 : List (List Int) × List (List Int)) (a1 : Int × Int × Bool) (K : Int → Prop) : runF Tryz.prog f92_E f92_A 6 Tryz.f92 f92_e.doms f92_e.cods (a0, a1) K =
    (br a1.2.2
    (br (decide (0 ≤ a1.1) && decide (a1.1 < ((a0.2.length) : Int)))
    (br (decide (0 ≤ a1.2.1) && decide (a1.2.1 < (((a0.2.getD a1.1.toNat []).length) : Int)))
    (K ((a0.2.getD a1.1.toNat []).getD a1.2.1.toNat 0))
    False)
    False)
    (br (decide (0 ≤ a1.1) && decide (a1.1 < ((a0.1.length) : Int)))
    (br (decide (0 ≤ a1.2.1) && decide (a1.2.1 < (((a0.1.getD a1.1.toNat []).length) : Int)))
    (K ((a0.1.getD a1.1.toNat []).getD a1.2.1.toNat 0))
    False)
    False)) := by kernel_rfl
theorem f92_t (a0 : List (List Int) × List (List Int)) (a1 : Int × Int × Bool) (hpre : f92_pre (a0, a1)) (K : Int → Prop) (hK : ∀ y : Int, y = f92 (a0, a1) → K y) : RunF Tryz.prog f92_E f92_A 6 Tryz.f92 f92_e.doms f92_e.cods (a0, a1) K := by
  refine ⟨?_⟩
  rw [f92_run a0 a1 K]
  obtain ⟨l, f, fr⟩ := a1
  obtain ⟨h, ⟨h1, h2⟩, h3, h4⟩ := hpre
  simp only at h h1 h2 h3 h4
  obtain ⟨⟨p1, p2, p3⟩, hr⟩ := ruleOf_zero h
  obtain ⟨⟨q1, q2⟩, _⟩ := hr l.toNat (by omega)
  dsimp only
  rw [br_both]
  refine ⟨fun hf => ?_, fun hf => ?_⟩
  · rw [br_false_, br_false_]
    exact ⟨inb h1 (by omega), inb h3 (by omega), hK _ (by rw [f92, secAt, hf]; rfl)⟩
  · rw [br_false_, br_false_]
    exact ⟨inb h1 (by omega), inb h3 (by omega), hK _ (by rw [f92, secAt, hf]; rfl)⟩
theorem f92_fn : f92_e.fn = f92 := rfl
theorem f92_ok : EntryOK Tryz.prog 92 f92_e := by
  refine entryF progOK (EnvOK.cons f124_ok (EnvOK.nil)) (A := f92_A) (d := 6) Tryz.func92 rfl rfl rfl rfl (fun h => by cases h) fun x hpre => ?_
  obtain ⟨a0, a1⟩ := x
  exact f92_t a0 a1 hpre _ fun _ h => h.trans (congrFun f92_fn.symm _)
end Go.Proofs.YtglokajinehbmaaGreat
end

section
namespace Go.Proofs.YtglokajinehbmaaGreat
open Go Go.Pi Go.RowKit
set_option maxRecDepth 100000
set_option linter.unusedVariables false
set_option linter.unusedSimpArgs false

def f66 (x : ((List (List Int) × List (List Int)) × List (ByteArray × Int × Int × Int × Int) × List Int) × Int × Int) : Int := apartF x.1 x.2.1 x.2.2
def f66_pre (x : ((List (List Int) × List (List Int)) × List (ByteArray × Int × Int × Int × Int) × List Int) × Int × Int) : Prop := okP x.1 ∧ (0 ≤ x.2.1 ∧ x.2.1 < x.1.2.1.length) ∧ 0 ≤ x.2.2 ∧ x.2.2 < x.1.2.1.length
def f66_e : Entry := { doms := [(true, (.pair (.pair (.sl (.sl (.int .i64))) (.sl (.sl (.int .i64)))) (.pair (.sl (.pair .str (.pair (.int .i64) (.pair (.int .i64) (.pair (.int .i64) (.int .i64)))))) (.sl (.int .i64))))), (false, (.int .i64)), (false, (.int .i64))], cods := [(false, (.int .i64))], pre := f66_pre, fn := f66, uq := false, total := false }
def f66_E : Env := [(50, f50_e), (92, f92_e), (120, f120_e)]
def f66_A : Anns := { loops := [], own := [] }
theorem f66_run (a0 : (List (List Int) × List (List Int)) × List (ByteArray × Int × Int × Int × Int) × List Int) (a1 : Int) (a2 : Int) (K : Int → Prop) : runF Tryz.prog f66_E f66_A 6 Tryz.f66 f66_e.doms f66_e.cods (a0, a1, a2) K =
    (br (decide (0 ≤ a1) && decide (a1 < ((a0.2.1.length) : Int)))
    (br (decide (0 ≤ a2) && decide (a2 < ((a0.2.1.length) : Int)))
    (f92_pre (a0.1, (((a0.2.1.getD a1.toNat ((⟨#[]⟩ : ByteArray), (0, (0, (0, 0))))).2).1, (((a0.2.1.getD a2.toNat ((⟨#[]⟩ : ByteArray), (0, (0, (0, 0))))).2).1, (f50 (a0.2.2, a1))))) ∧
    K (f92 (a0.1, (((a0.2.1.getD a1.toNat ((⟨#[]⟩ : ByteArray), (0, (0, (0, 0))))).2).1, (((a0.2.1.getD a2.toNat ((⟨#[]⟩ : ByteArray), (0, (0, (0, 0))))).2).1, (f50 (a0.2.2, a1)))))))
    False)
    False) := by kernel_rfl
theorem f66_t (a0 : (List (List Int) × List (List Int)) × List (ByteArray × Int × Int × Int × Int) × List Int) (a1 : Int) (a2 : Int) (hpre : f66_pre (a0, a1, a2)) (K : Int → Prop) (hK : ∀ y : Int, y = f66 (a0, a1, a2) → K y) : RunF Tryz.prog f66_E f66_A 6 Tryz.f66 f66_e.doms f66_e.cods (a0, a1, a2) K := by
  refine ⟨?_⟩
  rw [f66_run a0 a1 a2 K]
  obtain ⟨h, ⟨h1, h2⟩, h3, h4⟩ := hpre
  simp only at h h1 h2 h3 h4
  have hv := h.v
  obtain ⟨⟨_, c2, _⟩, c4⟩ := hv.arr a1.toNat (by omega)
  obtain ⟨⟨_, b2, _⟩, b4⟩ := hv.arr a2.toNat (by omega)
  rw [br_false_, br_false_]
  exact ⟨inb h1 h2, inb h3 h4, ⟨hv.rule, ⟨c2.1.1, c4⟩, b2.1.1, b4⟩, hK _ rfl⟩
theorem f66_fn : f66_e.fn = f66 := rfl
theorem f66_ok : EntryOK Tryz.prog 66 f66_e := by
  refine entryF progOK (EnvOK.cons f50_ok (EnvOK.cons f92_ok (EnvOK.cons f120_ok (EnvOK.nil)))) (A := f66_A) (d := 6) Tryz.func66 rfl rfl rfl rfl (fun h => by cases h) fun x hpre => ?_
  obtain ⟨a0, a1, a2⟩ := x
  exact f66_t a0 a1 a2 hpre _ fun _ h => h.trans (congrFun f66_fn.symm _)
end Go.Proofs.YtglokajinehbmaaGreat
end

section
namespace Go.Proofs.YtglokajinehbmaaGreat
open Go Go.Pi Go.RowKit
set_option maxRecDepth 100000
set_option linter.unusedVariables false
set_option linter.unusedSimpArgs false

def f68 (x : ((List (List Int) × List (List Int)) × List (ByteArray × Int × Int × Int × Int) × List Int) × List (Int × Int) × List Int) : List (Int × Int) × Bool := contF x.1 x.2.1 x.2.2
def f68_pre (x : ((List (List Int) × List (List Int)) × List (ByteArray × Int × Int × Int × Int) × List Int) × List (Int × Int) × List Int) : Prop := okP x.1 ∧ ((∀ s ∈ x.2.1, slotV x.1 s) ∧ x.2.1.length ≤ 900) ∧ (∀ a ∈ x.2.2, inA x.1 a) ∧ x.2.2.length ≤ 1000
def f68_e : Entry := { doms := [(true, (.pair (.pair (.sl (.sl (.int .i64))) (.sl (.sl (.int .i64)))) (.pair (.sl (.pair .str (.pair (.int .i64) (.pair (.int .i64) (.pair (.int .i64) (.int .i64)))))) (.sl (.int .i64))))), (false, (.sl (.pair (.int .i64) (.int .i64)))), (false, (.sl (.int .i64)))], cods := [(false, (.sl (.pair (.int .i64) (.int .i64)))), (false, .bool)], pre := f68_pre, fn := f68, uq := false, total := false }
def f68_E : Env := [(18, f18_e), (66, f66_e), (78, f78_e)]
def f68_A : Anns := { loops := [(1048576, { tms := [(2, .keep), (3, .keep), (8, .ref 1049601), (9, .data false (.int .i64))], obs := [(1048576, .keep), (1049601, .arr (.uniq) (.pair (.int .i64) (.int .i64)))], fz := [] }),
  (1048578, { tms := [(2, .keep), (3, .keep), (8, .keep), (9, .keep), (10, .keep), (11, .data false (.int .i64)), (12, .data false (.int .i64))], obs := [(1048576, .keep), (1049601, .keep), (1053704, .keep)], fz := [] })], own := [1049601] }
theorem f68_run (a0 : (List (List Int) × List (List Int)) × List (ByteArray × Int × Int × Int × Int) × List Int) (a1 : List (Int × Int)) (a2 : List Int) (K : (List (Int × Int) × Bool) → Prop) : runF Tryz.prog f68_E f68_A 6 Tryz.f68 f68_e.doms f68_e.cods (a0, a1, a2) K =
    (f18_pre a1 ∧
    LoopP (V := Int × List (Int × Int) × Unit) (fun again v => (fun (again1 : Int → List (Int × Int) → Prop) (v1_0 : Int) (v1_1 : List (Int × Int)) =>
    br (lenOk (a2.length))
    (br (decide (v1_0 < ((a2.length) : Int)))
    (br (decide (0 ≤ v1_0) && decide (v1_0 < ((a2.length) : Int)))
    (br (decide (0 ≤ (a2.getD v1_0.toNat 0)) && decide ((a2.getD v1_0.toNat 0) < ((a0.2.1.length) : Int)))
    (LoopP (V := Int × Int × Unit) (fun again v => (fun (again2 : Int → Int → Prop) (v2_0 : Int) (v2_1 : Int) =>
    br (lenOk (v1_1.length))
    (br (decide (v2_1 < ((v1_1.length) : Int)))
    (br (decide (0 ≤ v2_1) && decide (v2_1 < ((v1_1.length) : Int)))
    (br (decide (0 ≤ v2_1) && decide (v2_1 < ((v1_1.length) : Int)))
    (br (decide (0 ≤ v1_0) && decide (v1_0 < ((a2.length) : Int)))
    (f66_pre (a0, ((v1_1.getD v2_1.toNat (0, 0)).1, (a2.getD v1_0.toNat 0))) ∧
    again2 (minmax true v2_0 (IntKind.i64.wrap ((v1_1.getD v2_1.toNat (0, 0)).2 + (f66 (a0, ((v1_1.getD v2_1.toNat (0, 0)).1, (a2.getD v1_0.toNat 0))))))) (IntKind.i64.wrap (v2_1 + 1)))
    False)
    False)
    False)
    (br (decide (v2_0 > ((((a0.2.1.getD ((a2.getD v1_0.toNat 0).toNat) ((⟨#[]⟩ : ByteArray), (0, (0, (0, 0))))).2).2).2).1))
    (K (([] : List (Int × Int)), false))
    (br (decide (0 ≤ v1_0) && decide (v1_0 < ((a2.length) : Int)))
    (br (roomOk ((v1_1.length) + 1) 16)
    (again1 (IntKind.i64.wrap (v1_0 + 1)) (v1_1 ++ ([((a2.getD v1_0.toNat 0), v2_0)] : List (Int × Int))))
    False)
    False)))
    True)
    (fun v2_0 v2_1 => again (v2_0, v2_1, ())) v.1 v.2.1) ((((a0.2.1.getD ((a2.getD v1_0.toNat 0).toNat) ((⟨#[]⟩ : ByteArray), (0, (0, (0, 0))))).2).2).1, 0, ()))
    False)
    False)
    (K (v1_1, true)))
    True)
    (fun v1_0 v1_1 => again (v1_0, v1_1, ())) v.1 v.2.1) (0, (f18 a1), ())) := by kernel_rfl
theorem f68_t (a0 : (List (List Int) × List (List Int)) × List (ByteArray × Int × Int × Int × Int) × List Int) (a1 : List (Int × Int)) (a2 : List Int) (hpre : f68_pre (a0, a1, a2)) (K : (List (Int × Int) × Bool) → Prop) (hK : ∀ y : List (Int × Int) × Bool, y = f68 (a0, a1, a2) → K y) : RunF Tryz.prog f68_E f68_A 6 Tryz.f68 f68_e.doms f68_e.cods (a0, a1, a2) K := by
  refine ⟨?_⟩
  rw [f68_run a0 a1 a2 K]
  obtain ⟨h, ⟨hs, hs1⟩, ho, ho1⟩ := hpre
  simp only at h hs hs1 ho ho1
  have hv := h.v
  have hd : ((⟨#[]⟩ : ByteArray), ((0 : Int), ((0 : Int), ((0 : Int), (0 : Int))))) = arrD := rfl
  simp only [hd]
  refine ⟨show a1.length ≤ 1000 by omega, ?_⟩
  refine LoopP.of (fun q : Int × List (Int × Int) × Unit => ∃ i : Nat, q.1 = (i : Int) ∧ ContI a0 a1 a2 i q.2.1) (fun q => ((a2.length : Int) - q.1).toNat) (fun again q hq hag => ?_) ⟨0, rfl, by omega, rfl, hs, by simp only; show a1.length ≤ _; omega⟩
  obtain ⟨j, out, u⟩ := q
  obtain ⟨i, e1, hI⟩ := hq
  simp only at e1 hI
  subst e1
  dsimp only
  have hi := hI.le
  have hlen := hI.len
  rw [br_true_, lenOk_iff]
  intro _
  rw [br_dec]
  refine ⟨fun hlt => ?_, fun hlt => hK _ ?_⟩
  · have hlt : i < a2.length := by omega
    have ha := ho (a2.getD i 0) (by rw [getD_lt hlt]; exact List.getElem_mem _)
    have b0 : (decide (0 ≤ (i : Int)) && decide ((i : Int) < (a2.length : Int))) = true := inb (by omega) (by omega)
    rw [b0]
    simp only [Int.toNat_natCast, br_t]
    rw [br_false_]
    refine ⟨inb ha.1 ha.2, ?_⟩
    refine LoopP.of (fun q : Int × Int × Unit => ∃ k : Nat, k ≤ out.length ∧ q.2.1 = (k : Int) ∧ q.1 = soonF a0 (out.take k) (a2.getD i 0)) (fun q => ((out.length : Int) - q.2.1).toNat) (fun again2 q hq hag2 => ?_) ⟨0, by omega, rfl, rfl⟩
    obtain ⟨t, kk, u2⟩ := q
    obtain ⟨k, hk, e1, e2⟩ := hq
    simp only at e1 e2
    subst e1 e2
    dsimp only
    rw [br_true_, lenOk_iff]
    intro _
    rw [br_dec]
    refine ⟨fun hk2 => ?_, fun hk2 => ?_⟩
    · have hk2 : k < out.length := by omega
      have c0 : (decide (0 ≤ (k : Int)) && decide ((k : Int) < (out.length : Int))) = true := inb (by omega) (by omega)
      rw [c0]
      simp only [Int.toNat_natCast, br_t]
      have hm := hI.ok (out.getD k (0, 0)) (by rw [getD_lt hk2]; exact List.getElem_mem _)
      have hap := apartF_in hv hm.1 ha
      have e92 : f66 (a0, (out.getD k (0, 0)).1, a2.getD i 0) = apartF a0 (out.getD k (0, 0)).1 (a2.getD i 0) := rfl
      obtain ⟨s1, s2⟩ := hm
      refine ⟨⟨h, s1, ha.1, ha.2⟩, ?_⟩
      rw [e92, wr (n := (out.getD k (0, 0)).2 + _) (by omega) (by omega), wr (n := (k : Int) + 1) (by omega) (by omega), minmax_max]
      exact hag2 (_, _, ()) ⟨k + 1, by omega, by simp only; omega, (soonF_take a0 out _ hk2).symm⟩ (by simp only; omega)
    · rw [List.take_of_length_le (by omega), br_dec]
      refine ⟨fun ht => hK _ (hI.fail hlt ht).symm, fun ht => ?_⟩
      rw [br_false_, roomOk_iff, wr (n := (i : Int) + 1) (by omega) (by omega)]
      exact ⟨by omega, hag (_, _, ()) ⟨i + 1, by simp only; omega, hI.next hv hlt ha ht⟩ (by simp only; omega)⟩
  · rw [f68, hI.done (by omega)]
theorem f68_fn : f68_e.fn = f68 := rfl
theorem f68_ok : EntryOK Tryz.prog 68 f68_e := by
  refine entryF progOK (EnvOK.cons f18_ok (EnvOK.cons f66_ok (EnvOK.cons f78_ok (EnvOK.nil)))) (A := f68_A) (d := 6) Tryz.func68 rfl rfl rfl rfl (fun h => by cases h) fun x hpre => ?_
  obtain ⟨a0, a1, a2⟩ := x
  exact f68_t a0 a1 a2 hpre _ fun _ h => h.trans (congrFun f68_fn.symm _)
end Go.Proofs.YtglokajinehbmaaGreat
end

section
namespace Go.Proofs.YtglokajinehbmaaGreat
open Go Go.Pi Go.RowKit
set_option linter.unusedVariables false
set_option linter.unusedSimpArgs false
def ordE (p : Prob) (o : List Int) (i : Nat) : Int := if ¬ (0 ≤ o.getD i 0 ∧ o.getD i 0 ≤ (p.2.1.length : Int) - 1) then 6 else if o.getD i 0 ∈ o.take i then 21 else 0
def ordChk (p : Prob) (o : List Int) : Int := (eachE o.length (ordE p o)).2
def orderErr (p : Prob) (o : List Int) : Int := if ordChk p o ≠ 0 then ordChk p o else if (contF p [] o).2 = true then 0 else 20
theorem ordE_zero {p : Prob} {o : List Int} {i : Nat} (h : ordE p o i = 0) : inA p (o.getD i 0) ∧ o.getD i 0 ∉ o.take i := by
  unfold ordE at h
  split at h
  · simp at h
  · rename_i h1
    split at h
    · simp at h
    · rename_i h2
      have h1 := Classical.byContradiction h1
      exact ⟨⟨h1.1, by omega⟩, h2⟩
theorem ordChk_zero {p : Prob} {o : List Int} (h : ordChk p o = 0) : ∀ a ∈ o, inA p a := fun a ha => by
  obtain ⟨i, hi, rfl⟩ := List.getElem_of_mem ha
  have := (ordE_zero (eachE_zero h i hi)).1
  rwa [getD_lt hi] at this
theorem ordE_in {p : Prob} {o : List Int} (h : ∀ i, i < o.length → ordE p o i = 0) : ∀ a ∈ o, inA p a := fun a ha => by
  obtain ⟨i, hi, rfl⟩ := List.getElem_of_mem ha
  have := (ordE_zero (h i hi)).1
  rwa [getD_lt hi] at this
def gx42 (x : ((List (List Int) × List (List Int)) × List (ByteArray × Int × Int × Int × Int) × List Int) × List Int) : Int := orderErr x.1 x.2
def gx42_pre (x : ((List (List Int) × List (List Int)) × List (ByteArray × Int × Int × Int × Int) × List Int) × List Int) : Prop := okP x.1 ∧ x.2.length ≤ 1000
end Go.Proofs.YtglokajinehbmaaGreat
end

section
namespace Go.Proofs.YtglokajinehbmaaGreat
open Go Go.Pi Go.RowKit
set_option maxRecDepth 100000
set_option linter.unusedVariables false
set_option linter.unusedSimpArgs false

theorem ord_errs (a b : Bool) : f42 [f43 (a, 6), f43 (!b, 21)] = if a = false then 6 else if b = true then 21 else 0 := by
  cases a <;> cases b <;> rfl
abbrev ProbT := (List (List Int) × List (List Int)) × List (ByteArray × Int × Int × Int × Int) × List Int
def f70 (x : ((List (List Int) × List (List Int)) × List (ByteArray × Int × Int × Int × Int) × List Int) × List Int) : ProbT × List (Int × Int) × Int :=
  if (probOf x.1).2 ≠ 0 then (x.1, [], (probOf x.1).2) else if ordChk x.1 x.2 ≠ 0 then (x.1, [], ordChk x.1 x.2) else (x.1, (contF x.1 [] x.2).1, if (contF x.1 [] x.2).2 = true then 0 else 20)
def f70_pre (x : ((List (List Int) × List (List Int)) × List (ByteArray × Int × Int × Int × Int) × List Int) × List Int) : Prop := f97_pre x.1.2.1 ∧ x.2.length ≤ 1000
def f70_e : Entry := { doms := [(true, (.pair (.pair (.sl (.sl (.int .i64))) (.sl (.sl (.int .i64)))) (.pair (.sl (.pair .str (.pair (.int .i64) (.pair (.int .i64) (.pair (.int .i64) (.int .i64)))))) (.sl (.int .i64))))), (false, (.sl (.int .i64)))], cods := [(true, (.pair (.pair (.sl (.sl (.int .i64))) (.sl (.sl (.int .i64)))) (.pair (.sl (.pair .str (.pair (.int .i64) (.pair (.int .i64) (.pair (.int .i64) (.int .i64)))))) (.sl (.int .i64))))), (false, (.sl (.pair (.int .i64) (.int .i64)))), (false, (.int .i64))], pre := f70_pre, fn := f70, uq := false, total := false }
def f70_E : Env := [(39, f39_e), (42, f42_e), (43, f43_e), (75, f75_e), (76, f76_e), (78, f78_e)]
def f70_A : Anns := { loops := [(1103808692224, { tms := [(1, .keep), (9, .keep), (10, .keep), (11, .data false (.int .i64))], obs := [(1048576, .keep), (1048577, .keep), (1048578, .keep), (1049605, .keep), (1100586418176, .keep), (1100586418177, .keep)], fz := [] })], own := [] }
theorem f70_run (a0 : (List (List Int) × List (List Int)) × List (ByteArray × Int × Int × Int × Int) × List Int) (a1 : List Int) (K : (((List (List Int) × List (List Int)) × List (ByteArray × Int × Int × Int × Int) × List Int) × List (Int × Int) × Int) → Prop) : runF Tryz.prog f70_E f70_A 6 Tryz.f70 f70_e.doms f70_e.cods (a0, a1) K =
    (f76_pre a0 ∧
    br ((f76 a0).2 != 0)
    (K (a0, (([] : List (Int × Int)), (f76 a0).2)))
    (br (lenOk (a1.length))
    (LoopP (V := Int × Unit) (fun again v => (fun (again1 : Int → Prop) (v1_0 : Int) =>
    br (decide (v1_0 < ((a1.length) : Int)))
    (br (decide (0 ≤ v1_0) && decide (v1_0 < ((a1.length) : Int)))
    (br (decide ((0 : Int) ≤ 0 ∧ 0 ≤ v1_0 ∧ v1_0 ≤ ((a1.length) : Int)))
    (br (lenOk (a0.2.1.length))
    (br ((f42 ([(f43 ((f39 ((a1.getD v1_0.toNat 0), (0, (IntKind.i64.wrap (((a0.2.1.length) : Int) - 1))))), 6)), (f43 ((!(f75 (((a1.take v1_0.toNat).drop 0), (a1.getD v1_0.toNat 0)))), 21))] : List Int)) != 0)
    (br ((f42 ([(f43 ((f39 ((a1.getD v1_0.toNat 0), (0, (IntKind.i64.wrap (((a0.2.1.length) : Int) - 1))))), 6)), (f43 ((!(f75 (((a1.take v1_0.toNat).drop 0), (a1.getD v1_0.toNat 0)))), 21))] : List Int)) != 0)
    (K (a0, (([] : List (Int × Int)), (f42 ([(f43 ((f39 ((a1.getD v1_0.toNat 0), (0, (IntKind.i64.wrap (((a0.2.1.length) : Int) - 1))))), 6)), (f43 ((!(f75 (((a1.take v1_0.toNat).drop 0), (a1.getD v1_0.toNat 0)))), 21))] : List Int)))))
    (f78_pre (a0, (([] : List (Int × Int)), a1)) ∧
    K (a0, ((f78 (a0, (([] : List (Int × Int)), a1))).1, (f43 ((f78 (a0, (([] : List (Int × Int)), a1))).2, 20))))))
    (again1 (IntKind.i64.wrap (v1_0 + 1))))
    True)
    False)
    False)
    (f78_pre (a0, (([] : List (Int × Int)), a1)) ∧
    K (a0, ((f78 (a0, (([] : List (Int × Int)), a1))).1, (f43 ((f78 (a0, (([] : List (Int × Int)), a1))).2, 20))))))
    (fun v1_0 => again (v1_0, ())) v.1) (0, ()))
    True)) := by kernel_rfl
theorem f70_t (a0 : (List (List Int) × List (List Int)) × List (ByteArray × Int × Int × Int × Int) × List Int) (a1 : List Int) (hpre : f70_pre (a0, a1)) (K : (((List (List Int) × List (List Int)) × List (ByteArray × Int × Int × Int × Int) × List Int) × List (Int × Int) × Int) → Prop) (hK : ∀ y : ((List (List Int) × List (List Int)) × List (ByteArray × Int × Int × Int × Int) × List Int) × List (Int × Int) × Int, y = f70 (a0, a1) → K y) : RunF Tryz.prog f70_E f70_A 6 Tryz.f70 f70_e.doms f70_e.cods (a0, a1) K := by
  refine ⟨?_⟩
  rw [f70_run a0 a1 K]
  obtain ⟨h22, h1⟩ := hpre
  simp only at h22 h1
  refine ⟨h22, ?_⟩
  have e24 : f76 a0 = probOf a0 := rfl
  rw [e24, br_both]
  refine ⟨fun hp => hK _ ?_, fun hp => ?_⟩
  · rw [f70, if_pos (by simpa using hp)]
  have h : okP a0 := by
    have : (probOf a0).2 = 0 := by simpa using hp
    exact this
  have n1 : ¬ (probOf a0).2 ≠ 0 := fun hh => hh h
  have hv := h.v
  have h6 := hv.six
  rw [br_true_]
  intro _
  refine each_walk (n := a1.length) (e := ordE a0 a1) (fun again i hi hI good => ?_)
  dsimp only
  rw [br_dec]
  refine ⟨fun hlt => ?_, fun hlt => ?_⟩
  · have hlt : i < a1.length := by omega
    have b0 : (decide (0 ≤ (i : Int)) && decide ((i : Int) < (a1.length : Int))) = true := inb (by omega) (by omega)
    rw [b0]
    simp only [Int.toNat_natCast, br_t, List.drop_zero]
    rw [br_false_]
    refine ⟨by simp; omega, ?_⟩
    rw [br_true_]
    intro _
    rw [wr (n := (a0.2.1.length : Int) - 1) (by omega) (by omega)]
    have hX : f42 [f43 (f39 (a1.getD i 0, 0, (a0.2.1.length : Int) - 1), 6), f43 (!(f75 (a1.take i, a1.getD i 0)), 21)] = ordE a0 a1 i := by
      rw [ord_errs, ordE]
      by_cases h3 : 0 ≤ a1.getD i 0 ∧ a1.getD i 0 ≤ (a0.2.1.length : Int) - 1
      · rw [f39_t1.2 h3, if_neg (show ¬ (true = false) by decide), if_neg (fun hh : ¬ (0 ≤ a1.getD i 0 ∧ a1.getD i 0 ≤ (a0.2.1.length : Int) - 1) => hh h3)]
        by_cases h4 : a1.getD i 0 ∈ a1.take i
        · rw [if_pos (show f75 (a1.take i, a1.getD i 0) = true from decide_eq_true h4), if_pos h4]
        · rw [if_neg (show ¬ f75 (a1.take i, a1.getD i 0) = true from fun hh => h4 (of_decide_eq_true hh)), if_neg h4]
      · rw [f39_f1.2 h3, if_pos rfl, if_pos h3]
    rw [hX]
    by_cases h5 : ordE a0 a1 i = 0
    · rw [show (ordE a0 a1 i != 0) = false by simp [h5]]
      show again _
      rw [wr (n := (i : Int) + 1) (by omega) (by omega)]
      exact good hlt h5
    · rw [show (ordE a0 a1 i != 0) = true by simp [h5]]
      have hs := eachE_some hlt hI h5
      refine hK _ ?_
      rw [f70, if_neg n1, ordChk, hs, if_pos h5]
  · have hz := fun j (hj : j < a1.length) => hI j (by omega)
    have hin := ordE_in hz
    have hc : ordChk a0 a1 = 0 := by rw [ordChk, eachE_none hz]
    refine ⟨⟨h, ⟨fun s hs => (by cases hs), Nat.zero_le _⟩, hin, h1⟩, hK _ ?_⟩
    rw [f70, if_neg n1, if_neg (by simp [hc])]
    rfl
theorem f70_fn : f70_e.fn = f70 := rfl
theorem f70_ok : EntryOK Tryz.prog 70 f70_e := by
  refine entryF progOK (EnvOK.cons f39_ok (EnvOK.cons f42_ok (EnvOK.cons f43_ok (EnvOK.cons f75_ok (EnvOK.cons f76_ok (EnvOK.cons f78_ok (EnvOK.nil))))))) (A := f70_A) (d := 6) Tryz.func70 rfl rfl rfl rfl (fun h => by cases h) fun x hpre => ?_
  obtain ⟨a0, a1⟩ := x
  exact f70_t a0 a1 hpre _ fun _ h => h.trans (congrFun f70_fn.symm _)
end Go.Proofs.YtglokajinehbmaaGreat
end
