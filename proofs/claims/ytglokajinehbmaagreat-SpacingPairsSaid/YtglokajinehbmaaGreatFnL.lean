/- What functions of the program compute, each proved once, part 12. -/
import Derived.Test.YtglokajinehbmaaGreatPiD
import Derived.Test.YtglokajinehbmaaGreatFnA
import Derived.Test.YtglokajinehbmaaGreatFnK
import Derived.Test.YtglokajinehbmaaGreatFnG

namespace Go.Proofs.YtglokajinehbmaaGreat
open Go Go.Pi Go.RowKit
set_option maxRecDepth 100000
set_option linter.unusedVariables false
set_option linter.unusedSimpArgs false

def f13 (x : ((List (List Int) × List (List Int)) × List (ByteArray × Int × Int × Int × Int) × List Int) × List (Int × Int)) : Int := boundF x.1 x.2
def f13_pre (x : ((List (List Int) × List (List Int)) × List (ByteArray × Int × Int × Int × Int) × List Int) × List (Int × Int)) : Prop := okP x.1 ∧ (∀ y ∈ x.2, inA x.1 y.1 ∧ inA x.1 y.2) ∧ x.2.length ≤ 1000
theorem take_snocQ {l : Prs} {i : Nat} (hi : i < l.length) : l.take (i + 1) = l.take i ++ [l.getD i (0, 0)] := by
  rw [List.take_add_one, List.getElem?_eq_getElem hi, getD_lt hi]
  rfl
theorem f51_1 (p : Prob) (a b : Int) : (f51 (p, a, b)).1 = cst p a b := by
  unfold f51 cst
  cases pairB p a b <;> rfl
theorem f51_2 (p : Prob) (a b : Int) : (f51 (p, a, b)).2 = (pairB p a b).isSome := by
  unfold f51
  cases pairB p a b <;> rfl
def f13_e : Entry := { doms := [(true, (.pair (.pair (.sl (.sl (.int .i64))) (.sl (.sl (.int .i64)))) (.pair (.sl (.pair .str (.pair (.int .i64) (.pair (.int .i64) (.pair (.int .i64) (.int .i64)))))) (.sl (.int .i64))))), (false, (.sl (.pair (.int .i64) (.int .i64))))], cods := [(false, (.int .i64))], pre := f13_pre, fn := f13, uq := false, total := false }
def f13_E : Env := [(51, f51_e)]
def f13_A : Anns := { loops := [(1048576, { tms := [(1, .keep), (2, .keep), (5, .data false (.int .i64)), (6, .data false (.int .i64))], obs := [(1048576, .keep)], fz := [] })], own := [] }
theorem f13_run (a0 : (List (List Int) × List (List Int)) × List (ByteArray × Int × Int × Int × Int) × List Int) (a1 : List (Int × Int)) (K : Int → Prop) : runF Tryz.prog f13_E f13_A 6 Tryz.f13 f13_e.doms f13_e.cods (a0, a1) K =
    (LoopP (V := Int × Int × Unit) (fun again v => (fun (again1 : Int → Int → Prop) (v1_0 : Int) (v1_1 : Int) =>
    br (lenOk (a1.length))
    (br (decide (v1_1 < ((a1.length) : Int)))
    (br (decide (0 ≤ v1_1) && decide (v1_1 < ((a1.length) : Int)))
    (br (decide (0 ≤ v1_1) && decide (v1_1 < ((a1.length) : Int)))
    (f51_pre (a0, (a1.getD v1_1.toNat (0, 0))) ∧
    again1 (IntKind.i64.wrap (v1_0 + (f51 (a0, (a1.getD v1_1.toNat (0, 0)))).1)) (IntKind.i64.wrap (v1_1 + 1)))
    False)
    False)
    (K v1_0))
    True)
    (fun v1_0 v1_1 => again (v1_0, v1_1, ())) v.1 v.2.1) (0, 0, ())) := by kernel_rfl
theorem f13_t (a0 : (List (List Int) × List (List Int)) × List (ByteArray × Int × Int × Int × Int) × List Int) (a1 : List (Int × Int)) (hpre : f13_pre (a0, a1)) (K : Int → Prop) (hK : ∀ y : Int, y = f13 (a0, a1) → K y) : RunF Tryz.prog f13_E f13_A 6 Tryz.f13 f13_e.doms f13_e.cods (a0, a1) K := by
  refine ⟨?_⟩
  rw [f13_run a0 a1 K]
  obtain ⟨hok, hin, hl⟩ := hpre
  simp only at hok hin hl
  refine LoopP.of (fun q : Int × Int × Unit => ∃ i : Nat, i ≤ a1.length ∧ q.2.1 = (i : Int) ∧ q.1 = boundF a0 (a1.take i)) (fun q => ((a1.length : Int) - q.2.1).toNat) (fun again q hq hag => ?_) ⟨0, by omega, rfl, rfl⟩
  obtain ⟨sm, ii, u⟩ := q
  obtain ⟨i, hi, e1, e2⟩ := hq
  simp only at e1 e2
  subst e1 e2
  dsimp only
  rw [br_true_]
  intro _
  rw [br_dec]
  refine ⟨fun hlt => ?_, fun hlt => ?_⟩
  · have hlt : i < a1.length := by omega
    rw [br_false_]
    refine ⟨inb (by omega) (by omega), ?_⟩
    rw [br_false_]
    refine ⟨inb (by omega) (by omega), ?_⟩
    rw [Int.toNat_natCast]
    have hx := hin (a1.getD i (0, 0)) (by rw [getD_lt hlt]; exact List.getElem_mem _)
    have b1 := boundF_in hok a1 hin i (by omega)
    have b2 := boundF_in hok a1 hin (i + 1) (by omega)
    rw [take_snocQ hlt, boundF_snoc] at b2
    have e51 : (f51 (a0, a1.getD i (0, 0))).1 = cst a0 (a1.getD i (0, 0)).1 (a1.getD i (0, 0)).2 := f51_1 _ _ _
    rw [e51, wr (n := boundF a0 (a1.take i) + _) (by omega) (by omega), wr (n := (i : Int) + 1) (by omega) (by omega)]
    refine ⟨⟨hok, hx.1, hx.2⟩, hag _ ⟨i + 1, by omega, by simp only; omega, ?_⟩ (by simp only; omega)⟩
    simp only
    rw [take_snocQ hlt, boundF_snoc]
  · have : i = a1.length := by omega
    subst this
    rw [List.take_length]
    exact hK _ rfl
theorem f13_fn : f13_e.fn = f13 := rfl
theorem f13_ok : EntryOK Tryz.prog 13 f13_e := by
  refine entryF progOK (EnvOK.cons f51_ok (EnvOK.nil)) (A := f13_A) (d := 6) Tryz.func13 rfl rfl rfl rfl (fun h => by cases h) fun x hpre => ?_
  obtain ⟨a0, a1⟩ := x
  exact f13_t a0 a1 hpre _ fun _ h => h.trans (congrFun f13_fn.symm _)
end Go.Proofs.YtglokajinehbmaaGreat
