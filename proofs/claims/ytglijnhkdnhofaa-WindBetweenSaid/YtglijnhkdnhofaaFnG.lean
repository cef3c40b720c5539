/- What functions of the program compute, each proved once, part 7. -/
import Derived.Test.YtglijnhkdnhofaaPiD
import Derived.Test.YtglijnhkdnhofaaFnA
import Derived.Test.YtglijnhkdnhofaaFnF
import Derived.Test.YtglijnhkdnhofaaFnD

section
namespace Go.Proofs.Ytglijnhkdnhofaa
open Go Go.Pi Go.RowKit
set_option maxRecDepth 100000
set_option linter.unusedVariables false
set_option linter.unusedSimpArgs false

def f89 (x : List (Int × (Int × Int) × (Int × Int) × Int × Int) × Int) : ((Int × Int) × (Int × Int) × Int × Int) × Bool := atP x.1 x.2
def f89_pre (x : List (Int × (Int × Int) × (Int × Int) × Int × Int) × Int) : Prop := PfOK x.1
def f89_e : Entry := { doms := [(false, (.sl (.pair (.int .i64) (.pair (.pair (.int .i64) (.int .i64)) (.pair (.pair (.int .i64) (.int .i64)) (.pair (.int .i64) (.int .i64))))))), (false, (.int .i64))], cods := [(true, (.pair (.pair (.int .i64) (.int .i64)) (.pair (.pair (.int .i64) (.int .i64)) (.pair (.int .i64) (.int .i64))))), (false, .bool)], pre := f89_pre, fn := f89, uq := false, total := false }
def f89_E : Env := [(120, f120_e)]
def f89_A : Anns := { loops := [(1100587466752, { tms := [(0, .keep), (1, .keep), (7, .keep), (8, .data false (.int .i64))], obs := [(1048576, .keep), (1048577, .keep)], fz := [] })], own := [1055621, 2723573831664727009859197972367564711199896261164974086464368512464760725722200896370531213819806494812558716671643990942030726, 2723576413914605096767787628286736714211770590870766915687881343124117266369822913211725843465159774950390152574815963689524102] }
theorem f89_run (a0 : List (Int × (Int × Int) × (Int × Int) × Int × Int)) (a1 : Int) (K : (((Int × Int) × (Int × Int) × Int × Int) × Bool) → Prop) : runF Try.prog f89_E f89_A 6 Try.f89 f89_e.doms f89_e.cods (a0, a1) K =
    (br (lenOk (a0.length))
    (LoopP (V := Int × Unit) (fun again v => (fun (again1 : Int → Prop) (v1_0 : Int) =>
    br (decide (v1_0 < ((a0.length) : Int)))
    (br (decide (0 ≤ v1_0) && decide (v1_0 < ((a0.length) : Int)))
    (br (decide ((a0.getD v1_0.toNat (0, ((0, 0), ((0, 0), (0, 0))))).1 ≥ a1))
    (br (decide (v1_0 < 0))
    (K (((0, 0), ((0, 0), (0, 0))), false))
    (br (v1_0 == 0)
    (br (decide (0 ≤ 0) && decide (0 < ((a0.length) : Int)))
    (br (decide ((a0.getD 0 (0, ((0, 0), ((0, 0), (0, 0))))).1 > a1))
    (K (((0, 0), ((0, 0), (0, 0))), false))
    (br (decide (0 ≤ v1_0) && decide (v1_0 < ((a0.length) : Int)))
    (br ((a0.getD v1_0.toNat (0, ((0, 0), ((0, 0), (0, 0))))).1 == a1)
    (br (decide (0 ≤ v1_0) && decide (v1_0 < ((a0.length) : Int)))
    (K (((((a0.getD v1_0.toNat (0, ((0, 0), ((0, 0), (0, 0))))).2).1), (((((a0.getD v1_0.toNat (0, ((0, 0), ((0, 0), (0, 0))))).2).2).1), ((((a0.getD v1_0.toNat (0, ((0, 0), ((0, 0), (0, 0))))).2).2).2))), true))
    False)
    (br (decide (0 ≤ (IntKind.i64.wrap (v1_0 - 1))) && decide ((IntKind.i64.wrap (v1_0 - 1)) < ((a0.length) : Int)))
    (br (decide (0 ≤ v1_0) && decide (v1_0 < ((a0.length) : Int)))
    (f120_pre ((((a0.getD ((IntKind.i64.wrap (v1_0 - 1)).toNat) (0, ((0, 0), ((0, 0), (0, 0))))).2).1), ((((a0.getD v1_0.toNat (0, ((0, 0), ((0, 0), (0, 0))))).2).1), ((IntKind.i64.wrap (a1 - (a0.getD ((IntKind.i64.wrap (v1_0 - 1)).toNat) (0, ((0, 0), ((0, 0), (0, 0))))).1)), (IntKind.i64.wrap ((a0.getD v1_0.toNat (0, ((0, 0), ((0, 0), (0, 0))))).1 - (a0.getD ((IntKind.i64.wrap (v1_0 - 1)).toNat) (0, ((0, 0), ((0, 0), (0, 0))))).1))))) ∧
    f120_pre (((((a0.getD ((IntKind.i64.wrap (v1_0 - 1)).toNat) (0, ((0, 0), ((0, 0), (0, 0))))).2).2).1), (((((a0.getD v1_0.toNat (0, ((0, 0), ((0, 0), (0, 0))))).2).2).1), ((IntKind.i64.wrap (a1 - (a0.getD ((IntKind.i64.wrap (v1_0 - 1)).toNat) (0, ((0, 0), ((0, 0), (0, 0))))).1)), (IntKind.i64.wrap ((a0.getD v1_0.toNat (0, ((0, 0), ((0, 0), (0, 0))))).1 - (a0.getD ((IntKind.i64.wrap (v1_0 - 1)).toNat) (0, ((0, 0), ((0, 0), (0, 0))))).1))))) ∧
    f120_pre (((((a0.getD ((IntKind.i64.wrap (v1_0 - 1)).toNat) (0, ((0, 0), ((0, 0), (0, 0))))).2).2).2), (((((a0.getD v1_0.toNat (0, ((0, 0), ((0, 0), (0, 0))))).2).2).2), ((IntKind.i64.wrap (a1 - (a0.getD ((IntKind.i64.wrap (v1_0 - 1)).toNat) (0, ((0, 0), ((0, 0), (0, 0))))).1)), (IntKind.i64.wrap ((a0.getD v1_0.toNat (0, ((0, 0), ((0, 0), (0, 0))))).1 - (a0.getD ((IntKind.i64.wrap (v1_0 - 1)).toNat) (0, ((0, 0), ((0, 0), (0, 0))))).1))))) ∧
    K (((f120 ((((a0.getD ((IntKind.i64.wrap (v1_0 - 1)).toNat) (0, ((0, 0), ((0, 0), (0, 0))))).2).1), ((((a0.getD v1_0.toNat (0, ((0, 0), ((0, 0), (0, 0))))).2).1), ((IntKind.i64.wrap (a1 - (a0.getD ((IntKind.i64.wrap (v1_0 - 1)).toNat) (0, ((0, 0), ((0, 0), (0, 0))))).1)), (IntKind.i64.wrap ((a0.getD v1_0.toNat (0, ((0, 0), ((0, 0), (0, 0))))).1 - (a0.getD ((IntKind.i64.wrap (v1_0 - 1)).toNat) (0, ((0, 0), ((0, 0), (0, 0))))).1)))))), ((f120 (((((a0.getD ((IntKind.i64.wrap (v1_0 - 1)).toNat) (0, ((0, 0), ((0, 0), (0, 0))))).2).2).1), (((((a0.getD v1_0.toNat (0, ((0, 0), ((0, 0), (0, 0))))).2).2).1), ((IntKind.i64.wrap (a1 - (a0.getD ((IntKind.i64.wrap (v1_0 - 1)).toNat) (0, ((0, 0), ((0, 0), (0, 0))))).1)), (IntKind.i64.wrap ((a0.getD v1_0.toNat (0, ((0, 0), ((0, 0), (0, 0))))).1 - (a0.getD ((IntKind.i64.wrap (v1_0 - 1)).toNat) (0, ((0, 0), ((0, 0), (0, 0))))).1)))))), (f120 (((((a0.getD ((IntKind.i64.wrap (v1_0 - 1)).toNat) (0, ((0, 0), ((0, 0), (0, 0))))).2).2).2), (((((a0.getD v1_0.toNat (0, ((0, 0), ((0, 0), (0, 0))))).2).2).2), ((IntKind.i64.wrap (a1 - (a0.getD ((IntKind.i64.wrap (v1_0 - 1)).toNat) (0, ((0, 0), ((0, 0), (0, 0))))).1)), (IntKind.i64.wrap ((a0.getD v1_0.toNat (0, ((0, 0), ((0, 0), (0, 0))))).1 - (a0.getD ((IntKind.i64.wrap (v1_0 - 1)).toNat) (0, ((0, 0), ((0, 0), (0, 0))))).1)))))))), true))
    False)
    False))
    False))
    False)
    (br (decide (0 ≤ v1_0) && decide (v1_0 < ((a0.length) : Int)))
    (br ((a0.getD v1_0.toNat (0, ((0, 0), ((0, 0), (0, 0))))).1 == a1)
    (br (decide (0 ≤ v1_0) && decide (v1_0 < ((a0.length) : Int)))
    (K (((((a0.getD v1_0.toNat (0, ((0, 0), ((0, 0), (0, 0))))).2).1), (((((a0.getD v1_0.toNat (0, ((0, 0), ((0, 0), (0, 0))))).2).2).1), ((((a0.getD v1_0.toNat (0, ((0, 0), ((0, 0), (0, 0))))).2).2).2))), true))
    False)
    (br (decide (0 ≤ (IntKind.i64.wrap (v1_0 - 1))) && decide ((IntKind.i64.wrap (v1_0 - 1)) < ((a0.length) : Int)))
    (br (decide (0 ≤ v1_0) && decide (v1_0 < ((a0.length) : Int)))
    (f120_pre ((((a0.getD ((IntKind.i64.wrap (v1_0 - 1)).toNat) (0, ((0, 0), ((0, 0), (0, 0))))).2).1), ((((a0.getD v1_0.toNat (0, ((0, 0), ((0, 0), (0, 0))))).2).1), ((IntKind.i64.wrap (a1 - (a0.getD ((IntKind.i64.wrap (v1_0 - 1)).toNat) (0, ((0, 0), ((0, 0), (0, 0))))).1)), (IntKind.i64.wrap ((a0.getD v1_0.toNat (0, ((0, 0), ((0, 0), (0, 0))))).1 - (a0.getD ((IntKind.i64.wrap (v1_0 - 1)).toNat) (0, ((0, 0), ((0, 0), (0, 0))))).1))))) ∧
    f120_pre (((((a0.getD ((IntKind.i64.wrap (v1_0 - 1)).toNat) (0, ((0, 0), ((0, 0), (0, 0))))).2).2).1), (((((a0.getD v1_0.toNat (0, ((0, 0), ((0, 0), (0, 0))))).2).2).1), ((IntKind.i64.wrap (a1 - (a0.getD ((IntKind.i64.wrap (v1_0 - 1)).toNat) (0, ((0, 0), ((0, 0), (0, 0))))).1)), (IntKind.i64.wrap ((a0.getD v1_0.toNat (0, ((0, 0), ((0, 0), (0, 0))))).1 - (a0.getD ((IntKind.i64.wrap (v1_0 - 1)).toNat) (0, ((0, 0), ((0, 0), (0, 0))))).1))))) ∧
    f120_pre (((((a0.getD ((IntKind.i64.wrap (v1_0 - 1)).toNat) (0, ((0, 0), ((0, 0), (0, 0))))).2).2).2), (((((a0.getD v1_0.toNat (0, ((0, 0), ((0, 0), (0, 0))))).2).2).2), ((IntKind.i64.wrap (a1 - (a0.getD ((IntKind.i64.wrap (v1_0 - 1)).toNat) (0, ((0, 0), ((0, 0), (0, 0))))).1)), (IntKind.i64.wrap ((a0.getD v1_0.toNat (0, ((0, 0), ((0, 0), (0, 0))))).1 - (a0.getD ((IntKind.i64.wrap (v1_0 - 1)).toNat) (0, ((0, 0), ((0, 0), (0, 0))))).1))))) ∧
    K (((f120 ((((a0.getD ((IntKind.i64.wrap (v1_0 - 1)).toNat) (0, ((0, 0), ((0, 0), (0, 0))))).2).1), ((((a0.getD v1_0.toNat (0, ((0, 0), ((0, 0), (0, 0))))).2).1), ((IntKind.i64.wrap (a1 - (a0.getD ((IntKind.i64.wrap (v1_0 - 1)).toNat) (0, ((0, 0), ((0, 0), (0, 0))))).1)), (IntKind.i64.wrap ((a0.getD v1_0.toNat (0, ((0, 0), ((0, 0), (0, 0))))).1 - (a0.getD ((IntKind.i64.wrap (v1_0 - 1)).toNat) (0, ((0, 0), ((0, 0), (0, 0))))).1)))))), ((f120 (((((a0.getD ((IntKind.i64.wrap (v1_0 - 1)).toNat) (0, ((0, 0), ((0, 0), (0, 0))))).2).2).1), (((((a0.getD v1_0.toNat (0, ((0, 0), ((0, 0), (0, 0))))).2).2).1), ((IntKind.i64.wrap (a1 - (a0.getD ((IntKind.i64.wrap (v1_0 - 1)).toNat) (0, ((0, 0), ((0, 0), (0, 0))))).1)), (IntKind.i64.wrap ((a0.getD v1_0.toNat (0, ((0, 0), ((0, 0), (0, 0))))).1 - (a0.getD ((IntKind.i64.wrap (v1_0 - 1)).toNat) (0, ((0, 0), ((0, 0), (0, 0))))).1)))))), (f120 (((((a0.getD ((IntKind.i64.wrap (v1_0 - 1)).toNat) (0, ((0, 0), ((0, 0), (0, 0))))).2).2).2), (((((a0.getD v1_0.toNat (0, ((0, 0), ((0, 0), (0, 0))))).2).2).2), ((IntKind.i64.wrap (a1 - (a0.getD ((IntKind.i64.wrap (v1_0 - 1)).toNat) (0, ((0, 0), ((0, 0), (0, 0))))).1)), (IntKind.i64.wrap ((a0.getD v1_0.toNat (0, ((0, 0), ((0, 0), (0, 0))))).1 - (a0.getD ((IntKind.i64.wrap (v1_0 - 1)).toNat) (0, ((0, 0), ((0, 0), (0, 0))))).1)))))))), true))
    False)
    False))
    False)))
    (again1 (IntKind.i64.wrap (v1_0 + 1))))
    False)
    (K (((0, 0), ((0, 0), (0, 0))), false)))
    (fun v1_0 => again (v1_0, ())) v.1) (0, ()))
    True) := by kernel_rfl
theorem f89_t (a0 : List (Int × (Int × Int) × (Int × Int) × Int × Int)) (a1 : Int) (hpre : f89_pre (a0, a1)) (K : (((Int × Int) × (Int × Int) × Int × Int) × Bool) → Prop) (hK : ∀ y : ((Int × Int) × (Int × Int) × Int × Int) × Bool, y = f89 (a0, a1) → K y) : RunF Try.prog f89_E f89_A 6 Try.f89 f89_e.doms f89_e.cods (a0, a1) K := by
  refine ⟨?_⟩
  rw [f89_run a0 a1 K]
  have ok : PfOK a0 := hpre
  have e0 : f89 (a0, a1) = atP a0 a1 := rfl
  have hlen := ok.len
  rw [br_true_]
  intro _
  refine LoopP.of (fun q : Int × Unit => ∃ i : Nat, i ≤ a0.length ∧ q = ((i : Int), ()) ∧ ∀ j, j < i → (a0.getD j ly0).1 < a1) (fun q => ((a0.length : Int) - q.1).toNat) (fun again q hq hag => ?_) ⟨0, by omega, rfl, fun j hj => by omega⟩
  obtain ⟨i, hi, rfl, hI⟩ := hq
  dsimp only
  have dx : ((0 : Int), ((0 : Int), (0 : Int)), ((0 : Int), (0 : Int)), ((0 : Int), (0 : Int))) = ly0 := rfl
  simp only [dx]
  refine br_if (fun hlt => ?_) fun hlt => hK _ ?_
  rotate_left
  · rw [e0, atP, fstI_none fun j hj => hI j (by omega)]; rfl
  have hlt' : i < a0.length := by omega
  have b0' : (decide (0 ≤ (i : Int)) && decide ((i : Int) < (a0.length : Int))) = true := inb (by omega) hlt
  rw [wr (n := (i : Int) + 1) (by omega) (by omega), wr (n := (i : Int) - 1) (by omega) (by omega), Int.toNat_natCast]
  refine br_must b0' (br_if (fun hg => ?_) fun hg => hag _ ⟨i + 1, by omega, by simp, fun j hj => ?_⟩ (by dsimp only; omega))
  rotate_left
  · rcases Nat.lt_or_ge j i with h1 | h1
    · exact hI j h1
    · have : j = i := by omega
      subst this; omega
  have ef : fstI a0 a1 = some i := fstI_some hlt' (by omega) hI
  have hat : atP a0 a1 = if i = 0 ∧ (a0.getD 0 ly0).1 > a1 then (b0, false) else if (a0.getD i ly0).1 = a1 then ((a0.getD i ly0).2, true) else
      (btB (a0.getD (i - 1) ly0).2 (a0.getD i ly0).2 (a1 - (a0.getD (i - 1) ly0).1) ((a0.getD i ly0).1 - (a0.getD (i - 1) ly0).1), true) := by rw [atP, ef]
  -- behind the first test
  have tail : ¬ (i = 0 ∧ (a0.getD 0 ly0).1 > a1) → br (decide (0 ≤ (i : Int)) && decide ((i : Int) < (a0.length : Int)))
      (br ((a0.getD i ly0).1 == a1)
        (br (decide (0 ≤ (i : Int)) && decide ((i : Int) < (a0.length : Int))) (K ((a0.getD i ly0).2, true)) False)
        (br (decide (0 ≤ (i : Int) - 1) && decide ((i : Int) - 1 < (a0.length : Int)))
          (br (decide (0 ≤ (i : Int)) && decide ((i : Int) < (a0.length : Int)))
            (f120_pre ((a0.getD ((i : Int) - 1).toNat ly0).2.1, (a0.getD i ly0).2.1, IntKind.i64.wrap (a1 - (a0.getD ((i : Int) - 1).toNat ly0).1), IntKind.i64.wrap ((a0.getD i ly0).1 - (a0.getD ((i : Int) - 1).toNat ly0).1)) ∧
            f120_pre ((a0.getD ((i : Int) - 1).toNat ly0).2.2.1, (a0.getD i ly0).2.2.1, IntKind.i64.wrap (a1 - (a0.getD ((i : Int) - 1).toNat ly0).1), IntKind.i64.wrap ((a0.getD i ly0).1 - (a0.getD ((i : Int) - 1).toNat ly0).1)) ∧
            f120_pre ((a0.getD ((i : Int) - 1).toNat ly0).2.2.2, (a0.getD i ly0).2.2.2, IntKind.i64.wrap (a1 - (a0.getD ((i : Int) - 1).toNat ly0).1), IntKind.i64.wrap ((a0.getD i ly0).1 - (a0.getD ((i : Int) - 1).toNat ly0).1)) ∧
            K ((f120 ((a0.getD ((i : Int) - 1).toNat ly0).2.1, (a0.getD i ly0).2.1, IntKind.i64.wrap (a1 - (a0.getD ((i : Int) - 1).toNat ly0).1), IntKind.i64.wrap ((a0.getD i ly0).1 - (a0.getD ((i : Int) - 1).toNat ly0).1)),
              f120 ((a0.getD ((i : Int) - 1).toNat ly0).2.2.1, (a0.getD i ly0).2.2.1, IntKind.i64.wrap (a1 - (a0.getD ((i : Int) - 1).toNat ly0).1), IntKind.i64.wrap ((a0.getD i ly0).1 - (a0.getD ((i : Int) - 1).toNat ly0).1)),
              f120 ((a0.getD ((i : Int) - 1).toNat ly0).2.2.2, (a0.getD i ly0).2.2.2, IntKind.i64.wrap (a1 - (a0.getD ((i : Int) - 1).toNat ly0).1), IntKind.i64.wrap ((a0.getD i ly0).1 - (a0.getD ((i : Int) - 1).toNat ly0).1))), true))
            False)
          False)) False := fun hn => by
    rw [if_neg hn] at hat
    refine br_must b0' (br_two (fun he => br_must b0' (hK _ ?_)) fun he => ?_)
    · rw [e0, hat, if_pos (beq_iff_eq.1 he)]
    · have he := beq_eq_false_iff_ne.1 he
      rw [if_neg he] at hat
      have hi0 : i ≠ 0 := fun h => by subst h; exact hn ⟨rfl, by omega⟩
      have h1 := hI (i - 1) (by omega)
      have h2 := ok.h i hlt'
      have h3 := ok.h (i - 1) (by omega)
      have w1 := ok.w i hlt'
      have w2 := ok.w (i - 1) (by omega)
      rw [show ((i : Int) - 1).toNat = i - 1 by omega, wr (n := a1 - (a0.getD (i - 1) ly0).1) (by omega) (by omega), wr (n := (a0.getD i ly0).1 - (a0.getD (i - 1) ly0).1) (by omega) (by omega)]
      have t : 0 ≤ a1 - (a0.getD (i - 1) ly0).1 ∧ a1 - (a0.getD (i - 1) ly0).1 ≤ (a0.getD i ly0).1 - (a0.getD (i - 1) ly0).1 ∧ 0 < (a0.getD i ly0).1 - (a0.getD (i - 1) ly0).1 ∧ (a0.getD i ly0).1 - (a0.getD (i - 1) ly0).1 ≤ 20000 := ⟨by omega, by omega, by omega, by omega⟩
      refine br_must (inb (by omega) (by omega)) (br_must b0' ⟨⟨w2.1, w1.1, t⟩, ⟨w2.2.1, w1.2.1, t⟩, ⟨w2.2.2, w1.2.2, t⟩, hK _ ?_⟩)
      rw [e0, hat]
      rfl
  refine br_if (fun h => absurd h (by omega)) (fun _ => br_two (fun hz => ?_) fun hz => ?_)
  · have hz : i = 0 := by have := beq_iff_eq.1 hz; omega
    refine br_must (by simp; omega) (br_if (fun h => hK _ ?_) fun h => ?_)
    · rw [e0, hat, if_pos ⟨hz, h⟩]; rfl
    · exact tail fun hh => h hh.2
  · have hz : i ≠ 0 := by have := beq_eq_false_iff_ne.1 hz; omega
    exact tail fun hh => hz hh.1
theorem f89_fn : f89_e.fn = f89 := rfl
theorem f89_ok : EntryOK Try.prog 89 f89_e := by
  refine entryF progOK (EnvOK.cons f120_ok (EnvOK.nil)) (A := f89_A) (d := 6) Try.func89 rfl rfl rfl rfl (fun h => by cases h) fun x hpre => ?_
  obtain ⟨a0, a1⟩ := x
  exact f89_t a0 a1 hpre _ fun _ h => h.trans (congrFun f89_fn.symm _)
end Go.Proofs.Ytglijnhkdnhofaa
end

section
namespace Go.Proofs.Ytglijnhkdnhofaa
open Go Go.Pi Go.RowKit
set_option maxRecDepth 100000
set_option linter.unusedVariables false
set_option linter.unusedSimpArgs false

def f39 (x : List (Int × (Int × Int) × (Int × Int) × Int × Int) × Int) : ((Int × Int) × (Int × Int) × Int × Int) × Int := windAt x.1 x.2
def f39_e : Entry := { doms := [(false, (.sl (.pair (.int .i64) (.pair (.pair (.int .i64) (.int .i64)) (.pair (.pair (.int .i64) (.int .i64)) (.pair (.int .i64) (.int .i64))))))), (false, (.int .i64))], cods := [(true, (.pair (.pair (.int .i64) (.int .i64)) (.pair (.pair (.int .i64) (.int .i64)) (.pair (.int .i64) (.int .i64))))), (false, (.int .i64))], pre := fun _ => True, fn := f39, uq := false, total := true }
def f39_E : Env := [(59, f59_e), (60, f60_e), (87, f87_e), (88, f88_e), (89, f89_e)]
def f39_A : Anns := { loops := [], own := [] }
theorem f39_run (a0 : List (Int × (Int × Int) × (Int × Int) × Int × Int)) (a1 : Int) (K : (((Int × Int) × (Int × Int) × Int × Int) × Int) → Prop) : runF Try.prog f39_E f39_A 6 Try.f39 f39_e.doms f39_e.cods (a0, a1) K =
    (br ((f59 ([(f87 a0).2, (f88 a1)] : List Int)) != 0)
    (K (((0, 0), ((0, 0), (0, 0))), (f59 ([(f87 a0).2, (f88 a1)] : List Int))))
    (f89_pre (a0, a1) ∧
    K (((((f89 (a0, a1)).1).1), (((((f89 (a0, a1)).1).2).1), ((((f89 (a0, a1)).1).2).2))), (f60 ((f89 (a0, a1)).2, 6))))) := by kernel_rfl
theorem f39_t (a0 : List (Int × (Int × Int) × (Int × Int) × Int × Int)) (a1 : Int) (K : (((Int × Int) × (Int × Int) × Int × Int) × Int) → Prop) (hK : ∀ y : ((Int × Int) × (Int × Int) × Int × Int) × Int, y = f39 (a0, a1) → K y) : RunF Try.prog f39_E f39_A 6 Try.f39 f39_e.doms f39_e.cods (a0, a1) K := by
  refine ⟨?_⟩
  rw [f39_run a0 a1 K]
  have e0 : f39 (a0, a1) = windAt a0 a1 := rfl
  have e : f59 [(f87 a0).2, f88 a1] = if (pfOf a0).2 ≠ 0 then (pfOf a0).2 else hE a1 := by
    rw [f59_cons, f59_cons, f59_nil]
    show (if (pfOf a0).2 = 0 then if hE a1 = 0 then 0 else hE a1 else (pfOf a0).2) = _
    by_cases h1 : (pfOf a0).2 = 0 <;> by_cases h2 : hE a1 = 0 <;> simp [h1, h2]
  rw [e]
  by_cases h1 : (pfOf a0).2 ≠ 0
  · rw [if_pos h1]
    exact br_two (fun _ => hK _ (by rw [e0, windAt, if_pos h1]; rfl)) fun h => absurd (bne_f.1 h) h1
  · rw [if_neg h1]
    refine br_two (fun h => hK _ ?_) fun h => ⟨pfOf_ok (Classical.byContradiction h1), hK _ ?_⟩
    · rw [e0, windAt, if_neg h1, if_pos (bne_t.1 h)]; rfl
    · have h := bne_f.1 h
      rw [e0, windAt, if_neg h1, if_neg (fun hh => hh h)]
      show ((atP a0 a1).1, f60 ((atP a0 a1).2, 6)) = _
      cases h2 : (atP a0 a1).2 with
      | true => rw [if_neg (by simp)]; rfl
      | false =>
        rw [if_pos rfl, f60]
        have : (atP a0 a1).1 = b0 := by
          unfold atP at h2 ⊢
          split at h2
          · rfl
          · split at h2
            · rename_i h3; rw [if_pos h3]
            · split at h2 <;> cases h2
        rw [this]; rfl
theorem f39_fn : f39_e.fn = f39 := rfl
theorem f39_ok : EntryOK Try.prog 39 f39_e := by
  refine entryF progOK (EnvOK.cons f59_ok (EnvOK.cons f60_ok (EnvOK.cons f87_ok (EnvOK.cons f88_ok (EnvOK.cons f89_ok (EnvOK.nil)))))) (A := f39_A) (d := 6) Try.func39 rfl rfl rfl rfl (fun _ _ => trivial) fun x hpre => ?_
  obtain ⟨a0, a1⟩ := x
  exact f39_t a0 a1 _ fun _ h => h.trans (congrFun f39_fn.symm _)
end Go.Proofs.Ytglijnhkdnhofaa
end

section
namespace Go.Proofs.Ytglijnhkdnhofaa
open Go Go.Pi Go.RowKit
set_option maxRecDepth 100000
set_option linter.unusedVariables false
set_option linter.unusedSimpArgs false

def f40 (l : List (Int × (Int × Int) × (Int × Int) × Int × Int)) : List (Int × (Int × Int) × (Int × Int) × Int × Int) := l
def f40_pre (l : List (Int × (Int × Int) × (Int × Int) × Int × Int)) : Prop := l.length ≤ 1048576
def f40_e : Entry := { doms := [(false, (.sl (.pair (.int .i64) (.pair (.pair (.int .i64) (.int .i64)) (.pair (.pair (.int .i64) (.int .i64)) (.pair (.int .i64) (.int .i64)))))))], cods := [(false, (.sl (.pair (.int .i64) (.pair (.pair (.int .i64) (.int .i64)) (.pair (.pair (.int .i64) (.int .i64)) (.pair (.int .i64) (.int .i64)))))))], pre := f40_pre, fn := f40, uq := true, total := false }
def f40_E : Env := []
def f40_A : Anns := { loops := [], own := [1049600] }
theorem f40_run (a0 : List (Int × (Int × Int) × (Int × Int) × Int × Int)) (K : (List (Int × (Int × Int) × (Int × Int) × Int × Int)) → Prop) : runU Try.prog f40_E f40_A 6 Try.f40 f40_e.doms f40_e.cods a0 K =
    (br (roomOk (0 + (a0.length)) 56)
    (K (([] : List (Int × (Int × Int) × (Int × Int) × Int × Int)) ++ a0))
    False) := by kernel_rfl
theorem f40_t (a0 : List (Int × (Int × Int) × (Int × Int) × Int × Int)) (hpre : f40_pre a0) (K : (List (Int × (Int × Int) × (Int × Int) × Int × Int)) → Prop) (hK : ∀ y : List (Int × (Int × Int) × (Int × Int) × Int × Int), y = f40 a0 → K y) : RunU Try.prog f40_E f40_A 6 Try.f40 f40_e.doms f40_e.cods a0 K := by
  refine ⟨?_⟩
  rw [f40_run a0 K]
  simp only [br_false_, roomOk_iff]
  have : a0.length ≤ 1048576 := hpre
  exact ⟨by omega, hK _ (by simp [f40])⟩
theorem f40_fn : f40_e.fn = f40 := rfl
theorem f40_ok : EntryOK Try.prog 40 f40_e := by
  refine entryFU progOK (EnvOK.nil) (A := f40_A) (d := 6) Try.func40 rfl rfl rfl (fun h => by cases h) fun x hpre => ?_
  exact f40_t x hpre _ fun _ h => h.trans (congrFun f40_fn.symm _)
end Go.Proofs.Ytglijnhkdnhofaa
end

section
namespace Go.Proofs.Ytglijnhkdnhofaa
open Go Go.Pi Go.RowKit
set_option maxRecDepth 100000
set_option linter.unusedVariables false
set_option linter.unusedSimpArgs false

instance (r a b : R2) : Decidable (lies r a b) := inferInstanceAs (Decidable (_ ∧ _ ∧ _))
def f41 (x : (Int × Int) × (Int × Int) × Int × Int) : Bool := decide (lies x.1 x.2.1 x.2.2)
theorem mm_min (a b : Int) : minmax false a b = min a b := by simp only [minmax]; rw [Int.min_def]; split <;> split <;> omega
theorem mm_max (a b : Int) : minmax true a b = max a b := by simp only [minmax]; rw [Int.max_def]; split <;> split <;> omega
def f41_e : Entry := { doms := [(true, (.pair (.int .i64) (.int .i64))), (true, (.pair (.int .i64) (.int .i64))), (true, (.pair (.int .i64) (.int .i64)))], cods := [(false, .bool)], pre := fun _ => True, fn := f41, uq := false, total := true }
def f41_E : Env := []
def f41_A : Anns := { loops := [], own := [] }
theorem f41_run (a0 : Int × Int) (a1 : Int × Int) (a2 : Int × Int) (K : Bool → Prop) : runF Try.prog f41_E f41_A 6 Try.f41 f41_e.doms f41_e.cods (a0, a1, a2) K =
    (br (decide ((minmax false a1.1 a2.1) ≤ a0.1))
    (br (decide (a0.1 ≤ a0.2))
    (K (decide (a0.2 ≤ (minmax true a1.2 a2.2))))
    (K false))
    (K false)) := by kernel_rfl
theorem f41_t (a0 : Int × Int) (a1 : Int × Int) (a2 : Int × Int) (K : Bool → Prop) (hK : ∀ y : Bool, y = f41 (a0, a1, a2) → K y) : RunF Try.prog f41_E f41_A 6 Try.f41 f41_e.doms f41_e.cods (a0, a1, a2) K := by
  refine ⟨?_⟩
  rw [f41_run a0 a1 a2 K]
  rw [mm_min, mm_max]
  have e0 : f41 (a0, a1, a2) = decide (min a1.1 a2.1 ≤ a0.1 ∧ a0.1 ≤ a0.2 ∧ a0.2 ≤ max a1.2 a2.2) := rfl
  refine br_if (fun h1 => br_if (fun h2 => hK _ ?_) fun h2 => hK _ ?_) fun h1 => hK _ ?_
  · rw [e0]; simp [h1, h2]
  · rw [e0]; simp [h2]
  · rw [e0]; simp [h1]
theorem f41_fn : f41_e.fn = f41 := rfl
theorem f41_ok : EntryOK Try.prog 41 f41_e := by
  refine entryF progOK (EnvOK.nil) (A := f41_A) (d := 6) Try.func41 rfl rfl rfl rfl (fun _ _ => trivial) fun x hpre => ?_
  obtain ⟨a0, a1, a2⟩ := x
  exact f41_t a0 a1 a2 _ fun _ h => h.trans (congrFun f41_fn.symm _)
end Go.Proofs.Ytglijnhkdnhofaa
end

section
namespace Go.Proofs.Ytglijnhkdnhofaa
open Go Go.Pi Go.RowKit
set_option maxRecDepth 100000
set_option linter.unusedVariables false
set_option linter.unusedSimpArgs false

def f42 (x : List (Int × (Int × Int) × (Int × Int) × Int × Int) × Int × Int) : ((Int × Int) × (Int × Int) × Int × Int) × Int := chgIn x.1 x.2
def f42_e : Entry := { doms := [(false, (.sl (.pair (.int .i64) (.pair (.pair (.int .i64) (.int .i64)) (.pair (.pair (.int .i64) (.int .i64)) (.pair (.int .i64) (.int .i64))))))), (true, (.pair (.int .i64) (.int .i64)))], cods := [(true, (.pair (.pair (.int .i64) (.int .i64)) (.pair (.pair (.int .i64) (.int .i64)) (.pair (.int .i64) (.int .i64))))), (false, (.int .i64))], pre := fun _ => True, fn := f42, uq := false, total := true }
def f42_E : Env := [(59, f59_e), (60, f60_e), (62, f62_e), (87, f87_e), (88, f88_e), (89, f89_e)]
def f42_A : Anns := { loops := [], own := [] }
theorem f42_run (a0 : List (Int × (Int × Int) × (Int × Int) × Int × Int)) (a1 : Int × Int) (K : (((Int × Int) × (Int × Int) × Int × Int) × Int) → Prop) : runF Try.prog f42_E f42_A 6 Try.f42 f42_e.doms f42_e.cods (a0, a1) K =
    (br ((f59 ([(f87 a0).2, (f88 a1.1), (f88 a1.2), (f60 ((decide (a1.1 ≤ a1.2)), 9))] : List Int)) != 0)
    (K (((0, 0), ((0, 0), (0, 0))), (f59 ([(f87 a0).2, (f88 a1.1), (f88 a1.2), (f60 ((decide (a1.1 ≤ a1.2)), 9))] : List Int))))
    (f89_pre (a0, a1.1) ∧
    f89_pre (a0, a1.2) ∧
    br (!(f89 (a0, a1.1)).2)
    (K (((0, 0), ((0, 0), (0, 0))), 6))
    (br (!(f89 (a0, a1.2)).2)
    (K (((0, 0), ((0, 0), (0, 0))), 6))
    (K (((f62 ((((f89 (a0, a1.2)).1).1), (((f89 (a0, a1.1)).1).1))), ((f62 (((((f89 (a0, a1.2)).1).2).1), ((((f89 (a0, a1.1)).1).2).1))), (f62 (((((f89 (a0, a1.2)).1).2).2), ((((f89 (a0, a1.1)).1).2).2))))), 0))))) := by kernel_rfl
theorem f42_t (a0 : List (Int × (Int × Int) × (Int × Int) × Int × Int)) (a1 : Int × Int) (K : (((Int × Int) × (Int × Int) × Int × Int) × Int) → Prop) (hK : ∀ y : ((Int × Int) × (Int × Int) × Int × Int) × Int, y = f42 (a0, a1) → K y) : RunF Try.prog f42_E f42_A 6 Try.f42 f42_e.doms f42_e.cods (a0, a1) K := by
  refine ⟨?_⟩
  rw [f42_run a0 a1 K]
  have e0 : f42 (a0, a1) = chgIn a0 a1 := rfl
  have e : f59 [(f87 a0).2, f88 a1.1, f88 a1.2, f60 (decide (a1.1 ≤ a1.2), 9)] = chgE a0 a1 := by
    show frst [(pfOf a0).2, hE a1.1, hE a1.2, f60 (decide (a1.1 ≤ a1.2), 9)] = _
    rw [chgE, f60]
    by_cases h : a1.1 ≤ a1.2 <;> simp [h]
  rw [e]
  refine br_two (fun h => hK _ (by rw [e0, chgIn, if_pos (bne_t.1 h)]; rfl)) fun h => ?_
  have h := bne_f.1 h
  have ok : PfOK a0 := by
    refine pfOf_ok ?_
    unfold chgE at h
    rw [frst_cons] at h
    by_cases h1 : (pfOf a0).2 = 0
    · exact h1
    · rw [if_neg h1] at h; exact absurd h h1
  have q1 : f89 (a0, a1.1) = atP a0 a1.1 := rfl
  have q2 : f89 (a0, a1.2) = atP a0 a1.2 := rfl
  rw [q1, q2]
  refine ⟨ok, ok, br_two (fun h2 => hK _ ?_) fun h2 => br_two (fun h3 => hK _ ?_) fun h3 => hK _ ?_⟩
  · rw [e0, chgIn, if_neg (fun hh => hh h), if_pos (by simpa using h2)]; rfl
  · rw [e0, chgIn, if_neg (fun hh => hh h), if_neg (by simpa using h2), if_pos (by simpa using h3)]; rfl
  · have h2 : (atP a0 a1.1).2 = true := by simpa using h2
    have h3 : (atP a0 a1.2).2 = true := by simpa using h3
    rw [e0, chgIn, if_neg (fun hh => hh h), if_neg (by rw [h2]; simp), if_neg (by rw [h3]; simp)]
    -- what was found is in its bounds
    have bnd : ∀ x : Int, (atP a0 x).2 = true → bOK (atP a0 x).1 := fun x hx => by
      unfold atP at hx ⊢
      split at hx
      · cases hx
      · rename_i i hi
        obtain ⟨k1, k2, k3⟩ := fstI_inv hi
        split at hx
        · cases hx
        · rename_i k4
          rw [if_neg k4]
          split at hx
          · rename_i k5
            rw [if_pos k5]; exact ok.w i k1
          · rename_i k5
            rw [if_neg k5]
            have hi0 : i ≠ 0 := fun h => by subst h; exact k4 ⟨rfl, by omega⟩
            have := k3 (i - 1) (by omega)
            exact btB_ok (ok.w _ (by omega)) (ok.w i k1) (by omega) (by omega) (by omega)
    have b1 := bnd _ h2
    have b2 := bnd _ h3
    have m : ∀ p q : Int × Int, rOK p → rOK q → f62 (p, q) = mns p q := fun p q hp hq => by
      obtain ⟨p1, p2, p3⟩ := hp
      obtain ⟨q1, q2, q3⟩ := hq
      show (w64 (p.1 - q.2), w64 (p.2 - q.1)) = (p.1 - q.2, p.2 - q.1)
      rw [w64_in (by omega) (by omega), w64_in (by omega) (by omega)]
    have m1 := m _ _ b2.1 b1.1
    have m2 := m _ _ b2.2.1 b1.2.1
    have m3 := m _ _ b2.2.2 b1.2.2
    show ((f62 ((atP a0 a1.2).1.1, (atP a0 a1.1).1.1), f62 ((atP a0 a1.2).1.2.1, (atP a0 a1.1).1.2.1), f62 ((atP a0 a1.2).1.2.2, (atP a0 a1.1).1.2.2)), (0 : Int)) = _
    rw [m1, m2, m3]; rfl
theorem f42_fn : f42_e.fn = f42 := rfl
theorem f42_ok : EntryOK Try.prog 42 f42_e := by
  refine entryF progOK (EnvOK.cons f59_ok (EnvOK.cons f60_ok (EnvOK.cons f62_ok (EnvOK.cons f87_ok (EnvOK.cons f88_ok (EnvOK.cons f89_ok (EnvOK.nil))))))) (A := f42_A) (d := 6) Try.func42 rfl rfl rfl rfl (fun _ _ => trivial) fun x hpre => ?_
  obtain ⟨a0, a1⟩ := x
  exact f42_t a0 a1 _ fun _ h => h.trans (congrFun f42_fn.symm _)
end Go.Proofs.Ytglijnhkdnhofaa
end

section
namespace Go.Proofs.Ytglijnhkdnhofaa
open Go Go.Pi Go.RowKit
set_option maxRecDepth 100000
set_option linter.unusedVariables false
set_option linter.unusedSimpArgs false

def cont (a b r : Int × Int) : Prop := ((-1000000 ≤ a.1 ∧ a.1 ≤ 1000000) ∧ (-1000000 ≤ a.2 ∧ a.2 ≤ 1000000) ∧ (-1000000 ≤ b.1 ∧ b.1 ≤ 1000000) ∧ (-1000000 ≤ b.2 ∧ b.2 ≤ 1000000)) ∧ a.1 + b.1 ≤ r.1 ∧ r.2 ≤ a.2 + b.2
instance (a b r : Int × Int) : Decidable (cont a b r) := inferInstanceAs (Decidable (_ ∧ _ ∧ _))
def f43 (x : (Int × Int) × (Int × Int) × Int × Int) : Bool := decide (cont x.1 x.2.1 x.2.2)
def f43_e : Entry := { doms := [(true, (.pair (.int .i64) (.int .i64))), (true, (.pair (.int .i64) (.int .i64))), (true, (.pair (.int .i64) (.int .i64)))], cods := [(false, .bool)], pre := fun _ => True, fn := f43, uq := false, total := true }
def f43_E : Env := [(35, f35_e)]
def f43_A : Anns := { loops := [], own := [] }
theorem f43_run (a0 : Int × Int) (a1 : Int × Int) (a2 : Int × Int) (K : Bool → Prop) : runF Try.prog f43_E f43_A 6 Try.f43 f43_e.doms f43_e.cods (a0, a1, a2) K =
    (br (!(f35 (a0.1, ((-1000000), 1000000))))
    (K false)
    (br (!(f35 (a0.2, ((-1000000), 1000000))))
    (K false)
    (br (!(f35 (a1.1, ((-1000000), 1000000))))
    (K false)
    (br (!(f35 (a1.2, ((-1000000), 1000000))))
    (K false)
    (br (decide ((IntKind.i64.wrap (a0.1 + a1.1)) ≤ a2.1))
    (K (decide (a2.2 ≤ (IntKind.i64.wrap (a0.2 + a1.2)))))
    (K false)))))) := by kernel_rfl
theorem f43_t (a0 : Int × Int) (a1 : Int × Int) (a2 : Int × Int) (K : Bool → Prop) (hK : ∀ y : Bool, y = f43 (a0, a1, a2) → K y) : RunF Try.prog f43_E f43_A 6 Try.f43 f43_e.doms f43_e.cods (a0, a1, a2) K := by
  refine ⟨?_⟩
  rw [f43_run a0 a1 a2 K]
  have e35 : ∀ n : Int, f35 (n, -1000000, 1000000) = decide (-1000000 ≤ n ∧ n ≤ 1000000) := fun n => by simp [f35]
  have e0 : f43 (a0, a1, a2) = decide (cont a0 a1 a2) := rfl
  simp only [e35]
  have no : ¬ cont a0 a1 a2 → K false := fun h => hK _ (by rw [e0, decide_eq_false h])
  refine br_two (fun h => no fun hh => nd_t.1 h hh.1.1) fun h1 => br_two (fun h => no fun hh => nd_t.1 h hh.1.2.1) fun h2 => br_two (fun h => no fun hh => nd_t.1 h hh.1.2.2.1) fun h3 => br_two (fun h => no fun hh => nd_t.1 h hh.1.2.2.2) fun h4 => ?_
  have h1 := nd_f.1 h1
  have h2 := nd_f.1 h2
  have h3 := nd_f.1 h3
  have h4 := nd_f.1 h4
  rw [wr (n := a0.1 + a1.1) (by omega) (by omega), wr (n := a0.2 + a1.2) (by omega) (by omega)]
  refine br_if (fun h5 => hK _ ?_) fun h5 => no fun hh => h5 hh.2.1
  rw [e0, Bool.eq_iff_iff, decide_eq_true_iff, decide_eq_true_iff]
  exact ⟨fun h6 => ⟨⟨h1, h2, h3, h4⟩, h5, h6⟩, fun hh => hh.2.2⟩
theorem f43_fn : f43_e.fn = f43 := rfl
theorem f43_ok : EntryOK Try.prog 43 f43_e := by
  refine entryF progOK (EnvOK.cons f35_ok (EnvOK.nil)) (A := f43_A) (d := 6) Try.func43 rfl rfl rfl rfl (fun _ _ => trivial) fun x hpre => ?_
  obtain ⟨a0, a1, a2⟩ := x
  exact f43_t a0 a1 a2 _ fun _ h => h.trans (congrFun f43_fn.symm _)
end Go.Proofs.Ytglijnhkdnhofaa
end
