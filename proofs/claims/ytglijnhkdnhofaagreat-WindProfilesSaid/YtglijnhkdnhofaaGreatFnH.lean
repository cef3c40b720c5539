/- What functions of the program compute, each proved once, part 8. -/
import Derived.Test.YtglijnhkdnhofaaGreatPiD
import Derived.Test.YtglijnhkdnhofaaGreatFnA
import Derived.Test.YtglijnhkdnhofaaGreatFnG
import Derived.Test.YtglijnhkdnhofaaGreatFnC

section
namespace Go.Proofs.YtglijnhkdnhofaaGreat
open Go Go.Pi Go.RowKit
set_option maxRecDepth 100000
set_option linter.unusedVariables false
set_option linter.unusedSimpArgs false

def f103 (x : List (Int × (Int × Int) × (Int × Int) × Int × Int) × Int) : ((Int × Int) × (Int × Int) × Int × Int) × Bool := atP x.1 x.2
def f103_pre (x : List (Int × (Int × Int) × (Int × Int) × Int × Int) × Int) : Prop := PfOK x.1
def f103_e : Entry := { doms := [(false, (.sl (.pair (.int .i64) (.pair (.pair (.int .i64) (.int .i64)) (.pair (.pair (.int .i64) (.int .i64)) (.pair (.int .i64) (.int .i64))))))), (false, (.int .i64))], cods := [(true, (.pair (.pair (.int .i64) (.int .i64)) (.pair (.pair (.int .i64) (.int .i64)) (.pair (.int .i64) (.int .i64))))), (false, .bool)], pre := f103_pre, fn := f103, uq := false, total := false }
def f103_E : Env := [(141, f141_e)]
def f103_A : Anns := { loops := [(1100587466752, { tms := [(0, .keep), (1, .keep), (7, .keep), (8, .data false (.int .i64))], obs := [(1048576, .keep), (1048577, .keep)], fz := [] })], own := [1055621, 2723573831664727009859197972367564711199896261164974086464368512464760725722200896370531213819806494812558716671643990942030726, 2723576413914605096767787628286736714211770590870766915687881343124117266369822913211725843465159774950390152574815963689524102] }
theorem f103_run (a0 : List (Int × (Int × Int) × (Int × Int) × Int × Int)) (a1 : Int) (K : (((Int × Int) × (Int × Int) × Int × Int) × Bool) → Prop) : runF Tryz.prog f103_E f103_A 6 Tryz.f103 f103_e.doms f103_e.cods (a0, a1) K =
    (br (lenOk (a0.length))
    (LoopP (V := Int × Unit) (fun again v => (fun (again1 : Int → Prop) (v1_0 : Int) =>
    br (decide (v1_0 < ((a0.length) : Int)))
    (br (decide (0 ≤ v1_0) && decide (v1_0 < ((a0.length) : Int)))
    (br (decide ((a0.getD v1_0.toNat (0, ((0, 0), ((0, 0), (0, 0))))).1 ≥ a1))
    (br (decide (v1_0 < 0))
    (K (((0, 0), ((0, 0), (0, 0))), false))
    (br (v1_0 == 0)
    (br (decide (0 ≤ 0) && decide (0 < ((a0.length) : Int)))
    (br (decide ((a0.getD 0 (0, ((0, 0), ((0, 0), (0, 0))))).1 > a1))
    (K (((0, 0), ((0, 0), (0, 0))), false))
    (br (decide (0 ≤ v1_0) && decide (v1_0 < ((a0.length) : Int)))
    (br ((a0.getD v1_0.toNat (0, ((0, 0), ((0, 0), (0, 0))))).1 == a1)
    (br (decide (0 ≤ v1_0) && decide (v1_0 < ((a0.length) : Int)))
    (K (((((a0.getD v1_0.toNat (0, ((0, 0), ((0, 0), (0, 0))))).2).1), (((((a0.getD v1_0.toNat (0, ((0, 0), ((0, 0), (0, 0))))).2).2).1), ((((a0.getD v1_0.toNat (0, ((0, 0), ((0, 0), (0, 0))))).2).2).2))), true))
    False)
    (br (decide (0 ≤ (IntKind.i64.wrap (v1_0 - 1))) && decide ((IntKind.i64.wrap (v1_0 - 1)) < ((a0.length) : Int)))
    (br (decide (0 ≤ v1_0) && decide (v1_0 < ((a0.length) : Int)))
    (f141_pre ((((a0.getD ((IntKind.i64.wrap (v1_0 - 1)).toNat) (0, ((0, 0), ((0, 0), (0, 0))))).2).1), ((((a0.getD v1_0.toNat (0, ((0, 0), ((0, 0), (0, 0))))).2).1), ((IntKind.i64.wrap (a1 - (a0.getD ((IntKind.i64.wrap (v1_0 - 1)).toNat) (0, ((0, 0), ((0, 0), (0, 0))))).1)), (IntKind.i64.wrap ((a0.getD v1_0.toNat (0, ((0, 0), ((0, 0), (0, 0))))).1 - (a0.getD ((IntKind.i64.wrap (v1_0 - 1)).toNat) (0, ((0, 0), ((0, 0), (0, 0))))).1))))) ∧
    f141_pre (((((a0.getD ((IntKind.i64.wrap (v1_0 - 1)).toNat) (0, ((0, 0), ((0, 0), (0, 0))))).2).2).1), (((((a0.getD v1_0.toNat (0, ((0, 0), ((0, 0), (0, 0))))).2).2).1), ((IntKind.i64.wrap (a1 - (a0.getD ((IntKind.i64.wrap (v1_0 - 1)).toNat) (0, ((0, 0), ((0, 0), (0, 0))))).1)), (IntKind.i64.wrap ((a0.getD v1_0.toNat (0, ((0, 0), ((0, 0), (0, 0))))).1 - (a0.getD ((IntKind.i64.wrap (v1_0 - 1)).toNat) (0, ((0, 0), ((0, 0), (0, 0))))).1))))) ∧
    f141_pre (((((a0.getD ((IntKind.i64.wrap (v1_0 - 1)).toNat) (0, ((0, 0), ((0, 0), (0, 0))))).2).2).2), (((((a0.getD v1_0.toNat (0, ((0, 0), ((0, 0), (0, 0))))).2).2).2), ((IntKind.i64.wrap (a1 - (a0.getD ((IntKind.i64.wrap (v1_0 - 1)).toNat) (0, ((0, 0), ((0, 0), (0, 0))))).1)), (IntKind.i64.wrap ((a0.getD v1_0.toNat (0, ((0, 0), ((0, 0), (0, 0))))).1 - (a0.getD ((IntKind.i64.wrap (v1_0 - 1)).toNat) (0, ((0, 0), ((0, 0), (0, 0))))).1))))) ∧
    K (((f141 ((((a0.getD ((IntKind.i64.wrap (v1_0 - 1)).toNat) (0, ((0, 0), ((0, 0), (0, 0))))).2).1), ((((a0.getD v1_0.toNat (0, ((0, 0), ((0, 0), (0, 0))))).2).1), ((IntKind.i64.wrap (a1 - (a0.getD ((IntKind.i64.wrap (v1_0 - 1)).toNat) (0, ((0, 0), ((0, 0), (0, 0))))).1)), (IntKind.i64.wrap ((a0.getD v1_0.toNat (0, ((0, 0), ((0, 0), (0, 0))))).1 - (a0.getD ((IntKind.i64.wrap (v1_0 - 1)).toNat) (0, ((0, 0), ((0, 0), (0, 0))))).1)))))), ((f141 (((((a0.getD ((IntKind.i64.wrap (v1_0 - 1)).toNat) (0, ((0, 0), ((0, 0), (0, 0))))).2).2).1), (((((a0.getD v1_0.toNat (0, ((0, 0), ((0, 0), (0, 0))))).2).2).1), ((IntKind.i64.wrap (a1 - (a0.getD ((IntKind.i64.wrap (v1_0 - 1)).toNat) (0, ((0, 0), ((0, 0), (0, 0))))).1)), (IntKind.i64.wrap ((a0.getD v1_0.toNat (0, ((0, 0), ((0, 0), (0, 0))))).1 - (a0.getD ((IntKind.i64.wrap (v1_0 - 1)).toNat) (0, ((0, 0), ((0, 0), (0, 0))))).1)))))), (f141 (((((a0.getD ((IntKind.i64.wrap (v1_0 - 1)).toNat) (0, ((0, 0), ((0, 0), (0, 0))))).2).2).2), (((((a0.getD v1_0.toNat (0, ((0, 0), ((0, 0), (0, 0))))).2).2).2), ((IntKind.i64.wrap (a1 - (a0.getD ((IntKind.i64.wrap (v1_0 - 1)).toNat) (0, ((0, 0), ((0, 0), (0, 0))))).1)), (IntKind.i64.wrap ((a0.getD v1_0.toNat (0, ((0, 0), ((0, 0), (0, 0))))).1 - (a0.getD ((IntKind.i64.wrap (v1_0 - 1)).toNat) (0, ((0, 0), ((0, 0), (0, 0))))).1)))))))), true))
    False)
    False))
    False))
    False)
    (br (decide (0 ≤ v1_0) && decide (v1_0 < ((a0.length) : Int)))
    (br ((a0.getD v1_0.toNat (0, ((0, 0), ((0, 0), (0, 0))))).1 == a1)
    (br (decide (0 ≤ v1_0) && decide (v1_0 < ((a0.length) : Int)))
    (K (((((a0.getD v1_0.toNat (0, ((0, 0), ((0, 0), (0, 0))))).2).1), (((((a0.getD v1_0.toNat (0, ((0, 0), ((0, 0), (0, 0))))).2).2).1), ((((a0.getD v1_0.toNat (0, ((0, 0), ((0, 0), (0, 0))))).2).2).2))), true))
    False)
    (br (decide (0 ≤ (IntKind.i64.wrap (v1_0 - 1))) && decide ((IntKind.i64.wrap (v1_0 - 1)) < ((a0.length) : Int)))
    (br (decide (0 ≤ v1_0) && decide (v1_0 < ((a0.length) : Int)))
    (f141_pre ((((a0.getD ((IntKind.i64.wrap (v1_0 - 1)).toNat) (0, ((0, 0), ((0, 0), (0, 0))))).2).1), ((((a0.getD v1_0.toNat (0, ((0, 0), ((0, 0), (0, 0))))).2).1), ((IntKind.i64.wrap (a1 - (a0.getD ((IntKind.i64.wrap (v1_0 - 1)).toNat) (0, ((0, 0), ((0, 0), (0, 0))))).1)), (IntKind.i64.wrap ((a0.getD v1_0.toNat (0, ((0, 0), ((0, 0), (0, 0))))).1 - (a0.getD ((IntKind.i64.wrap (v1_0 - 1)).toNat) (0, ((0, 0), ((0, 0), (0, 0))))).1))))) ∧
    f141_pre (((((a0.getD ((IntKind.i64.wrap (v1_0 - 1)).toNat) (0, ((0, 0), ((0, 0), (0, 0))))).2).2).1), (((((a0.getD v1_0.toNat (0, ((0, 0), ((0, 0), (0, 0))))).2).2).1), ((IntKind.i64.wrap (a1 - (a0.getD ((IntKind.i64.wrap (v1_0 - 1)).toNat) (0, ((0, 0), ((0, 0), (0, 0))))).1)), (IntKind.i64.wrap ((a0.getD v1_0.toNat (0, ((0, 0), ((0, 0), (0, 0))))).1 - (a0.getD ((IntKind.i64.wrap (v1_0 - 1)).toNat) (0, ((0, 0), ((0, 0), (0, 0))))).1))))) ∧
    f141_pre (((((a0.getD ((IntKind.i64.wrap (v1_0 - 1)).toNat) (0, ((0, 0), ((0, 0), (0, 0))))).2).2).2), (((((a0.getD v1_0.toNat (0, ((0, 0), ((0, 0), (0, 0))))).2).2).2), ((IntKind.i64.wrap (a1 - (a0.getD ((IntKind.i64.wrap (v1_0 - 1)).toNat) (0, ((0, 0), ((0, 0), (0, 0))))).1)), (IntKind.i64.wrap ((a0.getD v1_0.toNat (0, ((0, 0), ((0, 0), (0, 0))))).1 - (a0.getD ((IntKind.i64.wrap (v1_0 - 1)).toNat) (0, ((0, 0), ((0, 0), (0, 0))))).1))))) ∧
    K (((f141 ((((a0.getD ((IntKind.i64.wrap (v1_0 - 1)).toNat) (0, ((0, 0), ((0, 0), (0, 0))))).2).1), ((((a0.getD v1_0.toNat (0, ((0, 0), ((0, 0), (0, 0))))).2).1), ((IntKind.i64.wrap (a1 - (a0.getD ((IntKind.i64.wrap (v1_0 - 1)).toNat) (0, ((0, 0), ((0, 0), (0, 0))))).1)), (IntKind.i64.wrap ((a0.getD v1_0.toNat (0, ((0, 0), ((0, 0), (0, 0))))).1 - (a0.getD ((IntKind.i64.wrap (v1_0 - 1)).toNat) (0, ((0, 0), ((0, 0), (0, 0))))).1)))))), ((f141 (((((a0.getD ((IntKind.i64.wrap (v1_0 - 1)).toNat) (0, ((0, 0), ((0, 0), (0, 0))))).2).2).1), (((((a0.getD v1_0.toNat (0, ((0, 0), ((0, 0), (0, 0))))).2).2).1), ((IntKind.i64.wrap (a1 - (a0.getD ((IntKind.i64.wrap (v1_0 - 1)).toNat) (0, ((0, 0), ((0, 0), (0, 0))))).1)), (IntKind.i64.wrap ((a0.getD v1_0.toNat (0, ((0, 0), ((0, 0), (0, 0))))).1 - (a0.getD ((IntKind.i64.wrap (v1_0 - 1)).toNat) (0, ((0, 0), ((0, 0), (0, 0))))).1)))))), (f141 (((((a0.getD ((IntKind.i64.wrap (v1_0 - 1)).toNat) (0, ((0, 0), ((0, 0), (0, 0))))).2).2).2), (((((a0.getD v1_0.toNat (0, ((0, 0), ((0, 0), (0, 0))))).2).2).2), ((IntKind.i64.wrap (a1 - (a0.getD ((IntKind.i64.wrap (v1_0 - 1)).toNat) (0, ((0, 0), ((0, 0), (0, 0))))).1)), (IntKind.i64.wrap ((a0.getD v1_0.toNat (0, ((0, 0), ((0, 0), (0, 0))))).1 - (a0.getD ((IntKind.i64.wrap (v1_0 - 1)).toNat) (0, ((0, 0), ((0, 0), (0, 0))))).1)))))))), true))
    False)
    False))
    False)))
    (again1 (IntKind.i64.wrap (v1_0 + 1))))
    False)
    (K (((0, 0), ((0, 0), (0, 0))), false)))
    (fun v1_0 => again (v1_0, ())) v.1) (0, ()))
    True) := by kernel_rfl
theorem f103_t (a0 : List (Int × (Int × Int) × (Int × Int) × Int × Int)) (a1 : Int) (hpre : f103_pre (a0, a1)) (K : (((Int × Int) × (Int × Int) × Int × Int) × Bool) → Prop) (hK : ∀ y : ((Int × Int) × (Int × Int) × Int × Int) × Bool, y = f103 (a0, a1) → K y) : RunF Tryz.prog f103_E f103_A 6 Tryz.f103 f103_e.doms f103_e.cods (a0, a1) K := by
  refine ⟨?_⟩
  rw [f103_run a0 a1 K]
  have ok : PfOK a0 := hpre
  have e0 : f103 (a0, a1) = atP a0 a1 := rfl
  have hlen := ok.len
  rw [br_true_]
  intro _
  refine LoopP.of (fun q : Int × Unit => ∃ i : Nat, i ≤ a0.length ∧ q = ((i : Int), ()) ∧ ∀ j, j < i → (a0.getD j ly0).1 < a1) (fun q => ((a0.length : Int) - q.1).toNat) (fun again q hq hag => ?_) ⟨0, by omega, rfl, fun j hj => by omega⟩
  obtain ⟨i, hi, rfl, hI⟩ := hq
  dsimp only
  have dx : ((0 : Int), ((0 : Int), (0 : Int)), ((0 : Int), (0 : Int)), ((0 : Int), (0 : Int))) = ly0 := rfl
  simp only [dx]
  refine br_if (fun hlt => ?_) fun hlt => hK _ ?_
  rotate_left
  · rw [e0, atP, fstI_none fun j hj => hI j (by omega)]; rfl
  have hlt' : i < a0.length := by omega
  have b0' : (decide (0 ≤ (i : Int)) && decide ((i : Int) < (a0.length : Int))) = true := inb (by omega) hlt
  rw [wr (n := (i : Int) + 1) (by omega) (by omega), wr (n := (i : Int) - 1) (by omega) (by omega), Int.toNat_natCast]
  refine br_must b0' (br_if (fun hg => ?_) fun hg => hag _ ⟨i + 1, by omega, by simp, fun j hj => ?_⟩ (by dsimp only; omega))
  rotate_left
  · rcases Nat.lt_or_ge j i with h1 | h1
    · exact hI j h1
    · have : j = i := by omega
      subst this; omega
  have ef : fstI a0 a1 = some i := fstI_some hlt' (by omega) hI
  have hat : atP a0 a1 = if i = 0 ∧ (a0.getD 0 ly0).1 > a1 then (b0, false) else if (a0.getD i ly0).1 = a1 then ((a0.getD i ly0).2, true) else
      (btB (a0.getD (i - 1) ly0).2 (a0.getD i ly0).2 (a1 - (a0.getD (i - 1) ly0).1) ((a0.getD i ly0).1 - (a0.getD (i - 1) ly0).1), true) := by rw [atP, ef]
  -- behind the first test
  have tail : ¬ (i = 0 ∧ (a0.getD 0 ly0).1 > a1) → br (decide (0 ≤ (i : Int)) && decide ((i : Int) < (a0.length : Int)))
      (br ((a0.getD i ly0).1 == a1)
        (br (decide (0 ≤ (i : Int)) && decide ((i : Int) < (a0.length : Int))) (K ((a0.getD i ly0).2, true)) False)
        (br (decide (0 ≤ (i : Int) - 1) && decide ((i : Int) - 1 < (a0.length : Int)))
          (br (decide (0 ≤ (i : Int)) && decide ((i : Int) < (a0.length : Int)))
            (f141_pre ((a0.getD ((i : Int) - 1).toNat ly0).2.1, (a0.getD i ly0).2.1, IntKind.i64.wrap (a1 - (a0.getD ((i : Int) - 1).toNat ly0).1), IntKind.i64.wrap ((a0.getD i ly0).1 - (a0.getD ((i : Int) - 1).toNat ly0).1)) ∧
            f141_pre ((a0.getD ((i : Int) - 1).toNat ly0).2.2.1, (a0.getD i ly0).2.2.1, IntKind.i64.wrap (a1 - (a0.getD ((i : Int) - 1).toNat ly0).1), IntKind.i64.wrap ((a0.getD i ly0).1 - (a0.getD ((i : Int) - 1).toNat ly0).1)) ∧
            f141_pre ((a0.getD ((i : Int) - 1).toNat ly0).2.2.2, (a0.getD i ly0).2.2.2, IntKind.i64.wrap (a1 - (a0.getD ((i : Int) - 1).toNat ly0).1), IntKind.i64.wrap ((a0.getD i ly0).1 - (a0.getD ((i : Int) - 1).toNat ly0).1)) ∧
            K ((f141 ((a0.getD ((i : Int) - 1).toNat ly0).2.1, (a0.getD i ly0).2.1, IntKind.i64.wrap (a1 - (a0.getD ((i : Int) - 1).toNat ly0).1), IntKind.i64.wrap ((a0.getD i ly0).1 - (a0.getD ((i : Int) - 1).toNat ly0).1)),
              f141 ((a0.getD ((i : Int) - 1).toNat ly0).2.2.1, (a0.getD i ly0).2.2.1, IntKind.i64.wrap (a1 - (a0.getD ((i : Int) - 1).toNat ly0).1), IntKind.i64.wrap ((a0.getD i ly0).1 - (a0.getD ((i : Int) - 1).toNat ly0).1)),
              f141 ((a0.getD ((i : Int) - 1).toNat ly0).2.2.2, (a0.getD i ly0).2.2.2, IntKind.i64.wrap (a1 - (a0.getD ((i : Int) - 1).toNat ly0).1), IntKind.i64.wrap ((a0.getD i ly0).1 - (a0.getD ((i : Int) - 1).toNat ly0).1))), true))
            False)
          False)) False := fun hn => by
    rw [if_neg hn] at hat
    refine br_must b0' (br_two (fun he => br_must b0' (hK _ ?_)) fun he => ?_)
    · rw [e0, hat, if_pos (beq_iff_eq.1 he)]
    · have he := beq_eq_false_iff_ne.1 he
      rw [if_neg he] at hat
      have hi0 : i ≠ 0 := fun h => by subst h; exact hn ⟨rfl, by omega⟩
      have h1 := hI (i - 1) (by omega)
      have h2 := ok.h i hlt'
      have h3 := ok.h (i - 1) (by omega)
      have w1 := ok.w i hlt'
      have w2 := ok.w (i - 1) (by omega)
      rw [show ((i : Int) - 1).toNat = i - 1 by omega, wr (n := a1 - (a0.getD (i - 1) ly0).1) (by omega) (by omega), wr (n := (a0.getD i ly0).1 - (a0.getD (i - 1) ly0).1) (by omega) (by omega)]
      have t : 0 ≤ a1 - (a0.getD (i - 1) ly0).1 ∧ a1 - (a0.getD (i - 1) ly0).1 ≤ (a0.getD i ly0).1 - (a0.getD (i - 1) ly0).1 ∧ 0 < (a0.getD i ly0).1 - (a0.getD (i - 1) ly0).1 ∧ (a0.getD i ly0).1 - (a0.getD (i - 1) ly0).1 ≤ 20000 := ⟨by omega, by omega, by omega, by omega⟩
      refine br_must (inb (by omega) (by omega)) (br_must b0' ⟨⟨w2.1, w1.1, t⟩, ⟨w2.2.1, w1.2.1, t⟩, ⟨w2.2.2, w1.2.2, t⟩, hK _ ?_⟩)
      rw [e0, hat]
      rfl
  refine br_if (fun h => absurd h (by omega)) (fun _ => br_two (fun hz => ?_) fun hz => ?_)
  · have hz : i = 0 := by have := beq_iff_eq.1 hz; omega
    refine br_must (by simp; omega) (br_if (fun h => hK _ ?_) fun h => ?_)
    · rw [e0, hat, if_pos ⟨hz, h⟩]; rfl
    · exact tail fun hh => h hh.2
  · have hz : i ≠ 0 := by have := beq_eq_false_iff_ne.1 hz; omega
    exact tail fun hh => hz hh.1
theorem f103_fn : f103_e.fn = f103 := rfl
theorem f103_ok : EntryOK Tryz.prog 103 f103_e := by
  refine entryF progOK (EnvOK.cons f141_ok (EnvOK.nil)) (A := f103_A) (d := 6) Tryz.func103 rfl rfl rfl rfl (fun h => by cases h) fun x hpre => ?_
  obtain ⟨a0, a1⟩ := x
  exact f103_t a0 a1 hpre _ fun _ h => h.trans (congrFun f103_fn.symm _)
end Go.Proofs.YtglijnhkdnhofaaGreat
end

section
namespace Go.Proofs.YtglijnhkdnhofaaGreat
open Go Go.Pi Go.RowKit
set_option maxRecDepth 100000
set_option linter.unusedVariables false
set_option linter.unusedSimpArgs false

def f41 (x : List (Int × (Int × Int) × (Int × Int) × Int × Int) × Int) : ((Int × Int) × (Int × Int) × Int × Int) × Int := windAt x.1 x.2
def f41_e : Entry := { doms := [(false, (.sl (.pair (.int .i64) (.pair (.pair (.int .i64) (.int .i64)) (.pair (.pair (.int .i64) (.int .i64)) (.pair (.int .i64) (.int .i64))))))), (false, (.int .i64))], cods := [(true, (.pair (.pair (.int .i64) (.int .i64)) (.pair (.pair (.int .i64) (.int .i64)) (.pair (.int .i64) (.int .i64))))), (false, (.int .i64))], pre := fun _ => True, fn := f41, uq := false, total := true }
def f41_E : Env := [(39, f39_e), (61, f61_e), (83, f83_e), (101, f101_e), (103, f103_e)]
def f41_A : Anns := { loops := [], own := [] }
theorem f41_run (a0 : List (Int × (Int × Int) × (Int × Int) × Int × Int)) (a1 : Int) (K : (((Int × Int) × (Int × Int) × Int × Int) × Int) → Prop) : runF Tryz.prog f41_E f41_A 6 Tryz.f41 f41_e.doms f41_e.cods (a0, a1) K =
    (br ((f61 ([(f39 a0).2, (f101 a1)] : List Int)) != 0)
    (K (((0, 0), ((0, 0), (0, 0))), (f61 ([(f39 a0).2, (f101 a1)] : List Int))))
    (f103_pre (a0, a1) ∧
    K (((((f103 (a0, a1)).1).1), (((((f103 (a0, a1)).1).2).1), ((((f103 (a0, a1)).1).2).2))), (f83 ((f103 (a0, a1)).2, 6))))) := by kernel_rfl
theorem f41_t (a0 : List (Int × (Int × Int) × (Int × Int) × Int × Int)) (a1 : Int) (K : (((Int × Int) × (Int × Int) × Int × Int) × Int) → Prop) (hK : ∀ y : ((Int × Int) × (Int × Int) × Int × Int) × Int, y = f41 (a0, a1) → K y) : RunF Tryz.prog f41_E f41_A 6 Tryz.f41 f41_e.doms f41_e.cods (a0, a1) K := by
  refine ⟨?_⟩
  rw [f41_run a0 a1 K]
  have e0 : f41 (a0, a1) = windAt a0 a1 := rfl
  have e : f61 [(f39 a0).2, f101 a1] = if (pfOf a0).2 ≠ 0 then (pfOf a0).2 else hE a1 := by
    rw [f61_cons, f61_cons, f61_nil]
    show (if (pfOf a0).2 = 0 then if hE a1 = 0 then 0 else hE a1 else (pfOf a0).2) = _
    by_cases h1 : (pfOf a0).2 = 0 <;> by_cases h2 : hE a1 = 0 <;> simp [h1, h2]
  rw [e]
  by_cases h1 : (pfOf a0).2 ≠ 0
  · rw [if_pos h1]
    exact br_two (fun _ => hK _ (by rw [e0, windAt, if_pos h1]; rfl)) fun h => absurd (bne_f.1 h) h1
  · rw [if_neg h1]
    refine br_two (fun h => hK _ ?_) fun h => ⟨pfOf_ok (Classical.byContradiction h1), hK _ ?_⟩
    · rw [e0, windAt, if_neg h1, if_pos (bne_t.1 h)]; rfl
    · have h := bne_f.1 h
      rw [e0, windAt, if_neg h1, if_neg (fun hh => hh h)]
      show ((atP a0 a1).1, f83 ((atP a0 a1).2, 6)) = _
      cases h2 : (atP a0 a1).2 with
      | true => rw [if_neg (by simp)]; rfl
      | false =>
        rw [if_pos rfl, f83]
        have : (atP a0 a1).1 = b0 := by
          unfold atP at h2 ⊢
          split at h2
          · rfl
          · split at h2
            · rename_i h3; rw [if_pos h3]
            · split at h2 <;> cases h2
        rw [this]; rfl
theorem f41_fn : f41_e.fn = f41 := rfl
theorem f41_ok : EntryOK Tryz.prog 41 f41_e := by
  refine entryF progOK (EnvOK.cons f39_ok (EnvOK.cons f61_ok (EnvOK.cons f83_ok (EnvOK.cons f101_ok (EnvOK.cons f103_ok (EnvOK.nil)))))) (A := f41_A) (d := 6) Tryz.func41 rfl rfl rfl rfl (fun _ _ => trivial) fun x hpre => ?_
  obtain ⟨a0, a1⟩ := x
  exact f41_t a0 a1 _ fun _ h => h.trans (congrFun f41_fn.symm _)
end Go.Proofs.YtglijnhkdnhofaaGreat
end

section
namespace Go.Proofs.YtglijnhkdnhofaaGreat
open Go Go.Pi Go.RowKit
set_option maxRecDepth 100000
set_option linter.unusedVariables false
set_option linter.unusedSimpArgs false

def f42 (x : List (Int × (Int × Int) × (Int × Int) × Int × Int) × Int × Int) : ((Int × Int) × (Int × Int) × Int × Int) × Int := chgIn x.1 x.2
def f42_e : Entry := { doms := [(false, (.sl (.pair (.int .i64) (.pair (.pair (.int .i64) (.int .i64)) (.pair (.pair (.int .i64) (.int .i64)) (.pair (.int .i64) (.int .i64))))))), (true, (.pair (.int .i64) (.int .i64)))], cods := [(true, (.pair (.pair (.int .i64) (.int .i64)) (.pair (.pair (.int .i64) (.int .i64)) (.pair (.int .i64) (.int .i64))))), (false, (.int .i64))], pre := fun _ => True, fn := f42, uq := false, total := true }
def f42_E : Env := [(39, f39_e), (61, f61_e), (83, f83_e), (101, f101_e), (103, f103_e), (104, f104_e)]
def f42_A : Anns := { loops := [], own := [] }
theorem f42_run (a0 : List (Int × (Int × Int) × (Int × Int) × Int × Int)) (a1 : Int × Int) (K : (((Int × Int) × (Int × Int) × Int × Int) × Int) → Prop) : runF Tryz.prog f42_E f42_A 6 Tryz.f42 f42_e.doms f42_e.cods (a0, a1) K =
    (br ((f61 ([(f39 a0).2, (f101 a1.1), (f101 a1.2), (f83 ((decide (a1.1 ≤ a1.2)), 9))] : List Int)) != 0)
    (K (((0, 0), ((0, 0), (0, 0))), (f61 ([(f39 a0).2, (f101 a1.1), (f101 a1.2), (f83 ((decide (a1.1 ≤ a1.2)), 9))] : List Int))))
    (f103_pre (a0, a1.1) ∧
    f103_pre (a0, a1.2) ∧
    br (!(f103 (a0, a1.1)).2)
    (K (((0, 0), ((0, 0), (0, 0))), 6))
    (br (!(f103 (a0, a1.2)).2)
    (K (((0, 0), ((0, 0), (0, 0))), 6))
    (K (((f104 ((((f103 (a0, a1.2)).1).1), (((f103 (a0, a1.1)).1).1))), ((f104 (((((f103 (a0, a1.2)).1).2).1), ((((f103 (a0, a1.1)).1).2).1))), (f104 (((((f103 (a0, a1.2)).1).2).2), ((((f103 (a0, a1.1)).1).2).2))))), 0))))) := by kernel_rfl
theorem f42_t (a0 : List (Int × (Int × Int) × (Int × Int) × Int × Int)) (a1 : Int × Int) (K : (((Int × Int) × (Int × Int) × Int × Int) × Int) → Prop) (hK : ∀ y : ((Int × Int) × (Int × Int) × Int × Int) × Int, y = f42 (a0, a1) → K y) : RunF Tryz.prog f42_E f42_A 6 Tryz.f42 f42_e.doms f42_e.cods (a0, a1) K := by
  refine ⟨?_⟩
  rw [f42_run a0 a1 K]
  have e0 : f42 (a0, a1) = chgIn a0 a1 := rfl
  have e : f61 [(f39 a0).2, f101 a1.1, f101 a1.2, f83 (decide (a1.1 ≤ a1.2), 9)] = chgE a0 a1 := by
    show frst [(pfOf a0).2, hE a1.1, hE a1.2, f83 (decide (a1.1 ≤ a1.2), 9)] = _
    rw [chgE, f83]
    by_cases h : a1.1 ≤ a1.2 <;> simp [h]
  rw [e]
  refine br_two (fun h => hK _ (by rw [e0, chgIn, if_pos (bne_t.1 h)]; rfl)) fun h => ?_
  have h := bne_f.1 h
  have ok : PfOK a0 := by
    refine pfOf_ok ?_
    unfold chgE at h
    rw [frst_cons] at h
    by_cases h1 : (pfOf a0).2 = 0
    · exact h1
    · rw [if_neg h1] at h; exact absurd h h1
  have q1 : f103 (a0, a1.1) = atP a0 a1.1 := rfl
  have q2 : f103 (a0, a1.2) = atP a0 a1.2 := rfl
  rw [q1, q2]
  refine ⟨ok, ok, br_two (fun h2 => hK _ ?_) fun h2 => br_two (fun h3 => hK _ ?_) fun h3 => hK _ ?_⟩
  · rw [e0, chgIn, if_neg (fun hh => hh h), if_pos (by simpa using h2)]; rfl
  · rw [e0, chgIn, if_neg (fun hh => hh h), if_neg (by simpa using h2), if_pos (by simpa using h3)]; rfl
  · have h2 : (atP a0 a1.1).2 = true := by simpa using h2
    have h3 : (atP a0 a1.2).2 = true := by simpa using h3
    rw [e0, chgIn, if_neg (fun hh => hh h), if_neg (by rw [h2]; simp), if_neg (by rw [h3]; simp)]
    -- what was found is in its bounds
    have bnd : ∀ x : Int, (atP a0 x).2 = true → bOK (atP a0 x).1 := fun x hx => by
      unfold atP at hx ⊢
      split at hx
      · cases hx
      · rename_i i hi
        obtain ⟨k1, k2, k3⟩ := fstI_inv hi
        split at hx
        · cases hx
        · rename_i k4
          rw [if_neg k4]
          split at hx
          · rename_i k5
            rw [if_pos k5]; exact ok.w i k1
          · rename_i k5
            rw [if_neg k5]
            have hi0 : i ≠ 0 := fun h => by subst h; exact k4 ⟨rfl, by omega⟩
            have := k3 (i - 1) (by omega)
            exact btB_ok (ok.w _ (by omega)) (ok.w i k1) (by omega) (by omega) (by omega)
    have b1 := bnd _ h2
    have b2 := bnd _ h3
    have m : ∀ p q : Int × Int, rOK p → rOK q → f104 (p, q) = mns p q := fun p q hp hq => by
      obtain ⟨p1, p2, p3⟩ := hp
      obtain ⟨q1, q2, q3⟩ := hq
      show (w64 (p.1 - q.2), w64 (p.2 - q.1)) = (p.1 - q.2, p.2 - q.1)
      rw [w64_in (by omega) (by omega), w64_in (by omega) (by omega)]
    have m1 := m _ _ b2.1 b1.1
    have m2 := m _ _ b2.2.1 b1.2.1
    have m3 := m _ _ b2.2.2 b1.2.2
    show ((f104 ((atP a0 a1.2).1.1, (atP a0 a1.1).1.1), f104 ((atP a0 a1.2).1.2.1, (atP a0 a1.1).1.2.1), f104 ((atP a0 a1.2).1.2.2, (atP a0 a1.1).1.2.2)), (0 : Int)) = _
    rw [m1, m2, m3]; rfl
theorem f42_fn : f42_e.fn = f42 := rfl
theorem f42_ok : EntryOK Tryz.prog 42 f42_e := by
  refine entryF progOK (EnvOK.cons f39_ok (EnvOK.cons f61_ok (EnvOK.cons f83_ok (EnvOK.cons f101_ok (EnvOK.cons f103_ok (EnvOK.cons f104_ok (EnvOK.nil))))))) (A := f42_A) (d := 6) Tryz.func42 rfl rfl rfl rfl (fun _ _ => trivial) fun x hpre => ?_
  obtain ⟨a0, a1⟩ := x
  exact f42_t a0 a1 _ fun _ h => h.trans (congrFun f42_fn.symm _)
end Go.Proofs.YtglijnhkdnhofaaGreat
end

section
namespace Go.Proofs.YtglijnhkdnhofaaGreat
open Go Go.Pi Go.RowKit
set_option maxRecDepth 100000
set_option linter.unusedVariables false
set_option linter.unusedSimpArgs false

def f91 (x : Int × Int × Int) : Bool := decide (x.2.1 ≤ x.1) && decide (x.1 ≤ x.2.2)
def f91_e : Entry := { doms := [(false, (.int .i64)), (false, (.int .i64)), (false, (.int .i64))], cods := [(false, .bool)], pre := fun _ => True, fn := f91, uq := false, total := true }
def f91_E : Env := []
def f91_A : Anns := { loops := [], own := [] }
theorem f91_run (a0 : Int) (a1 : Int) (a2 : Int) (K : Bool → Prop) : runF Tryz.prog f91_E f91_A 6 Tryz.f91 f91_e.doms f91_e.cods (a0, a1, a2) K =
    (br (decide (a1 ≤ a0))
    (K (decide (a0 ≤ a2)))
    (K false)) := by kernel_rfl
theorem f91_t (a0 : Int) (a1 : Int) (a2 : Int) (K : Bool → Prop) (hK : ∀ y : Bool, y = f91 (a0, a1, a2) → K y) : RunF Tryz.prog f91_E f91_A 6 Tryz.f91 f91_e.doms f91_e.cods (a0, a1, a2) K := by
  refine ⟨?_⟩
  rw [f91_run a0 a1 a2 K]
  rw [br_dec]
  exact ⟨fun h => hK _ (by simp [f91, h]), fun h => hK _ (by simp [f91, h])⟩
theorem f91_fn : f91_e.fn = f91 := rfl
theorem f91_ok : EntryOK Tryz.prog 91 f91_e := by
  refine entryF progOK (EnvOK.nil) (A := f91_A) (d := 6) Tryz.func91 rfl rfl rfl rfl (fun _ _ => trivial) fun x hpre => ?_
  obtain ⟨a0, a1, a2⟩ := x
  exact f91_t a0 a1 a2 _ fun _ h => h.trans (congrFun f91_fn.symm _)
theorem f91_t1 {a b c : Int} : f91 (a, b, c) = true ↔ b ≤ a ∧ a ≤ c := by simp [f91]
theorem f91_f1 {a b c : Int} : f91 (a, b, c) = false ↔ ¬ (b ≤ a ∧ a ≤ c) := by rw [← Bool.not_eq_true, f91_t1]
end Go.Proofs.YtglijnhkdnhofaaGreat
end

section
namespace Go.Proofs.YtglijnhkdnhofaaGreat
open Go Go.Pi Go.RowKit
set_option maxRecDepth 100000
set_option linter.unusedVariables false
set_option linter.unusedSimpArgs false

def f44 (n : Int) : Int := if 0 ≤ n ∧ n ≤ 20000 then 0 else 2
def f44_e : Entry := { doms := [(false, (.int .i64))], cods := [(false, (.int .i64))], pre := fun _ => True, fn := f44, uq := false, total := true }
def f44_E : Env := [(91, f91_e)]
def f44_A : Anns := { loops := [], own := [] }
theorem f44_run (a0 : Int) (K : Int → Prop) : runF Tryz.prog f44_E f44_A 6 Tryz.f44 f44_e.doms f44_e.cods a0 K =
    (br (!(f91 (a0, (0, 20000))))
    (K 2)
    (K 0)) := by kernel_rfl
theorem f44_t (a0 : Int) (K : Int → Prop) (hK : ∀ y : Int, y = f44 a0 → K y) : RunF Tryz.prog f44_E f44_A 6 Tryz.f44 f44_e.doms f44_e.cods a0 K := by
  refine ⟨?_⟩
  rw [f44_run a0 K]
  have e : f91 (a0, 0, 20000) = decide (0 ≤ a0 ∧ a0 ≤ 20000) := by simp [f91]
  rw [e]
  refine br_two (fun h => hK _ ?_) fun h => hK _ ?_
  · rw [f44, if_neg (nd_t.1 h)]
  · rw [f44, if_pos (nd_f.1 h)]
theorem f44_fn : f44_e.fn = f44 := rfl
theorem f44_ok : EntryOK Tryz.prog 44 f44_e := by
  refine entryF progOK (EnvOK.cons f91_ok (EnvOK.nil)) (A := f44_A) (d := 6) Tryz.func44 rfl rfl rfl rfl (fun _ _ => trivial) fun x hpre => ?_
  exact f44_t x _ fun _ h => h.trans (congrFun f44_fn.symm _)
end Go.Proofs.YtglijnhkdnhofaaGreat
end

section
namespace Go.Proofs.YtglijnhkdnhofaaGreat
open Go Go.Pi Go.RowKit
set_option maxRecDepth 100000
set_option linter.unusedVariables false
set_option linter.unusedSimpArgs false

def f105 (x : (Int × Int) × (Int × Int) × Int × Int) : (Int × Int) × (Int × Int) × Int × Int := x
def f105_e : Entry := { doms := [(true, (.pair (.pair (.int .i64) (.int .i64)) (.pair (.pair (.int .i64) (.int .i64)) (.pair (.int .i64) (.int .i64)))))], cods := [(true, (.pair (.pair (.int .i64) (.int .i64)) (.pair (.pair (.int .i64) (.int .i64)) (.pair (.int .i64) (.int .i64)))))], pre := fun _ => True, fn := f105, uq := false, total := true }
def f105_E : Env := []
def f105_A : Anns := { loops := [], own := [] }
theorem f105_run (a0 : (Int × Int) × (Int × Int) × Int × Int) (K : ((Int × Int) × (Int × Int) × Int × Int) → Prop) : runF Tryz.prog f105_E f105_A 6 Tryz.f105 f105_e.doms f105_e.cods a0 K =
    (K a0) := by kernel_rfl
theorem f105_t (a0 : (Int × Int) × (Int × Int) × Int × Int) (K : ((Int × Int) × (Int × Int) × Int × Int) → Prop) (hK : ∀ y : (Int × Int) × (Int × Int) × Int × Int, y = f105 a0 → K y) : RunF Tryz.prog f105_E f105_A 6 Tryz.f105 f105_e.doms f105_e.cods a0 K := by
  refine ⟨?_⟩
  rw [f105_run a0 K]
  exact hK _ rfl
theorem f105_fn : f105_e.fn = f105 := rfl
theorem f105_ok : EntryOK Tryz.prog 105 f105_e := by
  refine entryF progOK (EnvOK.nil) (A := f105_A) (d := 6) Tryz.func105 rfl rfl rfl rfl (fun _ _ => trivial) fun x hpre => ?_
  exact f105_t x _ fun _ h => h.trans (congrFun f105_fn.symm _)
end Go.Proofs.YtglijnhkdnhofaaGreat
end

section
namespace Go.Proofs.YtglijnhkdnhofaaGreat
open Go Go.Pi Go.RowKit
set_option maxRecDepth 100000
set_option linter.unusedVariables false
set_option linter.unusedSimpArgs false

def f43 (l : List (Int × (Int × Int) × (Int × Int) × Int × Int)) : Int × Int := pfOf l
def f43_e : Entry := { doms := [(false, (.sl (.pair (.int .i64) (.pair (.pair (.int .i64) (.int .i64)) (.pair (.pair (.int .i64) (.int .i64)) (.pair (.int .i64) (.int .i64)))))))], cods := [(false, (.int .i64)), (false, (.int .i64))], pre := fun _ => True, fn := f43, uq := false, total := true }
def f43_E : Env := [(44, f44_e), (91, f91_e), (105, f105_e)]
def f43_A : Anns := { loops := [(1048576, { tms := [(0, .keep), (4, .data false (.int .i64))], obs := [], fz := [] })], own := [], unroll := 4 }
theorem f43_run (a0 : List (Int × (Int × Int) × (Int × Int) × Int × Int)) (K : (Int × Int) → Prop) : runF Tryz.prog f43_E f43_A 6 Tryz.f43 f43_e.doms f43_e.cods a0 K =
    (br (lenOk (a0.length))
    (br (((a0.length) : Int) == 0)
    (K (0, 10))
    (br (lenOk (a0.length))
    (br (decide (((a0.length) : Int) > 12))
    (K (0, 8))
    (LoopP (V := Int × Unit) (fun again v => (fun (again1 : Int → Prop) (v1_0 : Int) =>
    br (lenOk (a0.length))
    (br (decide (v1_0 < ((a0.length) : Int)))
    (br (decide (0 ≤ v1_0) && decide (v1_0 < ((a0.length) : Int)))
    (br ((f44 ((a0.getD v1_0.toNat (0, ((0, 0), ((0, 0), (0, 0))))).1)) != 0)
    (K (v1_0, (f44 ((a0.getD v1_0.toNat (0, ((0, 0), ((0, 0), (0, 0))))).1))))
    (br (decide (0 ≤ v1_0) && decide (v1_0 < ((a0.length) : Int)))
    (br (!(f91 (((f105 ((((a0.getD v1_0.toNat (0, ((0, 0), ((0, 0), (0, 0))))).2).1), (((((a0.getD v1_0.toNat (0, ((0, 0), ((0, 0), (0, 0))))).2).2).1), ((((a0.getD v1_0.toNat (0, ((0, 0), ((0, 0), (0, 0))))).2).2).2)))).1).1, ((-100000), 100000))))
    (K (v1_0, 2))
    (br (!(f91 (((f105 ((((a0.getD v1_0.toNat (0, ((0, 0), ((0, 0), (0, 0))))).2).1), (((((a0.getD v1_0.toNat (0, ((0, 0), ((0, 0), (0, 0))))).2).2).1), ((((a0.getD v1_0.toNat (0, ((0, 0), ((0, 0), (0, 0))))).2).2).2)))).1).2, ((-100000), 100000))))
    (K (v1_0, 2))
    (br (decide (((f105 ((((a0.getD v1_0.toNat (0, ((0, 0), ((0, 0), (0, 0))))).2).1), (((((a0.getD v1_0.toNat (0, ((0, 0), ((0, 0), (0, 0))))).2).2).1), ((((a0.getD v1_0.toNat (0, ((0, 0), ((0, 0), (0, 0))))).2).2).2)))).1).1 > ((f105 ((((a0.getD v1_0.toNat (0, ((0, 0), ((0, 0), (0, 0))))).2).1), (((((a0.getD v1_0.toNat (0, ((0, 0), ((0, 0), (0, 0))))).2).2).1), ((((a0.getD v1_0.toNat (0, ((0, 0), ((0, 0), (0, 0))))).2).2).2)))).1).2))
    (K (v1_0, 9))
    (br (!(f91 ((((f105 ((((a0.getD v1_0.toNat (0, ((0, 0), ((0, 0), (0, 0))))).2).1), (((((a0.getD v1_0.toNat (0, ((0, 0), ((0, 0), (0, 0))))).2).2).1), ((((a0.getD v1_0.toNat (0, ((0, 0), ((0, 0), (0, 0))))).2).2).2)))).2).1).1, ((-100000), 100000))))
    (K (v1_0, 2))
    (br (!(f91 ((((f105 ((((a0.getD v1_0.toNat (0, ((0, 0), ((0, 0), (0, 0))))).2).1), (((((a0.getD v1_0.toNat (0, ((0, 0), ((0, 0), (0, 0))))).2).2).1), ((((a0.getD v1_0.toNat (0, ((0, 0), ((0, 0), (0, 0))))).2).2).2)))).2).1).2, ((-100000), 100000))))
    (K (v1_0, 2))
    (br (decide ((((f105 ((((a0.getD v1_0.toNat (0, ((0, 0), ((0, 0), (0, 0))))).2).1), (((((a0.getD v1_0.toNat (0, ((0, 0), ((0, 0), (0, 0))))).2).2).1), ((((a0.getD v1_0.toNat (0, ((0, 0), ((0, 0), (0, 0))))).2).2).2)))).2).1).1 > (((f105 ((((a0.getD v1_0.toNat (0, ((0, 0), ((0, 0), (0, 0))))).2).1), (((((a0.getD v1_0.toNat (0, ((0, 0), ((0, 0), (0, 0))))).2).2).1), ((((a0.getD v1_0.toNat (0, ((0, 0), ((0, 0), (0, 0))))).2).2).2)))).2).1).2))
    (K (v1_0, 9))
    (br (!(f91 ((((f105 ((((a0.getD v1_0.toNat (0, ((0, 0), ((0, 0), (0, 0))))).2).1), (((((a0.getD v1_0.toNat (0, ((0, 0), ((0, 0), (0, 0))))).2).2).1), ((((a0.getD v1_0.toNat (0, ((0, 0), ((0, 0), (0, 0))))).2).2).2)))).2).2).1, ((-100000), 100000))))
    (K (v1_0, 2))
    (br (!(f91 ((((f105 ((((a0.getD v1_0.toNat (0, ((0, 0), ((0, 0), (0, 0))))).2).1), (((((a0.getD v1_0.toNat (0, ((0, 0), ((0, 0), (0, 0))))).2).2).1), ((((a0.getD v1_0.toNat (0, ((0, 0), ((0, 0), (0, 0))))).2).2).2)))).2).2).2, ((-100000), 100000))))
    (K (v1_0, 2))
    (br (decide ((((f105 ((((a0.getD v1_0.toNat (0, ((0, 0), ((0, 0), (0, 0))))).2).1), (((((a0.getD v1_0.toNat (0, ((0, 0), ((0, 0), (0, 0))))).2).2).1), ((((a0.getD v1_0.toNat (0, ((0, 0), ((0, 0), (0, 0))))).2).2).2)))).2).2).1 > (((f105 ((((a0.getD v1_0.toNat (0, ((0, 0), ((0, 0), (0, 0))))).2).1), (((((a0.getD v1_0.toNat (0, ((0, 0), ((0, 0), (0, 0))))).2).2).1), ((((a0.getD v1_0.toNat (0, ((0, 0), ((0, 0), (0, 0))))).2).2).2)))).2).2).2))
    (K (v1_0, 9))
    (br (decide (v1_0 > 0))
    (br (decide (0 ≤ v1_0) && decide (v1_0 < ((a0.length) : Int)))
    (br (decide (0 ≤ (IntKind.i64.wrap (v1_0 - 1))) && decide ((IntKind.i64.wrap (v1_0 - 1)) < ((a0.length) : Int)))
    (br (decide ((a0.getD v1_0.toNat (0, ((0, 0), ((0, 0), (0, 0))))).1 ≤ (a0.getD ((IntKind.i64.wrap (v1_0 - 1)).toNat) (0, ((0, 0), ((0, 0), (0, 0))))).1))
    (K (v1_0, 9))
    (again1 (IntKind.i64.wrap (v1_0 + 1))))
    False)
    False)
    (again1 (IntKind.i64.wrap (v1_0 + 1)))))))))))))
    False))
    False)
    (K (0, 0)))
    True)
    (fun v1_0 => again (v1_0, ())) v.1) (0, ())))
    True))
    True) := by kernel_rfl
theorem f43_t (a0 : List (Int × (Int × Int) × (Int × Int) × Int × Int)) (K : (Int × Int) → Prop) (hK : ∀ y : Int × Int, y = f43 a0 → K y) : RunF Tryz.prog f43_E f43_A 6 Tryz.f43 f43_e.doms f43_e.cods a0 K := by
  refine ⟨?_⟩
  rw [f43_run a0 K]
  have e35 : ∀ n : Int, f91 (n, -100000, 100000) = decide (-100000 ≤ n ∧ n ≤ 100000) := fun n => by simp [f91]
  rw [br_true_, lenOk_iff]
  intro hl
  have e0 : f43 a0 = pfOf a0 := rfl
  refine br_two (fun h => hK _ ?_) fun h => br_weak (br_if (fun h2 => hK _ ?_) fun h2 => ?_)
  · have h : a0.length = 0 := by have := beq_iff_eq.1 h; omega
    rw [e0, pfOf, if_pos h]
  · have h : ¬ a0.length = 0 := by have := beq_eq_false_iff_ne.1 h; omega
    rw [e0, pfOf, if_neg h, if_pos (by omega)]
  have h0 : ¬ a0.length = 0 := by have := beq_eq_false_iff_ne.1 h; omega
  have h1 : ¬ a0.length > 12 := by omega
  refine each_loop (K := K) (n := a0.length) (e := lyE a0) (hK _ (by rw [e0, pfOf, if_neg h0, if_neg h1])) (fun again i hi hI good bad fin => ?_)
  dsimp only
  refine br_weak (br_if (fun hlt => ?_) fun hlt => fin (by omega))
  have b0 := inb (show 0 ≤ (i : Int) by omega) hlt
  have hlt : i < a0.length := by omega
  rw [wr (n := (i : Int) + 1) (by omega) (by omega), wr (n := (i : Int) - 1) (by omega) (by omega), Int.toNat_natCast]
  have e114 : f44 (a0.getD i ly0).1 = hE (a0.getD i ly0).1 := rfl
  have bad2 : ∀ n : Int, n ≠ 0 → lyE a0 i = n → K ((i : Int), n) := fun n hn e => by
    have := bad hlt (by rw [e]; exact hn)
    rwa [e] at this
  have r2 : ∀ r : Int × Int, ¬ (-100000 ≤ r.1 ∧ r.1 ≤ 100000) → rngE r 100000 = 2 := fun r h => by rw [rngE, if_pos (fun hh => h hh.1)]
  have r2' : ∀ r : Int × Int, ¬ (-100000 ≤ r.2 ∧ r.2 ≤ 100000) → rngE r 100000 = 2 := fun r h => by rw [rngE, if_pos (fun hh => h hh.2)]
  have r9 : ∀ r : Int × Int, (-100000 ≤ r.1 ∧ r.1 ≤ 100000) → (-100000 ≤ r.2 ∧ r.2 ≤ 100000) → r.1 > r.2 → rngE r 100000 = 9 := fun r h h' h2 => by rw [rngE, if_neg (fun hh => hh ⟨h, h'⟩), if_neg (by omega)]
  have r0 : ∀ r : Int × Int, (-100000 ≤ r.1 ∧ r.1 ≤ 100000) → (-100000 ≤ r.2 ∧ r.2 ≤ 100000) → ¬ r.1 > r.2 → rngE r 100000 = 0 := fun r h h' h2 => by rw [rngE, if_neg (fun hh => hh ⟨h, h'⟩), if_pos (by omega)]
  have el : lyE a0 i = frst [hE (a0.getD i ly0).1, rngE (a0.getD i ly0).2.1 100000, rngE (a0.getD i ly0).2.2.1 100000, rngE (a0.getD i ly0).2.2.2 100000, ordE a0 i] := rfl
  have ez : ∀ l : List Int, frst (0 :: l) = frst l := fun l => by rw [frst_cons, if_pos rfl]
  have en : ∀ (n : Int) (l : List Int), n ≠ 0 → frst (n :: l) = n := fun n l h => by rw [frst_cons, if_neg h]
  have dx : ((0 : Int), ((0 : Int), (0 : Int)), ((0 : Int), (0 : Int)), ((0 : Int), (0 : Int))) = ly0 := rfl
  simp only [dx, e35]
  have o115 : ∀ b : Bx, f105 b = b := fun b => rfl
  simp only [o115]
  rw [e114]
  refine br_must b0 (br_two (fun hh => bad2 _ (bne_t.1 hh) (by rw [el, en _ _ (bne_t.1 hh)])) fun hh => ?_)
  have hh := bne_f.1 hh
  rw [hh, ez] at el
  refine br_must b0 (br_two (fun q => bad2 2 (by decide) (by rw [el, r2 _ (nd_t.1 q), en _ _ (by decide)])) fun x1 => br_two (fun q => bad2 2 (by decide) (by rw [el, r2' _ (nd_t.1 q), en _ _ (by decide)])) fun x2 => br_if (fun q => bad2 9 (by decide) (by rw [el, r9 _ (nd_f.1 x1) (nd_f.1 x2) q, en _ _ (by decide)])) fun x3 => ?_)
  rw [r0 _ (nd_f.1 x1) (nd_f.1 x2) x3, ez] at el
  refine br_two (fun q => bad2 2 (by decide) (by rw [el, r2 _ (nd_t.1 q), en _ _ (by decide)])) fun x1 => br_two (fun q => bad2 2 (by decide) (by rw [el, r2' _ (nd_t.1 q), en _ _ (by decide)])) fun x2 => br_if (fun q => bad2 9 (by decide) (by rw [el, r9 _ (nd_f.1 x1) (nd_f.1 x2) q, en _ _ (by decide)])) fun x3 => ?_
  rw [r0 _ (nd_f.1 x1) (nd_f.1 x2) x3, ez] at el
  refine br_two (fun q => bad2 2 (by decide) (by rw [el, r2 _ (nd_t.1 q), en _ _ (by decide)])) fun x1 => br_two (fun q => bad2 2 (by decide) (by rw [el, r2' _ (nd_t.1 q), en _ _ (by decide)])) fun x2 => br_if (fun q => bad2 9 (by decide) (by rw [el, r9 _ (nd_f.1 x1) (nd_f.1 x2) q, en _ _ (by decide)])) fun x3 => ?_
  rw [r0 _ (nd_f.1 x1) (nd_f.1 x2) x3, ez] at el
  refine br_if (fun hp => br_must b0 ?_) fun hp => good hlt ?_
  · rw [show ((i : Int) - 1).toNat = i - 1 by omega]
    refine br_must (inb (by omega) (by omega)) (br_if (fun q => bad2 9 (by decide) ?_) fun q => good hlt ?_)
    · rw [el, ordE, if_neg (by omega)]; rfl
    · rw [el, ordE, if_pos (.inr (by omega))]; rfl
  · rw [el, ordE, if_pos (.inl (by omega))]; rfl
theorem f43_fn : f43_e.fn = f43 := rfl
theorem f43_ok : EntryOK Tryz.prog 43 f43_e := by
  refine entryF progOK (EnvOK.cons f44_ok (EnvOK.cons f91_ok (EnvOK.cons f105_ok (EnvOK.nil)))) (A := f43_A) (d := 6) Tryz.func43 rfl rfl rfl rfl (fun _ _ => trivial) fun x hpre => ?_
  exact f43_t x _ fun _ h => h.trans (congrFun f43_fn.symm _)
end Go.Proofs.YtglijnhkdnhofaaGreat
end

section
namespace Go.Proofs.YtglijnhkdnhofaaGreat
open Go Go.Pi Go.RowKit
set_option maxRecDepth 100000
set_option linter.unusedVariables false
set_option linter.unusedSimpArgs false

def f45 (x : List (Int × (Int × Int) × (Int × Int) × Int × Int) × Int) : Int := atE x.1 x.2
def f45_pre (x : List (Int × (Int × Int) × (Int × Int) × Int × Int) × Int) : Prop := 0 < x.1.length ∧ x.1.length ≤ 1048576
def f45_e : Entry := { doms := [(false, (.sl (.pair (.int .i64) (.pair (.pair (.int .i64) (.int .i64)) (.pair (.pair (.int .i64) (.int .i64)) (.pair (.int .i64) (.int .i64))))))), (false, (.int .i64))], cods := [(false, (.int .i64))], pre := f45_pre, fn := f45, uq := false, total := false }
def f45_E : Env := []
def f45_A : Anns := { loops := [], own := [] }
theorem f45_run (a0 : List (Int × (Int × Int) × (Int × Int) × Int × Int)) (a1 : Int) (K : Int → Prop) : runF Tryz.prog f45_E f45_A 6 Tryz.f45 f45_e.doms f45_e.cods (a0, a1) K =
    (br (decide (0 ≤ 0) && decide (0 < ((a0.length) : Int)))
    (br (decide (a1 < (a0.getD 0 (0, ((0, 0), ((0, 0), (0, 0))))).1))
    (K 6)
    (br (lenOk (a0.length))
    (br (decide (0 ≤ (IntKind.i64.wrap (((a0.length) : Int) - 1))) && decide ((IntKind.i64.wrap (((a0.length) : Int) - 1)) < ((a0.length) : Int)))
    (br (decide (a1 > (a0.getD ((IntKind.i64.wrap (((a0.length) : Int) - 1)).toNat) (0, ((0, 0), ((0, 0), (0, 0))))).1))
    (K 6)
    (K 0))
    False)
    True))
    False) := by kernel_rfl
theorem f45_t (a0 : List (Int × (Int × Int) × (Int × Int) × Int × Int)) (a1 : Int) (hpre : f45_pre (a0, a1)) (K : Int → Prop) (hK : ∀ y : Int, y = f45 (a0, a1) → K y) : RunF Tryz.prog f45_E f45_A 6 Tryz.f45 f45_e.doms f45_e.cods (a0, a1) K := by
  refine ⟨?_⟩
  rw [f45_run a0 a1 K]
  obtain ⟨hp, hl⟩ := hpre
  dsimp only at hp hl
  have dx : ((0 : Int), ((0 : Int), (0 : Int)), ((0 : Int), (0 : Int)), ((0 : Int), (0 : Int))) = ly0 := rfl
  have e0 : f45 (a0, a1) = atE a0 a1 := rfl
  rw [dx, wr (n := (a0.length : Int) - 1) (by omega) (by omega), show ((a0.length : Int) - 1).toNat = a0.length - 1 by omega]
  refine br_must (by simp; omega) (br_if (fun h => hK _ (by rw [e0, atE, if_pos h])) fun h => br_weak (br_must (inb (by omega) (by omega)) (br_if (fun h2 => hK _ (by rw [e0, atE, if_neg h, if_pos h2])) fun h2 => hK _ (by rw [e0, atE, if_neg h, if_neg h2]))))
theorem f45_fn : f45_e.fn = f45 := rfl
theorem f45_ok : EntryOK Tryz.prog 45 f45_e := by
  refine entryF progOK (EnvOK.nil) (A := f45_A) (d := 6) Tryz.func45 rfl rfl rfl rfl (fun h => by cases h) fun x hpre => ?_
  obtain ⟨a0, a1⟩ := x
  exact f45_t a0 a1 hpre _ fun _ h => h.trans (congrFun f45_fn.symm _)
end Go.Proofs.YtglijnhkdnhofaaGreat
end

section
namespace Go.Proofs.YtglijnhkdnhofaaGreat
open Go Go.Pi Go.RowKit
set_option maxRecDepth 100000
set_option linter.unusedVariables false
set_option linter.unusedSimpArgs false

def f97 (x : Int × Int) : Int := x.1 / x.2
def f97_pre (x : Int × Int) : Prop := Fit x.1 ∧ 0 < x.2
def f97_e : Entry := { doms := [(false, (.int .i64)), (false, (.int .i64))], cods := [(false, (.int .i64))], pre := f97_pre, fn := f97, uq := false, total := false }
def f97_E : Env := []
def f97_A : Anns := { loops := [], own := [] }
theorem f97_run (a0 : Int) (a1 : Int) (K : Int → Prop) : runF Tryz.prog f97_E f97_A 6 Tryz.f97 f97_e.doms f97_e.cods (a0, a1) K =
    (br (!(decide (a1 = 0)))
    (br (!(decide (a1 = 0)))
    (br (decide ((a0.tmod a1) < 0))
    (K (IntKind.i64.wrap ((IntKind.i64.wrap (a0.tdiv a1)) - 1)))
    (K (IntKind.i64.wrap (a0.tdiv a1))))
    False)
    False) := by kernel_rfl
theorem f97_t (a0 : Int) (a1 : Int) (hpre : f97_pre (a0, a1)) (K : Int → Prop) (hK : ∀ y : Int, y = f97 (a0, a1) → K y) : RunF Tryz.prog f97_E f97_A 6 Tryz.f97 f97_e.doms f97_e.cods (a0, a1) K := by
  refine ⟨?_⟩
  rw [f97_run a0 a1 K]
  obtain ⟨h1, h2⟩ := hpre
  dsimp only at h1 h2
  have hn : (!(decide (a1 = 0))) = true := ne_zero_b (by omega)
  have hf : Fit (a0.tdiv a1) := tdiv_fit h1
  have he := floor_eq (a := a0) h2
  have hg := ediv_fit h1 h2
  refine br_must hn (br_must hn (br_if (fun h => hK _ ?_) fun h => hK _ ?_))
  · rw [if_pos h] at he
    rw [wr (n := a0.tdiv a1) (by have := hf.1; omega) hf.2, he]
    exact w64_fit hg
  · rw [if_neg h] at he
    rw [wr (n := a0.tdiv a1) (by have := hf.1; omega) hf.2, he]
    rfl
theorem f97_fn : f97_e.fn = f97 := rfl
theorem f97_ok : EntryOK Tryz.prog 97 f97_e := by
  refine entryF progOK (EnvOK.nil) (A := f97_A) (d := 6) Tryz.func97 rfl rfl rfl rfl (fun h => by cases h) fun x hpre => ?_
  obtain ⟨a0, a1⟩ := x
  exact f97_t a0 a1 hpre _ fun _ h => h.trans (congrFun f97_fn.symm _)
end Go.Proofs.YtglijnhkdnhofaaGreat
end

section
namespace Go.Proofs.YtglijnhkdnhofaaGreat
open Go Go.Pi Go.RowKit
set_option maxRecDepth 100000
set_option linter.unusedVariables false
set_option linter.unusedSimpArgs false

def f98 (x : Int × Int) : Int := -((-x.1) / x.2)
def f98_pre (x : Int × Int) : Prop := Fit x.1 ∧ 0 < x.2
def f98_e : Entry := { doms := [(false, (.int .i64)), (false, (.int .i64))], cods := [(false, (.int .i64))], pre := f98_pre, fn := f98, uq := false, total := false }
def f98_E : Env := [(97, f97_e)]
def f98_A : Anns := { loops := [], own := [] }
theorem f98_run (a0 : Int) (a1 : Int) (K : Int → Prop) : runF Tryz.prog f98_E f98_A 6 Tryz.f98 f98_e.doms f98_e.cods (a0, a1) K =
    (f97_pre ((IntKind.i64.wrap (0 - a0)), a1) ∧
    K (IntKind.i64.wrap (0 - (f97 ((IntKind.i64.wrap (0 - a0)), a1))))) := by kernel_rfl
theorem f98_t (a0 : Int) (a1 : Int) (hpre : f98_pre (a0, a1)) (K : Int → Prop) (hK : ∀ y : Int, y = f98 (a0, a1) → K y) : RunF Tryz.prog f98_E f98_A 6 Tryz.f98 f98_e.doms f98_e.cods (a0, a1) K := by
  refine ⟨?_⟩
  rw [f98_run a0 a1 K]
  obtain ⟨h1, h2⟩ := hpre
  dsimp only at h1 h2
  have hn := neg_fit h1
  rw [wr (n := 0 - a0) (by have := hn.1; omega) hn.2]
  refine ⟨⟨hn, h2⟩, hK _ ?_⟩
  have hf := ediv_fit hn h2
  simp only [f97, f98]
  rw [wr (n := 0 - (0 - a0) / a1) (by have := hf.1; have := hf.2; omega) (by have := hf.1; omega)]
  simp
theorem f98_fn : f98_e.fn = f98 := rfl
theorem f98_ok : EntryOK Tryz.prog 98 f98_e := by
  refine entryF progOK (EnvOK.cons f97_ok (EnvOK.nil)) (A := f98_A) (d := 6) Tryz.func98 rfl rfl rfl rfl (fun h => by cases h) fun x hpre => ?_
  obtain ⟨a0, a1⟩ := x
  exact f98_t a0 a1 hpre _ fun _ h => h.trans (congrFun f98_fn.symm _)
end Go.Proofs.YtglijnhkdnhofaaGreat
end
