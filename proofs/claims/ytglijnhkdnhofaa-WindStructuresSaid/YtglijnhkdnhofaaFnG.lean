/- What functions of the program compute, each proved once, part 7. -/
import Derived.Test.YtglijnhkdnhofaaPiD
import Derived.Test.YtglijnhkdnhofaaFnA
import Derived.Test.YtglijnhkdnhofaaFnD
import Derived.Test.YtglijnhkdnhofaaFnF

namespace Go.Proofs.Ytglijnhkdnhofaa
open Go Go.Pi Go.RowKit
set_option maxRecDepth 100000
set_option linter.unusedVariables false
set_option linter.unusedSimpArgs false

def f11 (x : List (Int × Int) × Int) : ((Int × Int) × Int × Int) × Int := strIn x.1 x.2
theorem f58_r (r : Int × Int) : f58 (r, 10000) = rngE r 10000 := by
  unfold f58 rngE
  simp only [f97_eq (show (0 : Int) ≤ 10000 by omega) (show (10000 : Int) ≤ 9223372036854775807 by omega), decide_eq_true_eq]
def f11_tail (a0 : List (Int × Int)) (a1 : Int) (K : ((Int × Int) × Int × Int) × Int → Prop) (j2_0 : Int) : Prop :=
  br (lenOk (a0.length))
  (br ((f59 ([j2_0, (f60 ((f61 (a1, (1, (IntKind.i64.wrap (((a0.length) : Int) - 1))))), 2))] : List Int)) != 0)
  (K (((0, 0), (0, 0)), (f59 ([j2_0, (f60 ((f61 (a1, (1, (IntKind.i64.wrap (((a0.length) : Int) - 1))))), 2))] : List Int))))
  (br (lenOk (a0.length))
  (LoopP (V := Int × Int × Int × Unit) (fun again v => (fun (again3 : Int → Int → Int → Prop) (v3_0 : Int) (v3_1 : Int) (v3_2 : Int) =>
  br (decide (v3_2 < (IntKind.i64.wrap (((a0.length) : Int) - a1))))
  (br (decide (0 ≤ (IntKind.i64.wrap (v3_2 + a1))) && decide ((IntKind.i64.wrap (v3_2 + a1)) < ((a0.length) : Int)))
  (br (decide (0 ≤ v3_2) && decide (v3_2 < ((a0.length) : Int)))
  (br (f61 (0, (f62 ((a0.getD ((IntKind.i64.wrap (v3_2 + a1)).toNat) (0, 0)), (a0.getD v3_2.toNat (0, 0))))))
  (again3 (IntKind.i64.wrap (v3_0 + 0)) (IntKind.i64.wrap (v3_1 + (minmax true (IntKind.i64.wrap ((f62 ((a0.getD ((IntKind.i64.wrap (v3_2 + a1)).toNat) (0, 0)), (a0.getD v3_2.toNat (0, 0)))).1 * (f62 ((a0.getD ((IntKind.i64.wrap (v3_2 + a1)).toNat) (0, 0)), (a0.getD v3_2.toNat (0, 0)))).1)) (IntKind.i64.wrap ((f62 ((a0.getD ((IntKind.i64.wrap (v3_2 + a1)).toNat) (0, 0)), (a0.getD v3_2.toNat (0, 0)))).2 * (f62 ((a0.getD ((IntKind.i64.wrap (v3_2 + a1)).toNat) (0, 0)), (a0.getD v3_2.toNat (0, 0)))).2))))) (IntKind.i64.wrap (v3_2 + 1)))
  (again3 (IntKind.i64.wrap (v3_0 + (minmax false (IntKind.i64.wrap ((f62 ((a0.getD ((IntKind.i64.wrap (v3_2 + a1)).toNat) (0, 0)), (a0.getD v3_2.toNat (0, 0)))).1 * (f62 ((a0.getD ((IntKind.i64.wrap (v3_2 + a1)).toNat) (0, 0)), (a0.getD v3_2.toNat (0, 0)))).1)) (IntKind.i64.wrap ((f62 ((a0.getD ((IntKind.i64.wrap (v3_2 + a1)).toNat) (0, 0)), (a0.getD v3_2.toNat (0, 0)))).2 * (f62 ((a0.getD ((IntKind.i64.wrap (v3_2 + a1)).toNat) (0, 0)), (a0.getD v3_2.toNat (0, 0)))).2))))) (IntKind.i64.wrap (v3_1 + (minmax true (IntKind.i64.wrap ((f62 ((a0.getD ((IntKind.i64.wrap (v3_2 + a1)).toNat) (0, 0)), (a0.getD v3_2.toNat (0, 0)))).1 * (f62 ((a0.getD ((IntKind.i64.wrap (v3_2 + a1)).toNat) (0, 0)), (a0.getD v3_2.toNat (0, 0)))).1)) (IntKind.i64.wrap ((f62 ((a0.getD ((IntKind.i64.wrap (v3_2 + a1)).toNat) (0, 0)), (a0.getD v3_2.toNat (0, 0)))).2 * (f62 ((a0.getD ((IntKind.i64.wrap (v3_2 + a1)).toNat) (0, 0)), (a0.getD v3_2.toNat (0, 0)))).2))))) (IntKind.i64.wrap (v3_2 + 1))))
  False)
  False)
  (f63_pre (v3_0, (IntKind.i64.wrap (((a0.length) : Int) - a1))) ∧
  f63_pre (v3_1, (IntKind.i64.wrap (((a0.length) : Int) - a1))) ∧
  K (((f63 (v3_0, (IntKind.i64.wrap (((a0.length) : Int) - a1)))), (f63 (v3_1, (IntKind.i64.wrap (((a0.length) : Int) - a1))))), 0)))
  (fun v3_0 v3_1 v3_2 => again (v3_0, v3_1, v3_2, ())) v.1 v.2.1 v.2.2.1) (0, 0, 0, ()))
  True))
  True
def f11_e : Entry := { doms := [(false, (.sl (.pair (.int .i64) (.int .i64)))), (false, (.int .i64))], cods := [(true, (.pair (.pair (.int .i64) (.int .i64)) (.pair (.int .i64) (.int .i64)))), (false, (.int .i64))], pre := fun _ => True, fn := f11, uq := false, total := true }
def f11_E : Env := [(58, f58_e), (59, f59_e), (60, f60_e), (61, f61_e), (62, f62_e), (63, f63_e)]
def f11_A : Anns := { loops := [(1048576, { tms := [(0, .keep), (1, .keep), (4, .keep), (8, .keep), (9, .data false (.int .i64)), (10, .data false (.int .i64)), (37, .keep), (38, .data false (.int .i64))], obs := [(1048576, .keep)], fz := [] }),
  (1572872, { tms := [(0, .keep), (1, .keep), (4, .keep), (7, .data false (.int .i64))], obs := [(1048576, .keep)], fz := [] }),
  (1100586418176, { tms := [(2, .keep), (26, .keep), (27, .keep), (28, .data false (.int .i64))], obs := [(1048576, .keep)], fz := [] })], own := [] }
theorem f11_run (a0 : List (Int × Int)) (a1 : Int) (K : (((Int × Int) × Int × Int) × Int) → Prop) : runF Try.prog f11_E f11_A 6 Try.f11 f11_e.doms f11_e.cods (a0, a1) K =
    (JoinQ (V := Int × Unit) (fun J => (fun (join2 : Int → Prop) =>
    br (lenOk (a0.length))
    (br (lenOk (a0.length))
    (br ((f59 ([(f60 ((decide (((a0.length) : Int) > 0)), 10)), (f60 ((decide (((a0.length) : Int) ≤ 30)), 8))] : List Int)) != 0)
    (join2 (f59 ([(f60 ((decide (((a0.length) : Int) > 0)), 10)), (f60 ((decide (((a0.length) : Int) ≤ 30)), 8))] : List Int)))
    (br (lenOk (a0.length))
    (LoopP (V := Int × Unit) (fun again v => (fun (again1 : Int → Prop) (v1_0 : Int) =>
    br (decide (v1_0 < ((a0.length) : Int)))
    (br (decide (0 ≤ v1_0) && decide (v1_0 < ((a0.length) : Int)))
    (br ((f58 ((a0.getD v1_0.toNat (0, 0)), 10000)) != 0)
    (join2 (f58 ((a0.getD v1_0.toNat (0, 0)), 10000)))
    (again1 (IntKind.i64.wrap (v1_0 + 1))))
    False)
    (join2 0))
    (fun v1_0 => again (v1_0, ())) v.1) (0, ()))
    True))
    True)
    True) (fun j2_0 => J (j2_0, ()))) (fun v => (fun (j2_0 : Int) =>
    f11_tail a0 a1 K j2_0) v.1)) := by kernel_rfl
theorem f11_t (a0 : List (Int × Int)) (a1 : Int) (K : (((Int × Int) × Int × Int) × Int) → Prop) (hK : ∀ y : ((Int × Int) × Int × Int) × Int, y = f11 (a0, a1) → K y) : RunF Try.prog f11_E f11_A 6 Try.f11 f11_e.doms f11_e.cods (a0, a1) K := by
  refine ⟨?_⟩
  rw [f11_run a0 a1 K]
  have e0 : f11 (a0, a1) = strIn a0 a1 := rfl
  -- behind the look at the ranges
  have tail : a0.length ≤ 9223372036854775807 → ∀ e : Int, e = rgsE a0 → f11_tail a0 a1 K e := fun hl e he => by
    unfold f11_tail
    refine br_weak ?_
    have e1 : f59 [e, f60 (f61 (a1, 1, IntKind.i64.wrap ((a0.length : Int) - 1)), 2)] = strE a0 a1 := by
      subst he
      rw [wr (n := (a0.length : Int) - 1) (by omega) (by omega), f59_cons, f59_cons, f59_nil, f61_eq, f60, strE, lagE]
      by_cases h1 : rgsE a0 = 0 <;> by_cases h2 : 1 ≤ a1 ∧ a1 ≤ (a0.length : Int) - 1 <;> simp [h1, h2]
    rw [e1]
    refine br_two (fun h => hK _ (by rw [e0, strIn, if_pos (bne_t.1 h)]; rfl)) fun h => br_weak ?_
    have h := bne_f.1 h
    obtain ⟨ok, _⟩ := strE_zero h
    obtain ⟨lag, rfl⟩ := Int.eq_ofNat_of_zero_le (show 0 ≤ a1 by have := ok.lag; omega)
    have hlag := ok.lag
    have hlen := ok.len
    have hcn : IntKind.i64.wrap ((a0.length : Int) - (lag : Int)) = ((a0.length - lag : Nat) : Int) := by rw [wr (by omega) (by omega)]; omega
    rw [hcn]
    refine LoopP.of (fun q : Int × Int × Int × Unit => ∃ i : Nat, i ≤ a0.length - lag ∧ q = (sumN (fun i => nearF (lagD a0 lag i)) i, sumN (fun i => farF (lagD a0 lag i)) i, (i : Int), ())) (fun q => ((a0.length : Int) - q.2.2.1).toNat) (fun again q hq hag => ?_) ⟨0, by omega, rfl⟩
    obtain ⟨i, hi, rfl⟩ := hq
    dsimp only
    have hs := strS ok hi
    refine br_if (fun hlt => ?_) fun hlt => ?_
    · have hlt : i < a0.length - lag := by omega
      have hd := lagD_le ok hlt
      have hn := nearF_b ok hlt
      have hf := farF_b ok hlt
      have q1 := sq_le hd.1
      have q2 := sq_le hd.2
      rw [wr (n := (i : Int) + (lag : Int)) (by omega) (by omega), wr (n := (i : Int) + 1) (by omega) (by omega)]
      have ei : ((i : Int) + (lag : Int)).toNat = i + lag := by omega
      rw [ei, Int.toNat_natCast]
      have e62 : f62 (a0.getD (i + lag) (0, 0), a0.getD i (0, 0)) = lagD a0 lag i := by
        show (w64 (lagD a0 lag i).1, w64 (lagD a0 lag i).2) = _
        rw [w64_fit (fit_le hd.1 (by omega)), w64_fit (fit_le hd.2 (by omega))]
      rw [e62, wr (n := (lagD a0 lag i).1 * (lagD a0 lag i).1) (by omega) (by omega), wr (n := (lagD a0 lag i).2 * (lagD a0 lag i).2) (by omega) (by omega)]
      have ef : minmax true ((lagD a0 lag i).1 * (lagD a0 lag i).1) ((lagD a0 lag i).2 * (lagD a0 lag i).2) = farF (lagD a0 lag i) := rfl
      rw [ef, wr (n := sumN (fun i => farF (lagD a0 lag i)) i + farF (lagD a0 lag i)) (by omega) (by omega), ← sumN_succ (fun i => farF (lagD a0 lag i))]
      refine br_must (inb (by omega) (by omega)) (br_must (inb (by omega) (by omega)) (br_two (fun h0 => ?_) fun h0 => ?_))
      · have h0 : (lagD a0 lag i).1 ≤ 0 ∧ 0 ≤ (lagD a0 lag i).2 := f61_t1.1 h0
        rw [wr (n := sumN (fun i => nearF (lagD a0 lag i)) i + 0) (by omega) (by omega)]
        refine hag _ ⟨i + 1, by omega, ?_⟩ (by dsimp only; omega)
        rw [sumN_succ (fun i => nearF (lagD a0 lag i)), nearF, if_pos h0]; simp
      · have h0 : ¬ ((lagD a0 lag i).1 ≤ 0 ∧ 0 ≤ (lagD a0 lag i).2) := f61_f1.1 h0
        have en : minmax false ((lagD a0 lag i).1 * (lagD a0 lag i).1) ((lagD a0 lag i).2 * (lagD a0 lag i).2) = nearF (lagD a0 lag i) := by rw [nearF, if_neg h0]
        rw [en, wr (n := sumN (fun i => nearF (lagD a0 lag i)) i + nearF (lagD a0 lag i)) (by omega) (by omega), ← sumN_succ (fun i => nearF (lagD a0 lag i))]
        exact hag _ ⟨i + 1, by omega, by simp⟩ (by dsimp only; omega)
    · have : i = a0.length - lag := by omega
      subst this
      refine ⟨⟨⟨by dsimp only; omega, by dsimp only; omega⟩, ⟨by dsimp only; omega, by dsimp only; omega⟩, by dsimp only; omega⟩, ⟨⟨by dsimp only; omega, by dsimp only; omega⟩, ⟨by dsimp only; omega, by dsimp only; omega⟩, by dsimp only; omega⟩, hK _ ?_⟩
      rw [e0, strIn, if_neg (fun hh => hh h)]
      simp only [strV, f63, Int.toNat_natCast]
      rw [show ((a0.length - lag : Nat) : Int) = (a0.length : Int) - lag by omega]
  refine ⟨?_⟩
  dsimp only
  rw [br_true_, lenOk_iff]
  intro hl
  refine br_weak ?_
  have ec : f59 [f60 (decide ((a0.length : Int) > 0), 10), f60 (decide ((a0.length : Int) ≤ 30), 8)] = if a0.length = 0 then 10 else if a0.length > 30 then 8 else 0 := by
    rw [f59_cons, f59_cons, f59_nil]
    by_cases h0 : a0.length = 0
    · simp [f60, h0]
    · by_cases h1 : a0.length > 30
      · simp only [f60, if_neg h0, if_pos h1]
        rw [decide_eq_true (by omega), decide_eq_false (by omega)]; rfl
      · simp only [f60, if_neg h0, if_neg h1]
        rw [decide_eq_true (by omega), decide_eq_true (by omega)]; rfl
  rw [ec]
  refine br_two (fun h => tail hl _ ?_) fun h => br_weak ?_
  · have h := bne_t.1 h
    unfold rgsE
    by_cases h0 : a0.length = 0
    · rw [if_pos h0, if_pos h0]
    · by_cases h1 : a0.length > 30
      · rw [if_neg h0, if_pos h1, if_neg h0, if_pos h1]
      · rw [if_neg h0, if_neg h1] at h; exact absurd rfl h
  · have h := bne_f.1 h
    have h0 : ¬ a0.length = 0 := fun h0 => by rw [if_pos h0] at h; cases h
    have h1 : ¬ a0.length > 30 := fun h1 => by rw [if_neg h0, if_pos h1] at h; cases h
    have er : rgsE a0 = (eachE a0.length fun i => rngE (a0.getD i (0, 0)) 10000).2 := by rw [rgsE, if_neg h0, if_neg h1]
    refine each_loop (K := fun q => f11_tail a0 a1 K q.2) (n := a0.length) (e := fun i => rngE (a0.getD i (0, 0)) 10000) (tail hl _ er.symm) (fun again i hi hI good bad fin => ?_)
    dsimp only
    refine br_if (fun hlt => ?_) fun hlt => fin (by omega)
    have hlt : i < a0.length := by omega
    refine br_must (inb (by omega) (by omega)) ?_
    rw [wr (n := (i : Int) + 1) (by omega) (by omega), Int.toNat_natCast, f58_r]
    exact br_two (fun he => bad hlt (bne_t.1 he)) fun he => good hlt (bne_f.1 he)
theorem f11_fn : f11_e.fn = f11 := rfl
theorem f11_ok : EntryOK Try.prog 11 f11_e := by
  refine entryF progOK (EnvOK.cons f58_ok (EnvOK.cons f59_ok (EnvOK.cons f60_ok (EnvOK.cons f61_ok (EnvOK.cons f62_ok (EnvOK.cons f63_ok (EnvOK.nil))))))) (A := f11_A) (d := 6) Try.func11 rfl rfl rfl rfl (fun _ _ => trivial) fun x hpre => ?_
  obtain ⟨a0, a1⟩ := x
  exact f11_t a0 a1 _ fun _ h => h.trans (congrFun f11_fn.symm _)
end Go.Proofs.Ytglijnhkdnhofaa
