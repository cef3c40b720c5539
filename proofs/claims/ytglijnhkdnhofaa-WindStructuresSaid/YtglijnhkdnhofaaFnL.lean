/- What functions of the program compute, each proved once, part 12. -/
import Derived.Test.YtglijnhkdnhofaaPiD
import Derived.Test.YtglijnhkdnhofaaFnA
import Derived.Test.YtglijnhkdnhofaaFnJ
import Derived.Test.YtglijnhkdnhofaaFnF
import Derived.Test.YtglijnhkdnhofaaFnE
import Derived.Test.YtglijnhkdnhofaaFnG
import Derived.Test.YtglijnhkdnhofaaFnH
import Derived.Test.YtglijnhkdnhofaaFnI
import Derived.Test.YtglijnhkdnhofaaFnK

section
namespace Go.Proofs.Ytglijnhkdnhofaa
open Go Go.Pi Go.RowKit
set_option maxRecDepth 100000
set_option linter.unusedVariables false
set_option linter.unusedSimpArgs false

def f17 (x : List (Int × Int) × Int) : Int := strE x.1 x.2
def f17_e : Entry := { doms := [(false, (.sl (.pair (.int .i64) (.int .i64)))), (false, (.int .i64))], cods := [(false, (.int .i64))], pre := fun _ => True, fn := f17, uq := false, total := true }
def f17_E : Env := [(35, f35_e), (64, f64_e)]
def f17_A : Anns := { loops := [(1048576, { tms := [(0, .keep), (1, .keep), (5, .data false (.int .i64))], obs := [], fz := [] })], own := [] }
theorem f17_run (a0 : List (Int × Int)) (a1 : Int) (K : Int → Prop) : runF Try.prog f17_E f17_A 6 Try.f17 f17_e.doms f17_e.cods (a0, a1) K =
    (br (lenOk (a0.length))
    (br (((a0.length) : Int) == 0)
    (K 10)
    (br (lenOk (a0.length))
    (br (decide (((a0.length) : Int) > 30))
    (K 8)
    (LoopP (V := Int × Unit) (fun again v => (fun (again1 : Int → Prop) (v1_0 : Int) =>
    br (lenOk (a0.length))
    (br (decide (v1_0 < ((a0.length) : Int)))
    (br (decide (0 ≤ v1_0) && decide (v1_0 < ((a0.length) : Int)))
    (br (!(f35 ((a0.getD v1_0.toNat (0, 0)).1, ((-10000), 10000))))
    (K 2)
    (br (decide (0 ≤ v1_0) && decide (v1_0 < ((a0.length) : Int)))
    (br (!(f35 ((a0.getD v1_0.toNat (0, 0)).2, ((-10000), 10000))))
    (K 2)
    (br (decide (0 ≤ v1_0) && decide (v1_0 < ((a0.length) : Int)))
    (br (decide (0 ≤ v1_0) && decide (v1_0 < ((a0.length) : Int)))
    (br (decide ((a0.getD v1_0.toNat (0, 0)).1 > (a0.getD v1_0.toNat (0, 0)).2))
    (K 9)
    (again1 (IntKind.i64.wrap (v1_0 + 1))))
    False)
    False))
    False))
    False)
    (br (lenOk (a0.length))
    (K (f64 (((a0.length) : Int), a1)))
    True))
    True)
    (fun v1_0 => again (v1_0, ())) v.1) (0, ())))
    True))
    True) := by kernel_rfl
theorem f17_t (a0 : List (Int × Int)) (a1 : Int) (K : Int → Prop) (hK : ∀ y : Int, y = f17 (a0, a1) → K y) : RunF Try.prog f17_E f17_A 6 Try.f17 f17_e.doms f17_e.cods (a0, a1) K := by
  refine ⟨?_⟩
  rw [f17_run a0 a1 K]
  have e0 : f17 (a0, a1) = strE a0 a1 := rfl
  have e35 : ∀ n : Int, f35 (n, -10000, 10000) = decide (-10000 ≤ n ∧ n ≤ 10000) := fun n => by simp [f35]
  rw [br_true_, lenOk_iff]
  intro hl
  refine br_two (fun h => hK _ ?_) fun h => br_weak (br_if (fun h2 => hK _ ?_) fun h2 => ?_)
  · have h : a0.length = 0 := by have := beq_iff_eq.1 h; omega
    rw [e0, strE, rgsE, if_pos h, if_pos (by decide)]
  · have h : ¬ a0.length = 0 := by have := beq_eq_false_iff_ne.1 h; omega
    rw [e0, strE, rgsE, if_neg h, if_pos (show a0.length > 30 by omega), if_pos (show (8 : Int) ≠ 0 by decide)]
  · have h0 : ¬ a0.length = 0 := by have := beq_eq_false_iff_ne.1 h; omega
    have h1 : ¬ a0.length > 30 := by omega
    have er : rgsE a0 = (eachE a0.length fun i => rngE (a0.getD i (0, 0)) 10000).2 := by rw [rgsE, if_neg h0, if_neg h1]
    have e64 : f64 ((a0.length : Int), a1) = lagE a0.length a1 := by
      show (if 1 ≤ a1 ∧ a1 ≤ w64 ((a0.length : Int) - 1) then (0 : Int) else 2) = _
      rw [w64_in (by omega) (by omega)]; rfl
    have hK1 : rgsE a0 ≠ 0 → K (rgsE a0) := fun h => hK _ (by rw [e0, strE, if_pos h])
    have hK0 : rgsE a0 = 0 → K (lagE a0.length a1) := fun h => hK _ (by rw [e0, strE, if_neg (fun hh => hh h)])
    refine each_loop (K := fun q => (q.2 ≠ 0 → K q.2) ∧ (q.2 = 0 → K (lagE a0.length a1))) (n := a0.length) (e := fun i => rngE (a0.getD i (0, 0)) 10000) ⟨fun h => by rw [← er] at h ⊢; exact hK1 h, fun h => hK0 (er.trans h)⟩ (fun again i hi hI good bad fin => ?_)
    dsimp only
    refine br_weak (br_if (fun hlt => ?_) fun hlt => br_weak (by rw [e64]; exact (fin (by omega)).2 rfl))
    have hlt : i < a0.length := by omega
    have b0 : (decide (0 ≤ (i : Int)) && decide ((i : Int) < (a0.length : Int))) = true := inb (by omega) (by omega)
    rw [wr (n := (i : Int) + 1) (by omega) (by omega), Int.toNat_natCast]
    generalize a0.getD i (0, 0) = x at *
    rw [e35, e35]
    refine br_must b0 (br_two (fun h3 => ?_) fun h3 => br_must b0 (br_two (fun h4 => ?_) fun h4 => br_must b0 (br_must b0 (br_if (fun h5 => ?_) fun h5 => ?_))))
    · have e : rngE x 10000 = 2 := by rw [rngE, if_pos (fun h => nd_t.1 h3 h.1)]
      have := bad hlt (by rw [e]; decide)
      rw [e] at this
      exact this.1 (fun hh => by cases hh)
    · have e : rngE x 10000 = 2 := by rw [rngE, if_pos (fun h => nd_t.1 h4 h.2)]
      have := bad hlt (by rw [e]; decide)
      rw [e] at this
      exact this.1 (fun hh => by cases hh)
    · have e : rngE x 10000 = 9 := by rw [rngE, if_neg (fun h => h ⟨nd_f.1 h3, nd_f.1 h4⟩), if_neg (by omega)]
      have := bad hlt (by rw [e]; decide)
      rw [e] at this
      exact this.1 (fun hh => by cases hh)
    · exact good hlt (by rw [rngE, if_neg (fun h => h ⟨nd_f.1 h3, nd_f.1 h4⟩), if_pos (by omega)])
theorem f17_fn : f17_e.fn = f17 := rfl
theorem f17_ok : EntryOK Try.prog 17 f17_e := by
  refine entryF progOK (EnvOK.cons f35_ok (EnvOK.cons f64_ok (EnvOK.nil))) (A := f17_A) (d := 6) Try.func17 rfl rfl rfl rfl (fun _ _ => trivial) fun x hpre => ?_
  obtain ⟨a0, a1⟩ := x
  exact f17_t a0 a1 _ fun _ h => h.trans (congrFun f17_fn.symm _)
end Go.Proofs.Ytglijnhkdnhofaa
end

section
namespace Go.Proofs.Ytglijnhkdnhofaa
open Go Go.Pi Go.RowKit
set_option maxRecDepth 100000
set_option linter.unusedVariables false
set_option linter.unusedSimpArgs false

def f66 (x : (Int × Int) × Int × Int) : Int × Int := (w64 (x.1.1 - x.2.2), w64 (x.1.2 - x.2.1))
def f66_e : Entry := { doms := [(true, (.pair (.int .i64) (.int .i64))), (true, (.pair (.int .i64) (.int .i64)))], cods := [(true, (.pair (.int .i64) (.int .i64)))], pre := fun _ => True, fn := f66, uq := false, total := true }
def f66_E : Env := []
def f66_A : Anns := { loops := [], own := [] }
theorem f66_run (a0 : Int × Int) (a1 : Int × Int) (K : (Int × Int) → Prop) : runF Try.prog f66_E f66_A 6 Try.f66 f66_e.doms f66_e.cods (a0, a1) K =
    (K ((IntKind.i64.wrap (a0.1 - a1.2)), (IntKind.i64.wrap (a0.2 - a1.1)))) := by kernel_rfl
theorem f66_t (a0 : Int × Int) (a1 : Int × Int) (K : (Int × Int) → Prop) (hK : ∀ y : Int × Int, y = f66 (a0, a1) → K y) : RunF Try.prog f66_E f66_A 6 Try.f66 f66_e.doms f66_e.cods (a0, a1) K := by
  refine ⟨?_⟩
  rw [f66_run a0 a1 K]
  exact hK _ rfl
theorem f66_fn : f66_e.fn = f66 := rfl
theorem f66_ok : EntryOK Try.prog 66 f66_e := by
  refine entryF progOK (EnvOK.nil) (A := f66_A) (d := 6) Try.func66 rfl rfl rfl rfl (fun _ _ => trivial) fun x hpre => ?_
  obtain ⟨a0, a1⟩ := x
  exact f66_t a0 a1 _ fun _ h => h.trans (congrFun f66_fn.symm _)
end Go.Proofs.Ytglijnhkdnhofaa
end

section
namespace Go.Proofs.Ytglijnhkdnhofaa
open Go Go.Pi Go.RowKit
set_option maxRecDepth 100000
set_option linter.unusedVariables false
set_option linter.unusedSimpArgs false

def f18 (x : List (Int × Int) × Int) : (Int × Int) × Int × Int := strV x.1 x.2.toNat
def f18_pre (x : List (Int × Int) × Int) : Prop := strE x.1 x.2 = 0
def f18_e : Entry := { doms := [(false, (.sl (.pair (.int .i64) (.int .i64)))), (false, (.int .i64))], cods := [(true, (.pair (.pair (.int .i64) (.int .i64)) (.pair (.int .i64) (.int .i64))))], pre := f18_pre, fn := f18, uq := false, total := false }
def f18_E : Env := [(65, f65_e), (66, f66_e)]
def f18_A : Anns := { loops := [(1048576, { tms := [(0, .keep), (1, .keep), (4, .keep), (5, .data false (.int .i64)), (6, .data false (.int .i64)), (7, .data false (.int .i64))], obs := [(1048576, .keep)], fz := [] })], own := [] }
theorem f18_run (a0 : List (Int × Int)) (a1 : Int) (K : ((Int × Int) × Int × Int) → Prop) : runF Try.prog f18_E f18_A 6 Try.f18 f18_e.doms f18_e.cods (a0, a1) K =
    (LoopP (V := Int × Int × Int × Unit) (fun again v => (fun (again1 : Int → Int → Int → Prop) (v1_0 : Int) (v1_1 : Int) (v1_2 : Int) =>
    br (lenOk (a0.length))
    (br (decide (v1_2 < ((a0.length) : Int)))
    (br (decide (0 ≤ v1_2) && decide (v1_2 < ((a0.length) : Int)))
    (br (decide (0 ≤ (IntKind.i64.wrap (v1_2 - a1))) && decide ((IntKind.i64.wrap (v1_2 - a1)) < ((a0.length) : Int)))
    (br (decide ((f66 ((a0.getD v1_2.toNat (0, 0)), (a0.getD ((IntKind.i64.wrap (v1_2 - a1)).toNat) (0, 0)))).1 > 0))
    (again1 (IntKind.i64.wrap (v1_0 + (minmax false (IntKind.i64.wrap ((f66 ((a0.getD v1_2.toNat (0, 0)), (a0.getD ((IntKind.i64.wrap (v1_2 - a1)).toNat) (0, 0)))).1 * (f66 ((a0.getD v1_2.toNat (0, 0)), (a0.getD ((IntKind.i64.wrap (v1_2 - a1)).toNat) (0, 0)))).1)) (IntKind.i64.wrap ((f66 ((a0.getD v1_2.toNat (0, 0)), (a0.getD ((IntKind.i64.wrap (v1_2 - a1)).toNat) (0, 0)))).2 * (f66 ((a0.getD v1_2.toNat (0, 0)), (a0.getD ((IntKind.i64.wrap (v1_2 - a1)).toNat) (0, 0)))).2))))) (IntKind.i64.wrap (v1_1 + (minmax true (IntKind.i64.wrap ((f66 ((a0.getD v1_2.toNat (0, 0)), (a0.getD ((IntKind.i64.wrap (v1_2 - a1)).toNat) (0, 0)))).1 * (f66 ((a0.getD v1_2.toNat (0, 0)), (a0.getD ((IntKind.i64.wrap (v1_2 - a1)).toNat) (0, 0)))).1)) (IntKind.i64.wrap ((f66 ((a0.getD v1_2.toNat (0, 0)), (a0.getD ((IntKind.i64.wrap (v1_2 - a1)).toNat) (0, 0)))).2 * (f66 ((a0.getD v1_2.toNat (0, 0)), (a0.getD ((IntKind.i64.wrap (v1_2 - a1)).toNat) (0, 0)))).2))))) (IntKind.i64.wrap (v1_2 + 1)))
    (br (decide ((f66 ((a0.getD v1_2.toNat (0, 0)), (a0.getD ((IntKind.i64.wrap (v1_2 - a1)).toNat) (0, 0)))).2 < 0))
    (again1 (IntKind.i64.wrap (v1_0 + (minmax false (IntKind.i64.wrap ((f66 ((a0.getD v1_2.toNat (0, 0)), (a0.getD ((IntKind.i64.wrap (v1_2 - a1)).toNat) (0, 0)))).1 * (f66 ((a0.getD v1_2.toNat (0, 0)), (a0.getD ((IntKind.i64.wrap (v1_2 - a1)).toNat) (0, 0)))).1)) (IntKind.i64.wrap ((f66 ((a0.getD v1_2.toNat (0, 0)), (a0.getD ((IntKind.i64.wrap (v1_2 - a1)).toNat) (0, 0)))).2 * (f66 ((a0.getD v1_2.toNat (0, 0)), (a0.getD ((IntKind.i64.wrap (v1_2 - a1)).toNat) (0, 0)))).2))))) (IntKind.i64.wrap (v1_1 + (minmax true (IntKind.i64.wrap ((f66 ((a0.getD v1_2.toNat (0, 0)), (a0.getD ((IntKind.i64.wrap (v1_2 - a1)).toNat) (0, 0)))).1 * (f66 ((a0.getD v1_2.toNat (0, 0)), (a0.getD ((IntKind.i64.wrap (v1_2 - a1)).toNat) (0, 0)))).1)) (IntKind.i64.wrap ((f66 ((a0.getD v1_2.toNat (0, 0)), (a0.getD ((IntKind.i64.wrap (v1_2 - a1)).toNat) (0, 0)))).2 * (f66 ((a0.getD v1_2.toNat (0, 0)), (a0.getD ((IntKind.i64.wrap (v1_2 - a1)).toNat) (0, 0)))).2))))) (IntKind.i64.wrap (v1_2 + 1)))
    (again1 v1_0 (IntKind.i64.wrap (v1_1 + (minmax true (IntKind.i64.wrap ((f66 ((a0.getD v1_2.toNat (0, 0)), (a0.getD ((IntKind.i64.wrap (v1_2 - a1)).toNat) (0, 0)))).1 * (f66 ((a0.getD v1_2.toNat (0, 0)), (a0.getD ((IntKind.i64.wrap (v1_2 - a1)).toNat) (0, 0)))).1)) (IntKind.i64.wrap ((f66 ((a0.getD v1_2.toNat (0, 0)), (a0.getD ((IntKind.i64.wrap (v1_2 - a1)).toNat) (0, 0)))).2 * (f66 ((a0.getD v1_2.toNat (0, 0)), (a0.getD ((IntKind.i64.wrap (v1_2 - a1)).toNat) (0, 0)))).2))))) (IntKind.i64.wrap (v1_2 + 1)))))
    False)
    False)
    (br (lenOk (a0.length))
    (f65_pre (v1_0, (IntKind.i64.wrap (((a0.length) : Int) - a1))) ∧
    br (lenOk (a0.length))
    (f65_pre (v1_1, (IntKind.i64.wrap (((a0.length) : Int) - a1))) ∧
    K ((f65 (v1_0, (IntKind.i64.wrap (((a0.length) : Int) - a1)))), (f65 (v1_1, (IntKind.i64.wrap (((a0.length) : Int) - a1))))))
    True)
    True))
    True)
    (fun v1_0 v1_1 v1_2 => again (v1_0, v1_1, v1_2, ())) v.1 v.2.1 v.2.2.1) (0, 0, a1, ())) := by kernel_rfl
theorem f18_t (a0 : List (Int × Int)) (a1 : Int) (hpre : f18_pre (a0, a1)) (K : ((Int × Int) × Int × Int) → Prop) (hK : ∀ y : (Int × Int) × Int × Int, y = f18 (a0, a1) → K y) : RunF Try.prog f18_E f18_A 6 Try.f18 f18_e.doms f18_e.cods (a0, a1) K := by
  refine ⟨?_⟩
  rw [f18_run a0 a1 K]
  have h : strE a0 a1 = 0 := hpre
  have e0 : f18 (a0, a1) = strV a0 a1.toNat := rfl
  obtain ⟨ok, _⟩ := strE_zero h
  obtain ⟨lag, rfl⟩ := Int.eq_ofNat_of_zero_le (show 0 ≤ a1 by have := ok.lag; omega)
  have hlag := ok.lag
  have hlen := ok.len
  have hcn : IntKind.i64.wrap ((a0.length : Int) - (lag : Int)) = ((a0.length - lag : Nat) : Int) := by rw [wr (by omega) (by omega)]; omega
  rw [hcn]
  refine LoopP.of (fun q : Int × Int × Int × Unit => ∃ i : Nat, i ≤ a0.length - lag ∧ q = (sumN (fun i => nearF (lagD a0 lag i)) i, sumN (fun i => farF (lagD a0 lag i)) i, ((lag + i : Nat) : Int), ())) (fun q => ((a0.length : Int) - q.2.2.1).toNat) (fun again q hq hag => ?_) ⟨0, by omega, rfl⟩
  obtain ⟨i, hi, rfl⟩ := hq
  dsimp only
  have hs := strS ok hi
  refine br_weak (br_if (fun hlt => ?_) fun hlt => ?_)
  · have hlt : i < a0.length - lag := by omega
    have hd := lagD_le ok hlt
    have hn := nearF_b ok hlt
    have hf := farF_b ok hlt
    have q1 := sq_le hd.1
    have q2 := sq_le hd.2
    rw [wr (n := ((lag + i : Nat) : Int) - (lag : Int)) (by omega) (by omega), wr (n := ((lag + i : Nat) : Int) + 1) (by omega) (by omega)]
    have ei : (((lag + i : Nat) : Int) - (lag : Int)).toNat = i := by omega
    rw [ei, Int.toNat_natCast]
    have e66 : f66 (a0.getD (lag + i) (0, 0), a0.getD i (0, 0)) = lagD a0 lag i := by
      rw [Nat.add_comm lag i]
      show (w64 (lagD a0 lag i).1, w64 (lagD a0 lag i).2) = _
      rw [w64_fit (fit_le hd.1 (by omega)), w64_fit (fit_le hd.2 (by omega))]
    rw [e66, wr (n := (lagD a0 lag i).1 * (lagD a0 lag i).1) (by omega) (by omega), wr (n := (lagD a0 lag i).2 * (lagD a0 lag i).2) (by omega) (by omega)]
    have ef : minmax true ((lagD a0 lag i).1 * (lagD a0 lag i).1) ((lagD a0 lag i).2 * (lagD a0 lag i).2) = farF (lagD a0 lag i) := rfl
    rw [ef, wr (n := sumN (fun i => farF (lagD a0 lag i)) i + farF (lagD a0 lag i)) (by omega) (by omega), ← sumN_succ (fun i => farF (lagD a0 lag i))]
    have step : ∀ s, s = sumN (fun i => nearF (lagD a0 lag i)) (i + 1) → again (s, sumN (fun i => farF (lagD a0 lag i)) (i + 1), ((lag + i : Nat) : Int) + 1, ()) := fun s hs => hag _ ⟨i + 1, by omega, by rw [hs]; simp; omega⟩ (by dsimp only; omega)
    have en : ¬ ((lagD a0 lag i).1 ≤ 0 ∧ 0 ≤ (lagD a0 lag i).2) → IntKind.i64.wrap (sumN (fun i => nearF (lagD a0 lag i)) i + minmax false ((lagD a0 lag i).1 * (lagD a0 lag i).1) ((lagD a0 lag i).2 * (lagD a0 lag i).2)) = sumN (fun i => nearF (lagD a0 lag i)) (i + 1) := fun h0 => by
      have en : minmax false ((lagD a0 lag i).1 * (lagD a0 lag i).1) ((lagD a0 lag i).2 * (lagD a0 lag i).2) = nearF (lagD a0 lag i) := by rw [nearF, if_neg h0]
      rw [en, wr (by omega) (by omega), ← sumN_succ (fun i => nearF (lagD a0 lag i))]
    refine br_must (inb (by omega) (by omega)) (br_must (inb (by omega) (by omega)) (br_if (fun h1 => step _ (en (by omega))) fun h1 => br_if (fun h2 => step _ (en (by omega))) fun h2 => step _ ?_))
    rw [sumN_succ (fun i => nearF (lagD a0 lag i)), nearF, if_pos ⟨by omega, by omega⟩]; simp
  · have : i = a0.length - lag := by omega
    subst this
    refine br_weak ⟨⟨⟨by dsimp only; omega, by dsimp only; omega⟩, ⟨by dsimp only; omega, by dsimp only; omega⟩, by dsimp only; omega⟩, br_weak ⟨⟨⟨by dsimp only; omega, by dsimp only; omega⟩, ⟨by dsimp only; omega, by dsimp only; omega⟩, by dsimp only; omega⟩, hK _ ?_⟩⟩
    rw [e0]
    simp only [strV, f65, Int.toNat_natCast]
    rw [show ((a0.length - lag : Nat) : Int) = (a0.length : Int) - lag by omega]
theorem f18_fn : f18_e.fn = f18 := rfl
theorem f18_ok : EntryOK Try.prog 18 f18_e := by
  refine entryF progOK (EnvOK.cons f65_ok (EnvOK.cons f66_ok (EnvOK.nil))) (A := f18_A) (d := 6) Try.func18 rfl rfl rfl rfl (fun h => by cases h) fun x hpre => ?_
  obtain ⟨a0, a1⟩ := x
  exact f18_t a0 a1 hpre _ fun _ h => h.trans (congrFun f18_fn.symm _)
end Go.Proofs.Ytglijnhkdnhofaa
end

section
namespace Go.Proofs.Ytglijnhkdnhofaa
open Go Go.Pi Go.RowKit
set_option maxRecDepth 100000
set_option linter.unusedVariables false
set_option linter.unusedSimpArgs false

def f19 (x : Int × Int) : Int := if x.1.tmod x.2 < 0 then IntKind.i64.wrap (x.1.tmod x.2 + x.2) else x.1.tmod x.2
def f19_pre (x : Int × Int) : Prop := x.2 ≠ 0
def f19_e : Entry := { doms := [(false, (.int .i64)), (false, (.int .i64))], cods := [(false, (.int .i64))], pre := f19_pre, fn := f19, uq := false, total := false }
def f19_E : Env := []
def f19_A : Anns := { loops := [], own := [] }
theorem f19_run (a0 : Int) (a1 : Int) (K : Int → Prop) : runF Try.prog f19_E f19_A 6 Try.f19 f19_e.doms f19_e.cods (a0, a1) K =
    (br (!(decide (a1 = 0)))
    (br (decide ((a0.tmod a1) < 0))
    (K (IntKind.i64.wrap ((a0.tmod a1) + a1)))
    (K (a0.tmod a1)))
    False) := by kernel_rfl
theorem f19_t (a0 : Int) (a1 : Int) (hpre : f19_pre (a0, a1)) (K : Int → Prop) (hK : ∀ y : Int, y = f19 (a0, a1) → K y) : RunF Try.prog f19_E f19_A 6 Try.f19 f19_e.doms f19_e.cods (a0, a1) K := by
  refine ⟨?_⟩
  rw [f19_run a0 a1 K]
  have h : (!(decide (a1 = 0))) = true := by
    have h1 : a1 ≠ 0 := hpre
    simpa using h1
  rw [br_false_]
  refine ⟨h, ?_⟩
  rw [br_dec]
  exact ⟨fun h => hK _ (by simp [f19, h]), fun h => hK _ (by simp [f19, h])⟩
theorem f19_fn : f19_e.fn = f19 := rfl
theorem f19_ok : EntryOK Try.prog 19 f19_e := by
  refine entryF progOK (EnvOK.nil) (A := f19_A) (d := 6) Try.func19 rfl rfl rfl rfl (fun h => by cases h) fun x hpre => ?_
  obtain ⟨a0, a1⟩ := x
  exact f19_t a0 a1 hpre _ fun _ h => h.trans (congrFun f19_fn.symm _)
theorem f19_four (t : Int) : 0 ≤ f19 (t, 4) ∧ f19 (t, 4) < 4 := by
  have h1 : t.tmod 4 < 4 := Int.tmod_lt_of_pos t (by omega)
  have h2 : -4 < t.tmod 4 := by
    have := Int.lt_tmod_of_pos t (show (0 : Int) < 4 by omega)
    omega
  simp only [f19]
  split
  · rw [wr (by omega) (by omega)]
    omega
  · omega
theorem f19_nonneg {t : Int} (h : 0 ≤ t) : f19 (t, 4) = t.tmod 4 := by
  have : 0 ≤ t.tmod 4 := Int.tmod_nonneg 4 h
  simp only [f19]
  rw [if_neg (by omega)]
theorem f19_range {x b : Int} (h : 0 < b) (hb : b ≤ 9223372036854775807) : 0 ≤ f19 (x, b) ∧ f19 (x, b) < b := by
  have h1 : x.tmod b < b := Int.tmod_lt_of_pos x h
  have h2 : -b < x.tmod b := by
    have := Int.lt_tmod_of_pos x h
    omega
  simp only [f19]
  split
  · rw [wr (by omega) (by omega)]
    omega
  · omega
end Go.Proofs.Ytglijnhkdnhofaa
end

section
namespace Go.Proofs.Ytglijnhkdnhofaa
open Go Go.Pi Go.RowKit
set_option maxRecDepth 100000
set_option linter.unusedVariables false
set_option linter.unusedSimpArgs false

def f67 (x : Int × Int) : Int := x.1 / x.2
def f67_pre (x : Int × Int) : Prop := Fit x.1 ∧ 0 < x.2
def f67_e : Entry := { doms := [(false, (.int .i64)), (false, (.int .i64))], cods := [(false, (.int .i64))], pre := f67_pre, fn := f67, uq := false, total := false }
def f67_E : Env := []
def f67_A : Anns := { loops := [], own := [] }
theorem f67_run (a0 : Int) (a1 : Int) (K : Int → Prop) : runF Try.prog f67_E f67_A 6 Try.f67 f67_e.doms f67_e.cods (a0, a1) K =
    (br (!(decide (a1 = 0)))
    (br (!(decide (a1 = 0)))
    (br (decide ((a0.tmod a1) < 0))
    (K (IntKind.i64.wrap ((IntKind.i64.wrap (a0.tdiv a1)) - 1)))
    (K (IntKind.i64.wrap (a0.tdiv a1))))
    False)
    False) := by kernel_rfl
theorem f67_t (a0 : Int) (a1 : Int) (hpre : f67_pre (a0, a1)) (K : Int → Prop) (hK : ∀ y : Int, y = f67 (a0, a1) → K y) : RunF Try.prog f67_E f67_A 6 Try.f67 f67_e.doms f67_e.cods (a0, a1) K := by
  refine ⟨?_⟩
  rw [f67_run a0 a1 K]
  obtain ⟨h1, h2⟩ := hpre
  dsimp only at h1 h2
  have hn : (!(decide (a1 = 0))) = true := ne_zero_b (by omega)
  have hf : Fit (a0.tdiv a1) := tdiv_fit h1
  have he := floor_eq (a := a0) h2
  have hg := ediv_fit h1 h2
  refine br_must hn (br_must hn (br_if (fun h => hK _ ?_) fun h => hK _ ?_))
  · rw [if_pos h] at he
    rw [wr (n := a0.tdiv a1) (by have := hf.1; omega) hf.2, he]
    exact w64_fit hg
  · rw [if_neg h] at he
    rw [wr (n := a0.tdiv a1) (by have := hf.1; omega) hf.2, he]
    rfl
theorem f67_fn : f67_e.fn = f67 := rfl
theorem f67_ok : EntryOK Try.prog 67 f67_e := by
  refine entryF progOK (EnvOK.nil) (A := f67_A) (d := 6) Try.func67 rfl rfl rfl rfl (fun h => by cases h) fun x hpre => ?_
  obtain ⟨a0, a1⟩ := x
  exact f67_t a0 a1 hpre _ fun _ h => h.trans (congrFun f67_fn.symm _)
end Go.Proofs.Ytglijnhkdnhofaa
end

section
namespace Go.Proofs.Ytglijnhkdnhofaa
open Go Go.Pi Go.RowKit
set_option maxRecDepth 100000
set_option linter.unusedVariables false
set_option linter.unusedSimpArgs false

def f20 (x : Int × Int × Int × Int) : Int := cmpQ x
def f20_pre (x : Int × Int × Int × Int) : Prop := Fit x.1 ∧ Fit x.2.1 ∧ Fit x.2.2.1 ∧ Fit x.2.2.2 ∧ 0 < x.2.1 ∧ 0 < x.2.2.2
def f20_e : Entry := { doms := [(false, (.int .i64)), (false, (.int .i64)), (false, (.int .i64)), (false, (.int .i64))], cods := [(false, (.int .i64))], pre := f20_pre, fn := f20, uq := false, total := false }
def f20_E : Env := [(67, f67_e)]
def f20_A : Anns := { loops := [(1048576, { tms := [(0, .data false (.int .i64)), (1, .data false (.int .i64)), (2, .data false (.int .i64)), (3, .data false (.int .i64))], obs := [], fz := [] })], own := [] }
theorem f20_run (a0 : Int) (a1 : Int) (a2 : Int) (a3 : Int) (K : Int → Prop) : runF Try.prog f20_E f20_A 6 Try.f20 f20_e.doms f20_e.cods (a0, a1, a2, a3) K =
    (LoopP (V := Int × Int × Int × Int × Unit) (fun again v => (fun (again1 : Int → Int → Int → Int → Prop) (v1_0 : Int) (v1_1 : Int) (v1_2 : Int) (v1_3 : Int) =>
    f67_pre (v1_0, v1_1) ∧
    f67_pre (v1_2, v1_3) ∧
    br (decide ((f67 (v1_0, v1_1)) < (f67 (v1_2, v1_3))))
    (K (-1))
    (br (decide ((f67 (v1_0, v1_1)) > (f67 (v1_2, v1_3))))
    (K 1)
    (br ((IntKind.i64.wrap (v1_0 - (IntKind.i64.wrap ((f67 (v1_0, v1_1)) * v1_1)))) == 0)
    (br ((IntKind.i64.wrap (v1_2 - (IntKind.i64.wrap ((f67 (v1_2, v1_3)) * v1_3)))) == 0)
    (K 0)
    (br ((IntKind.i64.wrap (v1_0 - (IntKind.i64.wrap ((f67 (v1_0, v1_1)) * v1_1)))) == 0)
    (K (-1))
    (br ((IntKind.i64.wrap (v1_2 - (IntKind.i64.wrap ((f67 (v1_2, v1_3)) * v1_3)))) == 0)
    (K 1)
    (again1 v1_3 (IntKind.i64.wrap (v1_2 - (IntKind.i64.wrap ((f67 (v1_2, v1_3)) * v1_3)))) v1_1 (IntKind.i64.wrap (v1_0 - (IntKind.i64.wrap ((f67 (v1_0, v1_1)) * v1_1))))))))
    (br ((IntKind.i64.wrap (v1_0 - (IntKind.i64.wrap ((f67 (v1_0, v1_1)) * v1_1)))) == 0)
    (K (-1))
    (br ((IntKind.i64.wrap (v1_2 - (IntKind.i64.wrap ((f67 (v1_2, v1_3)) * v1_3)))) == 0)
    (K 1)
    (again1 v1_3 (IntKind.i64.wrap (v1_2 - (IntKind.i64.wrap ((f67 (v1_2, v1_3)) * v1_3)))) v1_1 (IntKind.i64.wrap (v1_0 - (IntKind.i64.wrap ((f67 (v1_0, v1_1)) * v1_1))))))))))
    (fun v1_0 v1_1 v1_2 v1_3 => again (v1_0, v1_1, v1_2, v1_3, ())) v.1 v.2.1 v.2.2.1 v.2.2.2.1) (a0, a1, a2, a3, ())) := by kernel_rfl
theorem f20_t (a0 : Int) (a1 : Int) (a2 : Int) (a3 : Int) (hpre : f20_pre (a0, a1, a2, a3)) (K : Int → Prop) (hK : ∀ y : Int, y = f20 (a0, a1, a2, a3) → K y) : RunF Try.prog f20_E f20_A 6 Try.f20 f20_e.doms f20_e.cods (a0, a1, a2, a3) K := by
  refine ⟨?_⟩
  rw [f20_run a0 a1 a2 a3 K]
  have hK2 : ∀ y, y = cmpQ (a0, a1, a2, a3) → K y := hK
  clear hK
  refine LoopP.of (fun q : Int × Int × Int × Int × Unit => f20_pre (q.1, q.2.1, q.2.2.1, q.2.2.2.1) ∧ cmpQ (q.1, q.2.1, q.2.2.1, q.2.2.2.1) = cmpQ (a0, a1, a2, a3)) (fun q => (q.2.1 + q.2.2.2.1).toNat) (fun again q hq hag => ?_) ⟨hpre, rfl⟩
  obtain ⟨n, d, m, k, u⟩ := q
  obtain ⟨⟨f1, f2, f3, f4, hd, hk⟩, hc⟩ := hq
  dsimp only at f1 f2 f3 f4 hd hk hc ⊢
  have e1 : f67 (n, d) = n / d := rfl
  have e2 : f67 (m, k) = m / k := rfl
  rw [e1, e2]
  have g1 : IntKind.i64.wrap (n - IntKind.i64.wrap (n / d * d)) = n % d := by
    rw [wrap_sub_r, Int.mul_comm, ← Int.emod_def]
    have := Int.emod_nonneg n (show d ≠ 0 by omega)
    have := Int.emod_lt_of_pos n hd
    exact wr (by omega) (by have := f2.2; omega)
  have g2 : IntKind.i64.wrap (m - IntKind.i64.wrap (m / k * k)) = m % k := by
    rw [wrap_sub_r, Int.mul_comm, ← Int.emod_def]
    have := Int.emod_nonneg m (show k ≠ 0 by omega)
    have := Int.emod_lt_of_pos m hk
    exact wr (by omega) (by have := f4.2; omega)
  rw [g1, g2]
  have hn0 := Int.emod_nonneg n (show d ≠ 0 by omega)
  have hnd := Int.emod_lt_of_pos n hd
  have hm0 := Int.emod_nonneg m (show k ≠ 0 by omega)
  have hmk := Int.emod_lt_of_pos m hk
  have en := Int.mul_ediv_add_emod n d
  have em := Int.mul_ediv_add_emod m k
  generalize n / d = p at *
  generalize m / k = q at *
  generalize n % d = n' at *
  generalize m % k = m' at *
  have key : n * k - m * d = (p - q) * (d * k) + (n' * k - m' * d) := by rw [← en, ← em]; grind
  have hdk : 0 < d * k := Int.mul_pos hd hk
  have b1 : 0 ≤ n' * k := Int.mul_nonneg hn0 (by omega)
  have b2 : n' * k < d * k := Int.mul_lt_mul_of_pos_right hnd hk
  have b3 : 0 ≤ m' * d := Int.mul_nonneg hm0 (by omega)
  have b4 : m' * d < k * d := Int.mul_lt_mul_of_pos_right hmk hd
  have b5 : k * d = d * k := Int.mul_comm _ _
  have lo : p < q → cmpQ (n, d, m, k) = -1 := fun h => by
    have : (p - q) * (d * k) ≤ (-1) * (d * k) := Int.mul_le_mul_of_nonneg_right (by omega) (by omega)
    simp only [cmpQ, sgn]; rw [if_pos (by omega)]
  have hi : p > q → cmpQ (n, d, m, k) = 1 := fun h => by
    have : 1 * (d * k) ≤ (p - q) * (d * k) := Int.mul_le_mul_of_nonneg_right (by omega) (by omega)
    simp only [cmpQ, sgn]; rw [if_neg (by omega), if_pos (by omega)]
  have eqq : ¬ p < q → ¬ p > q → n * k - m * d = n' * k - m' * d := fun h h2 => by
    have : p - q = 0 := by omega
    rw [key, this, Int.zero_mul, Int.zero_add]
  refine ⟨⟨f1, hd⟩, ⟨f3, hk⟩, br_if (fun h => hK2 _ ((lo h).symm.trans hc)) fun h => br_if (fun h2 => hK2 _ ((hi h2).symm.trans hc)) fun h2 => ?_⟩
  have heq := eqq h h2
  have cz : n' = 0 → m' = 0 → cmpQ (n, d, m, k) = 0 := fun h3 h4 => by
    simp only [cmpQ, sgn]; rw [heq, h3, h4]; simp
  have cl : n' = 0 → m' ≠ 0 → cmpQ (n, d, m, k) = -1 := fun h3 h4 => by
    have : 0 < m' * d := Int.mul_pos (by omega) hd
    simp only [cmpQ, sgn]; rw [heq, h3, if_pos (by omega)]
  have cg : n' ≠ 0 → m' = 0 → cmpQ (n, d, m, k) = 1 := fun h3 h4 => by
    have : 0 < n' * k := Int.mul_pos (by omega) hk
    simp only [cmpQ, sgn]; rw [heq, h4, if_neg (by omega), if_pos (by omega)]
  have cn : n' ≠ 0 → m' ≠ 0 → again (k, m', d, n', ()) := fun h3 h4 => by
    refine hag _ ⟨⟨f4, ⟨by dsimp only; omega, by dsimp only; have := f4.2; omega⟩, f2, ⟨by dsimp only; omega, by dsimp only; have := f2.2; omega⟩, by dsimp only; omega, by dsimp only; omega⟩, ?_⟩ (by dsimp only; omega)
    dsimp only
    rw [← hc]
    simp only [cmpQ]
    rw [heq, Int.mul_comm k, Int.mul_comm d]
  refine br_two (fun h3 => br_two (fun h4 => hK2 _ ((cz (beq_iff_eq.1 h3) (beq_iff_eq.1 h4)).symm.trans hc)) fun h4 => br_two (fun _ => hK2 _ ((cl (beq_iff_eq.1 h3) (beq_eq_false_iff_ne.1 h4)).symm.trans hc)) fun h5 => by rw [h3] at h5; cases h5) fun h3 => br_two (fun h4 => by rw [h3] at h4; cases h4) fun _ => br_two (fun h4 => hK2 _ ((cg (beq_eq_false_iff_ne.1 h3) (beq_iff_eq.1 h4)).symm.trans hc)) fun h4 => cn (beq_eq_false_iff_ne.1 h3) (beq_eq_false_iff_ne.1 h4)
theorem f20_fn : f20_e.fn = f20 := rfl
theorem f20_ok : EntryOK Try.prog 20 f20_e := by
  refine entryF progOK (EnvOK.cons f67_ok (EnvOK.nil)) (A := f20_A) (d := 6) Try.func20 rfl rfl rfl rfl (fun h => by cases h) fun x hpre => ?_
  obtain ⟨a0, a1, a2, a3⟩ := x
  exact f20_t a0 a1 a2 a3 hpre _ fun _ h => h.trans (congrFun f20_fn.symm _)
end Go.Proofs.Ytglijnhkdnhofaa
end

section
namespace Go.Pi
set_option linter.unusedVariables false
abbrev pts (l : List Int) : List R2 := l.map fun n => (n, n)
theorem pts_getD (l : List Int) {i : Nat} (h : i < l.length) : (pts l).getD i (0, 0) = (l.getD i 0, l.getD i 0) := by
  rw [getD_lt (by simpa using h), getD_lt h, List.getElem_map]
theorem eachE_of {n : Nat} {e : Nat → Int} (h : ∀ i, i < n → e i = 0) : (eachE n e).2 = 0 := by rw [eachE_none h]
/-- Numbers in ranges. -/
def InR (l : List R2) (own : List Int) : Prop := own.length = l.length ∧ ∀ i, i < l.length → (l.getD i (0, 0)).1 ≤ own.getD i 0 ∧ own.getD i 0 ≤ (l.getD i (0, 0)).2
theorem strE_pts {l : List R2} {lag : Int} (h : strE l lag = 0) {own : List Int} (hlen : own.length = l.length) (hb : ∀ i, i < l.length → -10000 ≤ own.getD i 0 ∧ own.getD i 0 ≤ 10000) : strE (pts own) lag = 0 := by
  obtain ⟨ok, _⟩ := strE_zero h
  have h1 := ok.len
  have h2 := ok.lag
  have el : (pts own).length = l.length := by rw [List.length_map, hlen]
  have er : rgsE (pts own) = 0 := by
    rw [rgsE, el, if_neg (by omega), if_neg (by omega)]
    refine eachE_of fun i hi => ?_
    rw [pts_getD own (by omega)]
    have := hb i hi
    rw [rngE, if_neg (fun hh => hh ⟨this, this⟩), if_pos (by simp)]
  rw [strE, er, if_neg (fun hh => hh rfl), el, lagE, if_pos h2]
theorem lagD_pts {own : List Int} {lag i : Nat} (h : i + lag < own.length) : lagD (pts own) lag i = (own.getD (i + lag) 0 - own.getD i 0, own.getD (i + lag) 0 - own.getD i 0) := by
  rw [lagD, pts_getD own h, pts_getD own (by omega)]; rfl
theorem nearF_same (n : Int) : nearF (n, n) = n * n := by
  simp only [nearF, minmax]
  split
  · have : n = 0 := by omega
    rw [this]; rfl
  · split <;> rfl
theorem sq_mono {a b : Int} (h : a.natAbs ≤ b.natAbs) : a * a ≤ b * b := by
  have h1 : a.natAbs * a.natAbs ≤ b.natAbs * b.natAbs := Nat.mul_le_mul h h
  have h2 := Int.natAbs_mul_self (a := a)
  have h3 := Int.natAbs_mul_self (a := b)
  omega
theorem between_sq {d : R2} {n : Int} (h : d.1 ≤ n ∧ n ≤ d.2) : nearF d ≤ n * n ∧ n * n ≤ farF d := by
  have hn : 0 ≤ n * n := by
    rcases Int.le_total 0 n with h2 | h2
    · exact Int.mul_nonneg h2 h2
    · exact Int.mul_nonneg_of_nonpos_of_nonpos h2 h2
  constructor
  · unfold nearF minmax
    split
    · exact hn
    · simp only
      split
      · by_cases h0 : 0 ≤ n
        · by_cases h1 : 0 ≤ d.1
          · have := sq_mono (a := d.1) (b := n) (by omega); omega
          · omega
        · exact sq_mono (by omega)
      · by_cases h0 : 0 ≤ n
        · exact sq_mono (by omega)
        · have := sq_mono (a := d.2) (b := n) (by omega); omega
  · unfold farF minmax
    simp only
    split
    · by_cases h0 : 0 ≤ n
      · exact sq_mono (by omega)
      · have := sq_mono (a := n) (b := d.1) (by omega); omega
    · by_cases h0 : 0 ≤ n
      · have := sq_mono (a := n) (b := d.2) (by omega); omega
      · exact sq_mono (by omega)
/-- Fractions of greater numbers are greater. -/
theorem low_cmp {a b c : Int} (hc : 0 < c) (h : a ≤ b) : (low a c).1 * (low b c).2 ≤ (low b c).1 * (low a c).2 := by
  have e1 := low_mul (n := a) hc
  have e2 := low_mul (n := b) hc
  have p1 := (low_pos (n := a) hc).1
  have p2 := (low_pos (n := b) hc).1
  have key : (low a c).1 * (low b c).2 * c ≤ (low b c).1 * (low a c).2 * c := by
    have e3 : (low a c).1 * (low b c).2 * c = a * ((low a c).2 * (low b c).2) := by
      rw [show (low a c).1 * (low b c).2 * c = ((low a c).1 * c) * (low b c).2 by grind, e1]; grind
    have e4 : (low b c).1 * (low a c).2 * c = b * ((low a c).2 * (low b c).2) := by
      rw [show (low b c).1 * (low a c).2 * c = ((low b c).1 * c) * (low a c).2 by grind, e2]; grind
    rw [e3, e4]
    exact Int.mul_le_mul_of_nonneg_right h (by have := Int.mul_pos p1 p2; omega)
  exact Int.le_of_mul_le_mul_right key hc
theorem sgn_nonneg {n : Int} (h : 0 ≤ n) : ¬ sgn n < 0 := by unfold sgn; rw [if_neg (by omega)]; split <;> omega
theorem sgn_nonpos {n : Int} (h : n ≤ 0) : ¬ sgn n > 0 := by unfold sgn; split <;> (try split) <;> omega
theorem str_between {l : List R2} {lag : Nat} (h : strE l lag = 0) {own : List Int} (ho : InR l own) :
    sumN (fun i => nearF (lagD l lag i)) (l.length - lag) ≤ sumN (fun i => nearF (lagD (pts own) lag i)) (l.length - lag) ∧ sumN (fun i => nearF (lagD (pts own) lag i)) (l.length - lag) ≤ sumN (fun i => farF (lagD l lag i)) (l.length - lag) := by
  have hb : ∀ i, i < l.length - lag → nearF (lagD l lag i) ≤ nearF (lagD (pts own) lag i) ∧ nearF (lagD (pts own) lag i) ≤ farF (lagD l lag i) := fun i hi => by
    rw [lagD_pts (by rw [ho.1]; omega), nearF_same]
    refine between_sq ?_
    have h1 := ho.2 (i + lag) (by omega)
    have h2 := ho.2 i (by omega)
    simp only [lagD, mns]
    omega
  exact ⟨sumN_le fun i hi => (hb i hi).1, sumN_le fun i hi => (hb i hi).2⟩
theorem strV_shift {own : List Int} {lag : Nat} {k : Int} (hl : lag ≤ own.length) : (strV (pts (own.map (· - k))) lag).1 = (strV (pts own) lag).1 := by
  simp only [strV, List.length_map]
  congr 1
  refine sumN_congr fun i hi => ?_
  have e : ∀ j, j < own.length → (own.map (· - k)).getD j 0 = own.getD j 0 - k := fun j hj => by rw [getD_lt (by simpa using hj), getD_lt hj, List.getElem_map]
  rw [lagD_pts (by rw [List.length_map]; omega), lagD_pts (by omega), e _ (by omega), e _ (by omega)]
  congr 2 <;> omega
end Go.Pi
end

section
namespace Go.Proofs.Ytglijnhkdnhofaa
open Go Go.Pi Go.RowKit
set_option maxRecDepth 100000
set_option linter.unusedVariables false
set_option linter.unusedSimpArgs false

def f3 (x : List (Int × Int) × Int × List Int) : Bool := true
def f3_tail (a0 : List (Int × Int)) (a1 : Int) (a2 : List Int) (K : Bool → Prop) (j3_0 : Bool) (j3_1 : List Int) (j3_2 : List Int) : Prop :=
  f14_pre j3_1 ∧
  f13_pre ((f14 j3_1), a1) ∧
  br ((f13 ((f14 j3_1), a1)).2 != 0)
  (K false)
  (br (decide (((f13 ((f14 j3_1), a1)).1).2 < 1))
  (K false)
  (f20_pre (((f13 ((f14 j3_1), a1)).1).1, (((f13 ((f14 j3_1), a1)).1).2, (((f11 ((f12 a0), a1)).1).1))) ∧
  br (decide ((f20 (((f13 ((f14 j3_1), a1)).1).1, (((f13 ((f14 j3_1), a1)).1).2, (((f11 ((f12 a0), a1)).1).1)))) < 0))
  (K false)
  (f20_pre (((f13 ((f14 j3_1), a1)).1).1, (((f13 ((f14 j3_1), a1)).1).2, (((f11 ((f12 a0), a1)).1).2))) ∧
  br (decide ((f20 (((f13 ((f14 j3_1), a1)).1).1, (((f13 ((f14 j3_1), a1)).1).2, (((f11 ((f12 a0), a1)).1).2)))) > 0))
  (K false)
  (br (!j3_0)
  (K true)
  (f13_pre (j3_2, a1) ∧
  br ((f13 (j3_2, a1)).2 == 0)
  (K ((((f13 (j3_2, a1)).1).1 == ((f13 ((f14 j3_1), a1)).1).1) && ((((f13 (j3_2, a1)).1).2 == ((f13 ((f14 j3_1), a1)).1).2) && true)))
  (K false))))))
def f3_mid (a0 : List (Int × Int)) (a1 : Int) (a2 : List Int) (K : Bool → Prop) : Prop :=
  br ((f17 (a0, a1)) != 0)
  (br ((f11 ((f12 a0), a1)).2 == (f17 (a0, a1)))
  (K ((((((f11 ((f12 a0), a1)).1).1).1 == 0) && (((((f11 ((f12 a0), a1)).1).1).2 == 0) && true)) && ((((((f11 ((f12 a0), a1)).1).2).1 == 0) && (((((f11 ((f12 a0), a1)).1).2).2 == 0) && true)) && true)))
  (K false))
  (br ((f11 ((f12 a0), a1)).2 != 0)
  (K false)
  (f18_pre (a0, a1) ∧
  br (!((((((f11 ((f12 a0), a1)).1).1).1 == ((f18 (a0, a1)).1).1) && (((((f11 ((f12 a0), a1)).1).1).2 == ((f18 (a0, a1)).1).2) && true)) && ((((((f11 ((f12 a0), a1)).1).2).1 == ((f18 (a0, a1)).2).1) && (((((f11 ((f12 a0), a1)).1).2).2 == ((f18 (a0, a1)).2).2) && true)) && true)))
  (K false)
  (JoinQ (V := Bool × List Int × List Int × Unit) (fun J => (fun (join3 : Bool → List Int → List Int → Prop) =>
  LoopP (V := Bool × Int × List Int × List Int × Unit) (fun again v => (fun (again2 : Bool → Int → List Int → List Int → Prop) (v2_0 : Bool) (v2_1 : Int) (v2_2 : List Int) (v2_3 : List Int) =>
  br (lenOk (a0.length))
  (br (decide (v2_1 < ((a0.length) : Int)))
  (br (lenOk (a2.length))
  (br (decide (((a2.length) : Int) > 0))
  (br (lenOk (a2.length))
  (f19_pre (v2_1, ((a2.length) : Int)) ∧
  br (decide (0 ≤ (f19 (v2_1, ((a2.length) : Int)))) && decide ((f19 (v2_1, ((a2.length) : Int))) < ((a2.length) : Int)))
  (br (decide (0 ≤ v2_1) && decide (v2_1 < ((a0.length) : Int)))
  (br (decide (0 ≤ v2_1) && decide (v2_1 < ((a0.length) : Int)))
  (br (decide (0 ≤ v2_1) && decide (v2_1 < ((a0.length) : Int)))
  (f19_pre ((a2.getD ((f19 (v2_1, ((a2.length) : Int))).toNat) 0), (IntKind.i64.wrap ((IntKind.i64.wrap ((a0.getD v2_1.toNat (0, 0)).2 - (a0.getD v2_1.toNat (0, 0)).1)) + 1))) ∧
  br (roomOk ((v2_2.length) + 1) 8)
  (br (decide (0 ≤ v2_1) && decide (v2_1 < (((v2_2 ++ ([(IntKind.i64.wrap ((a0.getD v2_1.toNat (0, 0)).1 + (f19 ((a2.getD ((f19 (v2_1, ((a2.length) : Int))).toNat) 0), (IntKind.i64.wrap ((IntKind.i64.wrap ((a0.getD v2_1.toNat (0, 0)).2 - (a0.getD v2_1.toNat (0, 0)).1)) + 1))))))] : List Int)).length) : Int)))
  (br (roomOk ((v2_3.length) + 1) 8)
  (br v2_0
  (br (decide (0 ≤ v2_1) && decide (v2_1 < (((v2_3 ++ ([(IntKind.i64.wrap (((v2_2 ++ ([(IntKind.i64.wrap ((a0.getD v2_1.toNat (0, 0)).1 + (f19 ((a2.getD ((f19 (v2_1, ((a2.length) : Int))).toNat) 0), (IntKind.i64.wrap ((IntKind.i64.wrap ((a0.getD v2_1.toNat (0, 0)).2 - (a0.getD v2_1.toNat (0, 0)).1)) + 1))))))] : List Int)).getD v2_1.toNat 0) - 7))] : List Int)).length) : Int)))
  (again2 (decide (((v2_3 ++ ([(IntKind.i64.wrap (((v2_2 ++ ([(IntKind.i64.wrap ((a0.getD v2_1.toNat (0, 0)).1 + (f19 ((a2.getD ((f19 (v2_1, ((a2.length) : Int))).toNat) 0), (IntKind.i64.wrap ((IntKind.i64.wrap ((a0.getD v2_1.toNat (0, 0)).2 - (a0.getD v2_1.toNat (0, 0)).1)) + 1))))))] : List Int)).getD v2_1.toNat 0) - 7))] : List Int)).getD v2_1.toNat 0) ≥ (-10000))) (IntKind.i64.wrap (v2_1 + 1)) (v2_2 ++ ([(IntKind.i64.wrap ((a0.getD v2_1.toNat (0, 0)).1 + (f19 ((a2.getD ((f19 (v2_1, ((a2.length) : Int))).toNat) 0), (IntKind.i64.wrap ((IntKind.i64.wrap ((a0.getD v2_1.toNat (0, 0)).2 - (a0.getD v2_1.toNat (0, 0)).1)) + 1))))))] : List Int)) (v2_3 ++ ([(IntKind.i64.wrap (((v2_2 ++ ([(IntKind.i64.wrap ((a0.getD v2_1.toNat (0, 0)).1 + (f19 ((a2.getD ((f19 (v2_1, ((a2.length) : Int))).toNat) 0), (IntKind.i64.wrap ((IntKind.i64.wrap ((a0.getD v2_1.toNat (0, 0)).2 - (a0.getD v2_1.toNat (0, 0)).1)) + 1))))))] : List Int)).getD v2_1.toNat 0) - 7))] : List Int)))
  False)
  (again2 false (IntKind.i64.wrap (v2_1 + 1)) (v2_2 ++ ([(IntKind.i64.wrap ((a0.getD v2_1.toNat (0, 0)).1 + (f19 ((a2.getD ((f19 (v2_1, ((a2.length) : Int))).toNat) 0), (IntKind.i64.wrap ((IntKind.i64.wrap ((a0.getD v2_1.toNat (0, 0)).2 - (a0.getD v2_1.toNat (0, 0)).1)) + 1))))))] : List Int)) (v2_3 ++ ([(IntKind.i64.wrap (((v2_2 ++ ([(IntKind.i64.wrap ((a0.getD v2_1.toNat (0, 0)).1 + (f19 ((a2.getD ((f19 (v2_1, ((a2.length) : Int))).toNat) 0), (IntKind.i64.wrap ((IntKind.i64.wrap ((a0.getD v2_1.toNat (0, 0)).2 - (a0.getD v2_1.toNat (0, 0)).1)) + 1))))))] : List Int)).getD v2_1.toNat 0) - 7))] : List Int))))
  False)
  False)
  False)
  False)
  False)
  False)
  False)
  True)
  (br (decide (0 ≤ v2_1) && decide (v2_1 < ((a0.length) : Int)))
  (br (decide (0 ≤ v2_1) && decide (v2_1 < ((a0.length) : Int)))
  (br (decide (0 ≤ v2_1) && decide (v2_1 < ((a0.length) : Int)))
  (f19_pre (0, (IntKind.i64.wrap ((IntKind.i64.wrap ((a0.getD v2_1.toNat (0, 0)).2 - (a0.getD v2_1.toNat (0, 0)).1)) + 1))) ∧
  br (roomOk ((v2_2.length) + 1) 8)
  (br (decide (0 ≤ v2_1) && decide (v2_1 < (((v2_2 ++ ([(IntKind.i64.wrap ((a0.getD v2_1.toNat (0, 0)).1 + (f19 (0, (IntKind.i64.wrap ((IntKind.i64.wrap ((a0.getD v2_1.toNat (0, 0)).2 - (a0.getD v2_1.toNat (0, 0)).1)) + 1))))))] : List Int)).length) : Int)))
  (br (roomOk ((v2_3.length) + 1) 8)
  (br v2_0
  (br (decide (0 ≤ v2_1) && decide (v2_1 < (((v2_3 ++ ([(IntKind.i64.wrap (((v2_2 ++ ([(IntKind.i64.wrap ((a0.getD v2_1.toNat (0, 0)).1 + (f19 (0, (IntKind.i64.wrap ((IntKind.i64.wrap ((a0.getD v2_1.toNat (0, 0)).2 - (a0.getD v2_1.toNat (0, 0)).1)) + 1))))))] : List Int)).getD v2_1.toNat 0) - 7))] : List Int)).length) : Int)))
  (again2 (decide (((v2_3 ++ ([(IntKind.i64.wrap (((v2_2 ++ ([(IntKind.i64.wrap ((a0.getD v2_1.toNat (0, 0)).1 + (f19 (0, (IntKind.i64.wrap ((IntKind.i64.wrap ((a0.getD v2_1.toNat (0, 0)).2 - (a0.getD v2_1.toNat (0, 0)).1)) + 1))))))] : List Int)).getD v2_1.toNat 0) - 7))] : List Int)).getD v2_1.toNat 0) ≥ (-10000))) (IntKind.i64.wrap (v2_1 + 1)) (v2_2 ++ ([(IntKind.i64.wrap ((a0.getD v2_1.toNat (0, 0)).1 + (f19 (0, (IntKind.i64.wrap ((IntKind.i64.wrap ((a0.getD v2_1.toNat (0, 0)).2 - (a0.getD v2_1.toNat (0, 0)).1)) + 1))))))] : List Int)) (v2_3 ++ ([(IntKind.i64.wrap (((v2_2 ++ ([(IntKind.i64.wrap ((a0.getD v2_1.toNat (0, 0)).1 + (f19 (0, (IntKind.i64.wrap ((IntKind.i64.wrap ((a0.getD v2_1.toNat (0, 0)).2 - (a0.getD v2_1.toNat (0, 0)).1)) + 1))))))] : List Int)).getD v2_1.toNat 0) - 7))] : List Int)))
  False)
  (again2 false (IntKind.i64.wrap (v2_1 + 1)) (v2_2 ++ ([(IntKind.i64.wrap ((a0.getD v2_1.toNat (0, 0)).1 + (f19 (0, (IntKind.i64.wrap ((IntKind.i64.wrap ((a0.getD v2_1.toNat (0, 0)).2 - (a0.getD v2_1.toNat (0, 0)).1)) + 1))))))] : List Int)) (v2_3 ++ ([(IntKind.i64.wrap (((v2_2 ++ ([(IntKind.i64.wrap ((a0.getD v2_1.toNat (0, 0)).1 + (f19 (0, (IntKind.i64.wrap ((IntKind.i64.wrap ((a0.getD v2_1.toNat (0, 0)).2 - (a0.getD v2_1.toNat (0, 0)).1)) + 1))))))] : List Int)).getD v2_1.toNat 0) - 7))] : List Int))))
  False)
  False)
  False)
  False)
  False)
  False))
  True)
  (join3 v2_0 v2_2 v2_3))
  True)
  (fun v2_0 v2_1 v2_2 v2_3 => again (v2_0, v2_1, v2_2, v2_3, ())) v.1 v.2.1 v.2.2.1 v.2.2.2.1) (true, 0, ([] : List Int), ([] : List Int), ())) (fun j3_0 j3_1 j3_2 => J (j3_0, j3_1, j3_2, ()))) (fun v => (fun (j3_0 : Bool) (j3_1 : List Int) (j3_2 : List Int) =>
  f3_tail a0 a1 a2 K j3_0 j3_1 j3_2) v.1 v.2.1 v.2.2.1))))
def f3_e : Entry := { doms := [(false, (.sl (.pair (.int .i64) (.int .i64)))), (false, (.int .i64)), (false, (.sl (.int .i64)))], cods := [(false, .bool)], pre := fun _ => True, fn := f3, uq := false, total := true }
def f3_E : Env := [(10, f10_e), (11, f11_e), (12, f12_e), (13, f13_e), (14, f14_e), (15, f15_e), (16, f16_e), (17, f17_e), (18, f18_e), (19, f19_e), (20, f20_e)]
def f3_A : Anns := { loops := [(1048576, { tms := [(0, .keep), (1, .keep), (2, .keep), (7, .keep), (13, .ref 1072150), (14, .ref 1073159), (15, .data false .bool), (16, .data false (.int .i64))], obs := [(1053703, .keep), (1072150, .arr (.uniq) (.int .i64)), (1073159, .arr (.uniq) (.int .i64))], fz := [] }),
  (1572905, { tms := [(0, .keep), (1, .keep), (2, .keep), (7, .keep), (8, .keep)], obs := [(1053703, .keep)], fz := [] }),
  (1572945, { tms := [(1, .keep), (7, .keep), (13, .ref 1072150), (14, .ref 1073159), (15, .data false .bool)], obs := [(1053703, .keep), (1072150, .arr (.uniq) (.int .i64)), (1073159, .arr (.uniq) (.int .i64))], fz := [] })], own := [] }
theorem f3_run (a0 : List (Int × Int)) (a1 : Int) (a2 : List Int) (K : Bool → Prop) : runF Try.prog f3_E f3_A 6 Try.f3 f3_e.doms f3_e.cods (a0, a1, a2) K =
    (br (!(f10 ()))
    (K false)
    (br (lenOk (a0.length))
    (br (decide (((a0.length) : Int) > 32))
    (K true)
    (br (lenOk (a2.length))
    (br (decide (((a2.length) : Int) > 32))
    (K true)
    (f12_pre a0 ∧
    f14_pre a2 ∧
    f13_pre ((f14 a2), a1) ∧
    JoinQ (V := Unit) (fun J => (fun (join1 : Prop) =>
    br ((f15 (a2, a1)) != 0)
    (br ((f13 ((f14 a2), a1)).2 != (f15 (a2, a1)))
    (K false)
    (br (!((((f13 ((f14 a2), a1)).1).1 == 0) && ((((f13 ((f14 a2), a1)).1).2 == 0) && true)))
    (K false)
    (br ((f15 (a2, a1)) == 0)
    (br ((f13 ((f14 a2), a1)).2 != 0)
    (K false)
    (f16_pre (a2, a1) ∧
    br (!((((f13 ((f14 a2), a1)).1).1 == (f16 (a2, a1)).1) && ((((f13 ((f14 a2), a1)).1).2 == (f16 (a2, a1)).2) && true)))
    (K false)
    (join1)))
    (join1))))
    (br ((f15 (a2, a1)) == 0)
    (br ((f13 ((f14 a2), a1)).2 != 0)
    (K false)
    (f16_pre (a2, a1) ∧
    br (!((((f13 ((f14 a2), a1)).1).1 == (f16 (a2, a1)).1) && ((((f13 ((f14 a2), a1)).1).2 == (f16 (a2, a1)).2) && true)))
    (K false)
    (join1)))
    (join1))) (J ())) (fun v =>
    f3_mid a0 a1 a2 K)))
    True))
    True)) := by kernel_rfl
theorem f3_t (a0 : List (Int × Int)) (a1 : Int) (a2 : List Int) (K : Bool → Prop) (hK : ∀ y : Bool, y = f3 (a0, a1, a2) → K y) : RunF Try.prog f3_E f3_A 6 Try.f3 f3_e.doms f3_e.cods (a0, a1, a2) K := by
  refine ⟨?_⟩
  rw [f3_run a0 a1 a2 K]
  have e10 : f10 () = true := rfl
  rw [e10]
  refine br_two (fun h => by cases h) fun _ => br_weak (br_if (fun _ => hK _ rfl) fun hl => br_weak (br_if (fun _ => hK _ rfl) fun hl2 => ?_))
  have e11 : f11 (f12 a0, a1) = strIn a0 a1 := rfl
  have e13 : ∀ l : List Int, f13 (f14 l, a1) = ((strIn (pts l) a1).1.1, (strIn (pts l) a1).2) := fun l => rfl
  have e13' : ∀ l : List Int, f13 (l, a1) = ((strIn (pts l) a1).1.1, (strIn (pts l) a1).2) := fun l => rfl
  have e15 : f15 (a2, a1) = strE (pts a2) a1 := rfl
  have e16 : f16 (a2, a1) = (strV (pts a2) a1.toNat).1 := rfl
  have e17 : f17 (a0, a1) = strE a0 a1 := rfl
  have e18 : f18 (a0, a1) = strV a0 a1.toNat := rfl
  have eq2 : ∀ p q : Int × Int, (p.1 == q.1 && (p.2 == q.2 && true)) = decide (p = q) := fun p q => by
    obtain ⟨a, b⟩ := p; obtain ⟨c, d⟩ := q
    rw [Bool.eq_iff_iff]; simp
  have sIn : ∀ l : List (Int × Int), strIn l a1 = if strE l a1 ≠ 0 then (no4, strE l a1) else (strV l a1.toNat, 0) := fun l => rfl
  refine ⟨show a0.length ≤ 1048576 by omega, show a2.length ≤ 1048576 by omega, show (f14 a2).length ≤ 1048576 by show a2.length ≤ _; omega, ?_⟩
  -- the first half
  refine ⟨?_⟩
  have tail : True → f3_mid a0 a1 a2 K := fun _ => by
    unfold f3_mid
    rw [e11, e17]
    refine br_two (fun h => ?_) fun h => ?_
    · have h := bne_t.1 h
      rw [sIn, if_pos h]
      refine br_two (fun _ => hK _ ?_) fun h2 => by simp at h2
      rfl
    have h := bne_f.1 h
    have hIn : strIn a0 a1 = (strV a0 a1.toNat, 0) := by rw [sIn, if_neg (fun hh => hh h)]
    rw [hIn, e18]
    refine br_two (fun h2 => by simp at h2) fun _ => ⟨h, br_two (fun h2 => ?_) fun _ => ?_⟩
    · simp at h2
    obtain ⟨ok, _⟩ := strE_zero h
    obtain ⟨lag, rfl⟩ := Int.eq_ofNat_of_zero_le (show 0 ≤ a1 by have := ok.lag; omega)
    have hlag := ok.lag
    have hlen := ok.len
    refine ⟨?_⟩
    -- behind the loop
    have fin : ∀ (small : Bool) (own : List Int), InR a0 own → (small = true → ∀ i, i < a0.length → -10000 ≤ own.getD i 0 - 7) → f3_tail a0 (lag : Int) a2 K small own (own.map (· - 7)) := fun small own ho hs => by
      have hb : ∀ i, i < a0.length → -10000 ≤ own.getD i 0 ∧ own.getD i 0 ≤ 10000 := fun i hi => by
        have h1 := ok.el _ (getD_mem (d := (0, 0)) hi)
        have h2 := ho.2 i hi
        omega
      have hoe := strE_pts h ho.1 hb
      have hol := ho.1
      have hsb := str_between h ho
      have hc : (0 : Int) < (a0.length : Int) - lag := by omega
      obtain ⟨⟨okp, _⟩, _⟩ : (RgOK (pts own) lag ∧ rgsE (pts own) = 0) ∧ True := ⟨strE_zero hoe, trivial⟩
      have hN := strS ok (n := a0.length - lag) (Nat.le_refl _)
      have hO := strS okp (n := a0.length - lag) (by rw [List.length_map, hol]; exact Nat.le_refl _)
      have ev : (strV (pts own) lag).1 = low (sumN (fun i => nearF (lagD (pts own) lag i)) (a0.length - lag)) ((a0.length : Int) - lag) := by simp only [strV, List.length_map, hol]
      have f : ∀ s : Int, 0 ≤ s ∧ s ≤ 12000000000 → Fit (low s ((a0.length : Int) - lag)).1 ∧ Fit (low s ((a0.length : Int) - lag)).2 ∧ 0 < (low s ((a0.length : Int) - lag)).2 := fun s hs => by
        have q1 := low_le (n := s) (d := (a0.length : Int) - lag) (m := 12000000000) ⟨by omega, hs.2⟩
        have q2 := low_pos (n := s) hc
        exact ⟨⟨by omega, by omega⟩, ⟨by omega, by omega⟩, q2.1⟩
      have fx := f _ hO.1
      have fl := f _ hN.1
      have ff := f _ hN.2
      have elo : (strV a0 lag).1 = low (sumN (fun i => nearF (lagD a0 lag i)) (a0.length - lag)) ((a0.length : Int) - lag) := rfl
      have ehi : (strV a0 lag).2 = low (sumN (fun i => farF (lagD a0 lag i)) (a0.length - lag)) ((a0.length : Int) - lag) := rfl
      have eo : f13 (f14 own, (lag : Int)) = (low (sumN (fun i => nearF (lagD (pts own) lag i)) (a0.length - lag)) ((a0.length : Int) - lag), 0) := by rw [e13, sIn, if_neg (fun hh => hh hoe), Int.toNat_natCast, ev]
      have ea : f11 (f12 a0, (lag : Int)) = ((low (sumN (fun i => nearF (lagD a0 lag i)) (a0.length - lag)) ((a0.length : Int) - lag), low (sumN (fun i => farF (lagD a0 lag i)) (a0.length - lag)) ((a0.length : Int) - lag)), 0) := by rw [e11, hIn]; rfl
      unfold f3_tail
      rw [eo, ea]
      dsimp only
      have c1 := low_cmp hc hsb.1
      have c2 := low_cmp hc hsb.2
      refine ⟨show own.length ≤ 1048576 by omega, show own.length ≤ 1048576 by omega, br_two (fun hh => by simp at hh) fun _ => br_if (fun hh => by omega) fun _ => ⟨⟨fx.1, fx.2.1, fl.1, fl.2.1, fx.2.2, fl.2.2⟩, br_if (fun hh => ?_) fun _ => ⟨⟨fx.1, fx.2.1, ff.1, ff.2.1, fx.2.2, ff.2.2⟩, br_if (fun hh => ?_) fun _ => br_two (fun _ => hK _ rfl) fun hsm => ?_⟩⟩⟩
      · exact absurd hh (sgn_nonneg (by dsimp only; omega))
      · exact absurd hh (sgn_nonpos (by dsimp only; omega))
      · have hsm : small = true := by simpa using hsm
        have hse : strE (pts (own.map (· - 7))) lag = 0 := strE_pts h (by rw [List.length_map]; exact hol) fun i hi => by
          rw [getD_lt (by rw [List.length_map]; omega), List.getElem_map]
          have h1 := hs hsm i hi
          have h2 := hb i hi
          rw [getD_lt (by omega)] at h1 h2
          omega
        refine ⟨show (own.map (· - 7)).length ≤ 1048576 by rw [List.length_map]; omega, ?_⟩
        have es : f13 (own.map (· - 7), (lag : Int)) = (low (sumN (fun i => nearF (lagD (pts own) lag i)) (a0.length - lag)) ((a0.length : Int) - lag), 0) := by rw [e13', sIn, if_neg (fun hh => hh hse), Int.toNat_natCast, strV_shift (by omega), ev]
        rw [es]
        refine br_two (fun _ => hK _ ?_) fun hh => by simp at hh
        simp [f3]
    have hpos : 0 < a0.length := by omega
    refine LoopP.of (fun q : Bool × Int × List Int × List Int × Unit => ∃ (i : Nat) (s : Bool) (own : List Int), i ≤ a0.length ∧ q = (s, (i : Int), own, own.map (· - 7), ()) ∧ own.length = i ∧ (∀ j, j < i → (a0.getD j (0, 0)).1 ≤ own.getD j 0 ∧ own.getD j 0 ≤ (a0.getD j (0, 0)).2) ∧ (s = true → ∀ j, j < i → -10000 ≤ own.getD j 0 - 7)) (fun q => ((a0.length : Int) - q.2.1).toNat) (fun again q hq hag => ?_) ⟨0, true, [], by omega, rfl, rfl, fun j hj => by omega, fun _ j hj => by omega⟩
    obtain ⟨i, s, own, hi, rfl, hol, hin, hsm⟩ := hq
    dsimp only
    refine br_weak (br_if (fun hlt => ?_) fun hlt => ?_)
    rotate_left
    · have : i = a0.length := by omega
      subst this
      exact fin s own ⟨hol, hin⟩ hsm
    have hlt : i < a0.length := by omega
    have b0 : (decide (0 ≤ (i : Int)) && decide ((i : Int) < (a0.length : Int))) = true := inb (by omega) (by omega)
    have he := ok.el _ (getD_mem (d := (0, 0)) hlt)
    rw [wr (n := (i : Int) + 1) (by omega) (by omega), Int.toNat_natCast]
    have hw : IntKind.i64.wrap (IntKind.i64.wrap ((a0.getD i (0, 0)).2 - (a0.getD i (0, 0)).1) + 1) = (a0.getD i (0, 0)).2 - (a0.getD i (0, 0)).1 + 1 := by
      rw [wr (n := (a0.getD i (0, 0)).2 - (a0.getD i (0, 0)).1) (by omega) (by omega), wr (by omega) (by omega)]
    rw [hw]
    -- a number more
    have step : ∀ p : Int, f19_pre (p, (a0.getD i (0, 0)).2 - (a0.getD i (0, 0)).1 + 1) ∧
        br (roomOk (own.length + 1) 8)
          (br (decide (0 ≤ (i : Int)) && decide ((i : Int) < ((own ++ ([IntKind.i64.wrap ((a0.getD i (0, 0)).1 + f19 (p, (a0.getD i (0, 0)).2 - (a0.getD i (0, 0)).1 + 1))] : List Int)).length : Int)))
            (br (roomOk ((own.map (· - 7)).length + 1) 8)
              (br s
                (br (decide (0 ≤ (i : Int)) && decide ((i : Int) < (((own.map (· - 7)) ++ ([IntKind.i64.wrap ((own ++ ([IntKind.i64.wrap ((a0.getD i (0, 0)).1 + f19 (p, (a0.getD i (0, 0)).2 - (a0.getD i (0, 0)).1 + 1))] : List Int)).getD i 0 - 7)] : List Int)).length : Int)))
                  (again (decide (((own.map (· - 7)) ++ ([IntKind.i64.wrap ((own ++ ([IntKind.i64.wrap ((a0.getD i (0, 0)).1 + f19 (p, (a0.getD i (0, 0)).2 - (a0.getD i (0, 0)).1 + 1))] : List Int)).getD i 0 - 7)] : List Int)).getD i 0 ≥ -10000), (i : Int) + 1, own ++ ([IntKind.i64.wrap ((a0.getD i (0, 0)).1 + f19 (p, (a0.getD i (0, 0)).2 - (a0.getD i (0, 0)).1 + 1))] : List Int), (own.map (· - 7)) ++ ([IntKind.i64.wrap ((own ++ ([IntKind.i64.wrap ((a0.getD i (0, 0)).1 + f19 (p, (a0.getD i (0, 0)).2 - (a0.getD i (0, 0)).1 + 1))] : List Int)).getD i 0 - 7)] : List Int), ()))
                  False)
                (again (false, (i : Int) + 1, own ++ ([IntKind.i64.wrap ((a0.getD i (0, 0)).1 + f19 (p, (a0.getD i (0, 0)).2 - (a0.getD i (0, 0)).1 + 1))] : List Int), (own.map (· - 7)) ++ ([IntKind.i64.wrap ((own ++ ([IntKind.i64.wrap ((a0.getD i (0, 0)).1 + f19 (p, (a0.getD i (0, 0)).2 - (a0.getD i (0, 0)).1 + 1))] : List Int)).getD i 0 - 7)] : List Int), ())))
              False)
            False)
          False := fun p => by
      have hr := f19_range (x := p) (b := (a0.getD i (0, 0)).2 - (a0.getD i (0, 0)).1 + 1) (by omega) (by omega)
      rw [wr (n := (a0.getD i (0, 0)).1 + f19 (p, (a0.getD i (0, 0)).2 - (a0.getD i (0, 0)).1 + 1)) (by omega) (by omega)]
      obtain ⟨m, hm⟩ : ∃ m, (a0.getD i (0, 0)).1 + f19 (p, (a0.getD i (0, 0)).2 - (a0.getD i (0, 0)).1 + 1) = m := ⟨_, rfl⟩
      rw [hm]
      have hm1 : (a0.getD i (0, 0)).1 ≤ m ∧ m ≤ (a0.getD i (0, 0)).2 := by omega
      have g0 : ∀ (l : List Int) (x : Int), l.length = i → (l ++ [x]).getD i 0 = x := fun l x hl => by subst hl; simp
      rw [g0 own m hol, wr (n := m - 7) (by omega) (by omega), g0 (own.map (· - 7)) (m - 7) (by rw [List.length_map]; exact hol)]
      have hlo : ∀ x : Int, ((own ++ [x]).length : Int) = (i : Int) + 1 := fun x => by simp; omega
      have hlo2 : ∀ x : Int, (((own.map (· - 7)) ++ [x]).length : Int) = (i : Int) + 1 := fun x => by simp; omega
      have gj : ∀ j, j < i → (own ++ [m]).getD j 0 = own.getD j 0 := fun j hj => by simp only [List.getD_eq_getElem?_getD]; rw [List.getElem?_append_left (by omega)]
      have inv : ∀ s' : Bool, (s' = true → s = true ∧ -10000 ≤ m - 7) → again (s', (i : Int) + 1, own ++ [m], own.map (· - 7) ++ [m - 7], ()) := fun s' hs' => by
        refine hag _ ⟨i + 1, s', own ++ [m], by omega, by simp, by simp; exact hol, fun j hj => ?_, fun hst j hj => ?_⟩ (by dsimp only; omega)
        · rcases Nat.lt_or_ge j i with h1 | h1
          · rw [gj j h1]; exact hin j h1
          · have : j = i := by omega
            subst this; rw [g0 own m hol]; exact hm1
        · obtain ⟨h1, h2⟩ := hs' hst
          rcases Nat.lt_or_ge j i with h3 | h3
          · rw [gj j h3]; exact hsm h1 j h3
          · have : j = i := by omega
            subst this; rw [g0 own m hol]; exact h2
      refine ⟨show (a0.getD i (0, 0)).2 - (a0.getD i (0, 0)).1 + 1 ≠ 0 by omega, br_must (by rw [roomOk_iff]; omega) (br_must (inb (by omega) (by rw [hlo]; omega)) (br_must (by rw [roomOk_iff, List.length_map]; omega) (br_two (fun hs1 => br_must (inb (by omega) (by rw [hlo2]; omega)) (inv _ fun hd => ⟨hs1, by have := of_decide_eq_true hd; omega⟩)) fun hs1 => inv _ fun hd => by cases hd)))⟩
    refine br_weak (br_if (fun hp => br_weak ⟨show ((a2.length : Int)) ≠ 0 by omega, ?_⟩) fun hp => br_must b0 (br_must b0 (br_must b0 (step 0))))
    have hr := f19_range (x := (i : Int)) (b := (a2.length : Int)) (by omega) (by omega)
    exact br_must (inb hr.1 hr.2) (br_must b0 (br_must b0 (br_must b0 (step _))))
  rw [e13, e15, e16, sIn]
  dsimp only
  by_cases hs : strE (pts a2) a1 = 0
  · rw [if_neg (fun hh => hh hs), hs]
    refine br_two (fun h => by simp at h) fun _ => br_two (fun _ => br_two (fun h => by simp at h) fun _ => ⟨hs, br_two (fun h => ?_) fun _ => tail trivial⟩) fun h => by simp at h
    simp at h
  · rw [if_pos hs]
    refine br_two (fun _ => br_two (fun h => by simp at h) fun _ => br_two (fun h => by simp [no4] at h) fun _ => br_two (fun h => by simp [hs] at h) fun _ => tail trivial) fun h => by simp [hs] at h
theorem f3_fn : f3_e.fn = f3 := rfl
theorem f3_ok : EntryOK Try.prog 3 f3_e := by
  refine entryF progOK (EnvOK.cons f10_ok (EnvOK.cons f11_ok (EnvOK.cons f12_ok (EnvOK.cons f13_ok (EnvOK.cons f14_ok (EnvOK.cons f15_ok (EnvOK.cons f16_ok (EnvOK.cons f17_ok (EnvOK.cons f18_ok (EnvOK.cons f19_ok (EnvOK.cons f20_ok (EnvOK.nil)))))))))))) (A := f3_A) (d := 6) Try.func3 rfl rfl rfl rfl (fun _ _ => trivial) fun x hpre => ?_
  obtain ⟨a0, a1, a2⟩ := x
  exact f3_t a0 a1 a2 _ fun _ h => h.trans (congrFun f3_fn.symm _)
end Go.Proofs.Ytglijnhkdnhofaa
end
