/- What functions of the program compute, each proved once, part 5. -/
import Derived.Test.YtglokajinehbmaaPiD
import Derived.Test.YtglokajinehbmaaFnA
import Derived.Test.YtglokajinehbmaaFnD

namespace Go.Proofs.Ytglokajinehbmaa
open Go Go.Pi Go.RowKit
set_option maxRecDepth 100000
set_option linter.unusedVariables false
set_option linter.unusedSimpArgs false

def f16 (x : (List (List Int) × List (List Int)) × List Int × Int) : Int := mixErr x.1 x.2.1 x.2.2
def f16_pre (x : (List (List Int) × List (List Int)) × List Int × Int) : Prop := (ruleOf x.1).2 = 0
/-- The separation behind an arrival of a mix is read within bounds. -/
theorem mix_in {r : Rul} {mix : List Int} (hr : (ruleOf r).2 = 0) (hc : ∀ i, i < mix.length → 0 ≤ mix.getD i 0 ∧ mix.getD i 0 < r.1.length) {i : Nat} (hi : i < mix.length) :
    (r.1.getD (mix.getD i 0).toNat []).length = r.1.length ∧ (i + 1) % mix.length < mix.length := by
  obtain ⟨_, h2⟩ := ruleOf_zero hr
  have := hc i hi
  exact ⟨(h2 _ (by omega)).1.1, Nat.mod_lt _ (by omega)⟩
def f16_e : Entry := { doms := [(true, (.pair (.sl (.sl (.int .i64))) (.sl (.sl (.int .i64))))), (false, (.sl (.int .i64))), (false, (.int .i64))], cods := [(false, (.int .i64))], pre := f16_pre, fn := f16, uq := false, total := false }
def f16_E : Env := [(17, f17_e), (31, f31_e)]
def f16_A : Anns := { loops := [(1048576, { tms := [(1, .keep), (2, .keep), (3, .keep), (7, .data false (.int .i64))], obs := [(1048576, .keep)], fz := [] }),
  (1048578, { tms := [(1, .keep), (3, .keep), (8, .data false (.int .i64))], obs := [(1048576, .keep)], fz := [] })], own := [] }
theorem f16_run (a0 : List (List Int) × List (List Int)) (a1 : List Int) (a2 : Int) (K : Int → Prop) : runF Try.prog f16_E f16_A 6 Try.f16 f16_e.doms f16_e.cods (a0, a1, a2) K =
    (br (lenOk (a1.length))
    (br (((a1.length) : Int) == 0)
    (K 10)
    (br (lenOk (a1.length))
    (br (decide (((a1.length) : Int) > 12))
    (K 8)
    (LoopP (V := Int × Unit) (fun again v => (fun (again1 : Int → Prop) (v1_0 : Int) =>
    br (lenOk (a1.length))
    (br (decide (v1_0 < ((a1.length) : Int)))
    (br (decide (0 ≤ v1_0) && decide (v1_0 < ((a1.length) : Int)))
    (br (!(f31 (a0, (a1.getD v1_0.toNat 0))))
    (K 6)
    (again1 (IntKind.i64.wrap (v1_0 + 1))))
    False)
    (br (!(f17 (a2, (0, 7200))))
    (K 2)
    (LoopP (V := Int × Unit) (fun again v => (fun (again2 : Int → Prop) (v2_0 : Int) =>
    br (lenOk (a1.length))
    (br (decide (v2_0 < ((a1.length) : Int)))
    (br (decide (0 ≤ v2_0) && decide (v2_0 < ((a1.length) : Int)))
    (br (decide (0 ≤ (a1.getD v2_0.toNat 0)) && decide ((a1.getD v2_0.toNat 0) < ((a0.1.length) : Int)))
    (br (!(decide (((a1.length) : Int) = 0)))
    (br (decide (0 ≤ ((IntKind.i64.wrap (v2_0 + 1)).tmod ((a1.length) : Int))) && decide (((IntKind.i64.wrap (v2_0 + 1)).tmod ((a1.length) : Int)) < ((a1.length) : Int)))
    (br (decide (0 ≤ (a1.getD (((IntKind.i64.wrap (v2_0 + 1)).tmod ((a1.length) : Int)).toNat) 0)) && decide ((a1.getD (((IntKind.i64.wrap (v2_0 + 1)).tmod ((a1.length) : Int)).toNat) 0) < (((a0.1.getD ((a1.getD v2_0.toNat 0).toNat) []).length) : Int)))
    (br (lenOk (a1.length))
    (br (((a0.1.getD ((a1.getD v2_0.toNat 0).toNat) []).getD ((a1.getD (((IntKind.i64.wrap (v2_0 + 1)).tmod ((a1.length) : Int)).toNat) 0).toNat) 0) == 0)
    (K 11)
    (again2 (IntKind.i64.wrap (v2_0 + 1))))
    True)
    False)
    False)
    False)
    False)
    False)
    (K 0))
    True)
    (fun v2_0 => again (v2_0, ())) v.1) (0, ()))))
    True)
    (fun v1_0 => again (v1_0, ())) v.1) (0, ())))
    True))
    True) := by kernel_rfl
theorem f16_t (a0 : List (List Int) × List (List Int)) (a1 : List Int) (a2 : Int) (hpre : f16_pre (a0, a1, a2)) (K : Int → Prop) (hK : ∀ y : Int, y = f16 (a0, a1, a2) → K y) : RunF Try.prog f16_E f16_A 6 Try.f16 f16_e.doms f16_e.cods (a0, a1, a2) K := by
  refine ⟨?_⟩
  rw [f16_run a0 a1 a2 K]
  have hr : (ruleOf a0).2 = 0 := hpre
  have hm : f16 (a0, a1, a2) = mixErr a0 a1 a2 := rfl
  rw [hm, mixErr] at hK
  rw [br_true_]
  intro _
  rw [br_both]
  refine ⟨fun h => hK _ (by rw [if_pos (by have : ((a1.length : Nat) : Int) = 0 := by simpa using h
                                           omega)]), fun h => ?_⟩
  have h0 : ¬ a1.length = 0 := fun hh => by simp [hh] at h
  rw [if_neg h0] at hK
  rw [br_true_]
  intro _
  rw [br_dec]
  refine ⟨fun h => hK _ (by rw [if_pos (by omega)]), fun h12 => ?_⟩
  rw [if_neg (by omega)] at hK
  refine each_walk (n := a1.length) (e := catI a0 a1) (fun again i hi hI good => ?_)
  dsimp only
  rw [br_true_]
  intro _
  rw [br_dec]
  refine ⟨fun hlt => ?_, fun hlt => ?_⟩
  · have hlt : i < a1.length := by omega
    rw [br_false_]
    refine ⟨inb (by omega) (by omega), ?_⟩
    rw [Int.toNat_natCast]
    have e31 : f31 (a0, a1.getD i 0) = decide (0 ≤ a1.getD i 0 ∧ a1.getD i 0 < a0.1.length) := rfl
    rw [e31, wr (n := (i : Int) + 1) (by omega) (by omega), br_both]
    refine ⟨fun hb => hK _ ?_, fun hb => good hlt ?_⟩
    · have hb := of_decide_eq_false (not_true.1 hb)
      have he : catI a0 a1 i ≠ 0 := by rw [catI, if_neg hb]; decide
      rw [eachE_some hlt hI he, if_pos he]
    · have hb := of_decide_eq_true (not_false_.1 hb)
      rw [catI, if_pos hb]
  · have hz := fun j (hj : j < a1.length) => hI j (by omega)
    have hc : ∀ i, i < a1.length → 0 ≤ a1.getD i 0 ∧ a1.getD i 0 < a0.1.length := fun i hi => by
      have := hz i hi
      unfold catI at this
      split at this
      · assumption
      · simp at this
    rw [eachE_none hz, if_neg (by simp)] at hK
    rw [br_both]
    refine ⟨fun hb => hK _ (by rw [if_pos (f17_f1.1 (not_true.1 hb))]), fun hb => ?_⟩
    have hb := f17_t1.1 (not_false_.1 hb)
    rw [if_neg (fun hh => hh hb)] at hK
    refine each_walk (n := a1.length) (e := gapI a0 a1) (fun again i hi hI good => ?_)
    dsimp only
    rw [br_true_]
    intro _
    rw [br_dec]
    refine ⟨fun hlt => ?_, fun hlt => ?_⟩
    · have hlt : i < a1.length := by omega
      obtain ⟨g1, g2⟩ := mix_in hr hc hlt
      have d1 := hc i hlt
      have d2 := hc _ g2
      rw [wr (n := (i : Int) + 1) (by omega) (by omega), show (i : Int) + 1 = ((i + 1 : Nat) : Int) by omega, tm_nat, Int.toNat_natCast, Int.toNat_natCast, br_false_]
      refine ⟨inb (by omega) (by omega), ?_⟩
      rw [br_false_]
      refine ⟨inb d1.1 d1.2, ?_⟩
      rw [br_false_]
      refine ⟨by rw [decide_eq_false (by omega)]; rfl, ?_⟩
      rw [br_false_]
      refine ⟨inb (by omega) (by omega), ?_⟩
      rw [br_false_]
      refine ⟨inb d2.1 (by rw [g1]; exact d2.2), ?_⟩
      rw [br_true_]
      intro _
      have hg : (a0.1.getD (a1.getD i 0).toNat []).getD (a1.getD ((i + 1) % a1.length) 0).toNat 0 = gapAt a0 a1 i := rfl
      rw [hg, br_both]
      refine ⟨fun hb => hK _ ?_, fun hb => good hlt ?_⟩
      · have he : gapI a0 a1 i ≠ 0 := by rw [gapI, if_pos (by simpa using hb)]; decide
        rw [eachE_some hlt hI he, if_pos he]
      · rw [gapI, if_neg (by simpa using hb)]
    · have hz := fun j (hj : j < a1.length) => hI j (by omega)
      rw [eachE_none hz, if_neg (by simp)] at hK
      exact hK _ rfl
theorem f16_fn : f16_e.fn = f16 := rfl
theorem f16_ok : EntryOK Try.prog 16 f16_e := by
  refine entryF progOK (EnvOK.cons f17_ok (EnvOK.cons f31_ok (EnvOK.nil))) (A := f16_A) (d := 6) Try.func16 rfl rfl rfl (fun h => by cases h) fun x hpre => ?_
  obtain ⟨a0, a1, a2⟩ := x
  exact f16_t a0 a1 a2 hpre _ fun _ h => h.trans (congrFun f16_fn.symm _)
end Go.Proofs.Ytglokajinehbmaa
