/- What functions of the program compute, each proved once, part 14. -/
import Derived.Test.YtglijnhkdnhofaaGreatPiD
import Derived.Test.YtglijnhkdnhofaaGreatFnA
import Derived.Test.YtglijnhkdnhofaaGreatFnC
import Derived.Test.YtglijnhkdnhofaaGreatFnG
import Derived.Test.YtglijnhkdnhofaaGreatFnL
import Derived.Test.YtglijnhkdnhofaaGreatFnM
import Derived.Test.YtglijnhkdnhofaaGreatFnK

section
namespace Go.Proofs.YtglijnhkdnhofaaGreat
open Go Go.Pi Go.RowKit
set_option maxRecDepth 100000
set_option linter.unusedVariables false
set_option linter.unusedSimpArgs false

def chkW (l : List Rd) (x : List Int × List Int) : (Int × Int) × Int := if (rdOf l).2 ≠ 0 then ((0, 0), (rdOf l).2) else if prfE l x.1 x.2 ≠ 0 then ((0, 0), prfE l x.1 x.2) else (totL (pickI l x.1) x.2, 0)
def f22 (x : List ((Int × Int × Int) × Int × Int) × List Int × List Int) : (Int × Int) × Int := chkW x.1 x.2
def f22_pre (x : List ((Int × Int × Int) × Int × Int) × List Int × List Int) : Prop := x.2.1.length ≤ 1000 ∧ x.2.2.length ≤ 1000
def fst2 (a b : Int) : Int := if a ≠ 0 then a else b
theorem eachE_succ (e : Nat → Int) (n : Nat) : (eachE (n + 1) e).2 = fst2 (eachE n e).2 (e n) := by
  unfold fst2
  by_cases h : ∀ i, i < n → e i = 0
  · rw [eachE_none h]
    rw [if_neg (fun hh => hh rfl)]
    by_cases h2 : e n = 0
    · rw [h2, eachE_none fun i hi => by
        by_cases q : i = n
        · rw [q]; exact h2
        · exact h i (by omega)]
    · rw [eachE_some (by omega) h h2]
  · obtain ⟨i, hi, hne, hmin⟩ : ∃ i, i < n ∧ e i ≠ 0 ∧ ∀ j, j < i → e j = 0 := by
      obtain ⟨i, hi, hne⟩ : ∃ i, i < n ∧ e i ≠ 0 := Classical.byContradiction fun hh => h fun i hi => Classical.byContradiction fun hc => hh ⟨i, hi, hc⟩
      induction i using Nat.strongRecOn with
      | _ i ih =>
        by_cases hm : ∀ j, j < i → e j = 0
        · exact ⟨i, hi, hne, hm⟩
        · obtain ⟨j, hj, hj0⟩ : ∃ j, j < i ∧ e j ≠ 0 := Classical.byContradiction fun hh => hm fun j hj => Classical.byContradiction fun hc => hh ⟨j, hj, hc⟩
          exact ih j hj (by omega) hj0
    rw [eachE_some hi hmin hne, eachE_some (show i < n + 1 by omega) hmin hne, if_pos hne]
theorem f61_two (a b : Int) : f61 [a, b] = fst2 a b := by
  unfold f61 fst2
  by_cases h : a = 0
  · rw [if_neg (fun hh => hh h), h]
    by_cases h2 : b = 0
    · rw [h2]; rfl
    · have : (b != 0) = true := by simpa using h2
      simp [List.find?, this]
  · rw [if_pos h]
    have : (a != 0) = true := by simpa using h
    simp only [List.find?, this]
theorem f61_three (a b c : Int) : f61 [a, b, c] = fst2 a (fst2 b c) := by
  by_cases h : a = 0
  · have e : f61 [a, b, c] = f61 [b, c] := by
      unfold f61
      rw [h]; simp [List.find?]
    rw [e, f61_two]
    conv => rhs; unfold fst2
    rw [if_neg (fun hh => hh h)]; rfl
  · unfold f61 fst2
    rw [if_pos h]
    have : (a != 0) = true := by simpa using h
    simp only [List.find?, this]
def f22_e : Entry := { doms := [(false, (.sl (.pair (.pair (.int .i64) (.pair (.int .i64) (.int .i64))) (.pair (.int .i64) (.int .i64))))), (true, (.pair (.sl (.int .i64)) (.sl (.int .i64))))], cods := [(true, (.pair (.int .i64) (.int .i64))), (false, (.int .i64))], pre := f22_pre, fn := f22, uq := false, total := false }
def f22_E : Env := [(61, f61_e), (77, f77_e), (81, f81_e), (82, f82_e), (83, f83_e), (84, f84_e), (85, f85_e), (27, f27_e)]
def f22_A : Anns := { loops := [(1048576, { tms := [(0, .keep), (3, .keep), (4, .keep), (7, .data false (.int .i64)), (46, .keep), (47, .keep), (48, .data false (.int .i64))], obs := [(1048576, .keep), (1048577, .keep)], fz := [] }),
  (1048578, { tms := [(0, .keep), (3, .keep), (4, .keep), (7, .data false (.int .i64)), (78, .keep), (79, .keep), (80, .data false (.int .i64))], obs := [(1048576, .keep), (1048577, .keep)], fz := [] }),
  (1048580, { tms := [(0, .keep), (3, .keep), (4, .keep), (12, .keep), (96, .keep), (97, .keep), (98, .data false (.int .i64))], obs := [(1048576, .keep), (1048577, .keep), (1065984, .arr (.fixed 3) (.int .i64))], fz := [] }),
  (1572885, { tms := [(0, .keep), (3, .keep), (4, .keep), (7, .data false (.int .i64))], obs := [(1048576, .keep), (1048577, .keep)], fz := [] })], own := [], unroll := 4 }
theorem f22_run (a0 : List ((Int × Int × Int) × Int × Int)) (a1 : List Int × List Int) (K : ((Int × Int) × Int) → Prop) : runF Tryz.prog f22_E f22_A 6 Tryz.f22 f22_e.doms f22_e.cods (a0, a1) K =
    (JoinQ (V := Int × Unit) (fun J => (fun (join1 : Int → Prop) =>
    br (lenOk (a1.1.length))
    (br (decide (((a1.1.length) : Int) > 0))
    (br (lenOk (a1.1.length))
    (br (lenOk (a1.2.length))
    (br ((f61 ([(f77 a0).2, (f83 ((((a1.1.length) : Int) == ((a1.2.length) : Int)), 10))] : List Int)) != 0)
    (K ((0, 0), (f61 ([(f77 a0).2, (f83 ((((a1.1.length) : Int) == ((a1.2.length) : Int)), 10))] : List Int))))
    (join1 (f61 ([(f77 a0).2, (f83 ((((a1.1.length) : Int) == ((a1.2.length) : Int)), 10))] : List Int))))
    True)
    True)
    (br ((f61 ([(f77 a0).2, (f83 (false, 10))] : List Int)) != 0)
    (K ((0, 0), (f61 ([(f77 a0).2, (f83 (false, 10))] : List Int))))
    (join1 (f61 ([(f77 a0).2, (f83 (false, 10))] : List Int)))))
    True) (fun j1_0 => J (j1_0, ()))) (fun v => (fun (j1_0 : Int) =>
    br (lenOk (a1.1.length))
    (LoopP (V := Int × Int × Unit) (fun again v => (fun (again2 : Int → Int → Prop) (v2_0 : Int) (v2_1 : Int) =>
    br (decide (v2_1 < ((a1.1.length) : Int)))
    (br (decide (0 ≤ v2_1) && decide (v2_1 < ((a1.1.length) : Int)))
    (br (lenOk (a0.length))
    (br (v2_1 == 0)
    (again2 (f61 ([v2_0, (f83 ((f84 ((a1.1.getD v2_1.toNat 0), (0, (IntKind.i64.wrap (((a0.length) : Int) - 1))))), 6)), (f83 (true, 9))] : List Int)) (IntKind.i64.wrap (v2_1 + 1)))
    (br (decide (0 ≤ (minmax true 0 (IntKind.i64.wrap (v2_1 - 1)))) && decide ((minmax true 0 (IntKind.i64.wrap (v2_1 - 1))) < ((a1.1.length) : Int)))
    (again2 (f61 ([v2_0, (f83 ((f84 ((a1.1.getD v2_1.toNat 0), (0, (IntKind.i64.wrap (((a0.length) : Int) - 1))))), 6)), (f83 ((decide ((a1.1.getD v2_1.toNat 0) > (a1.1.getD ((minmax true 0 (IntKind.i64.wrap (v2_1 - 1))).toNat) 0))), 9))] : List Int)) (IntKind.i64.wrap (v2_1 + 1)))
    False))
    True)
    False)
    (br (lenOk (a1.2.length))
    (LoopP (V := Int × Int × Unit) (fun again v => (fun (again3 : Int → Int → Prop) (v3_0 : Int) (v3_1 : Int) =>
    br (decide (v3_1 < ((a1.2.length) : Int)))
    (br (decide (0 ≤ v3_1) && decide (v3_1 < ((a1.2.length) : Int)))
    (again3 (f61 ([v3_0, (f83 ((f85 ((a1.2.getD v3_1.toNat 0), 1000000000)), 2))] : List Int)) (IntKind.i64.wrap (v3_1 + 1)))
    False)
    (br (v3_0 != 0)
    (K ((0, 0), v3_0))
    (br (lenOk (a1.1.length))
    (LoopP (V := Int × List Int × Unit) (fun again v => (fun (again4 : Int → List Int → Prop) (v4_0 : Int) (v4_1 : List Int) =>
    br (decide (v4_0 < ((a1.1.length) : Int)))
    (br (decide (0 ≤ v4_0) && decide (v4_0 < ((a1.1.length) : Int)))
    (br (decide (0 ≤ (a1.1.getD v4_0.toNat 0)) && decide ((a1.1.getD v4_0.toNat 0) < ((a0.length) : Int)))
    (br (decide (0 ≤ v4_0) && decide (v4_0 < ((a1.2.length) : Int)))
    (br (decide (0 ≤ v4_0) && decide (v4_0 < ((a1.2.length) : Int)))
    (br (decide (0 ≤ v4_0) && decide (v4_0 < ((a1.2.length) : Int)))
    (again4 (IntKind.i64.wrap (v4_0 + 1)) (((v4_1.set 0 (IntKind.i64.wrap ((v4_1.getD 0 0) + (IntKind.i64.wrap ((a1.2.getD v4_0.toNat 0) * ((a0.getD ((a1.1.getD v4_0.toNat 0).toNat) ((0, (0, 0)), (0, 0))).1).1))))).set 1 (IntKind.i64.wrap (((v4_1.set 0 (IntKind.i64.wrap ((v4_1.getD 0 0) + (IntKind.i64.wrap ((a1.2.getD v4_0.toNat 0) * ((a0.getD ((a1.1.getD v4_0.toNat 0).toNat) ((0, (0, 0)), (0, 0))).1).1))))).getD 1 0) + (IntKind.i64.wrap ((a1.2.getD v4_0.toNat 0) * (((a0.getD ((a1.1.getD v4_0.toNat 0).toNat) ((0, (0, 0)), (0, 0))).1).2).1))))).set 2 (IntKind.i64.wrap ((((v4_1.set 0 (IntKind.i64.wrap ((v4_1.getD 0 0) + (IntKind.i64.wrap ((a1.2.getD v4_0.toNat 0) * ((a0.getD ((a1.1.getD v4_0.toNat 0).toNat) ((0, (0, 0)), (0, 0))).1).1))))).set 1 (IntKind.i64.wrap (((v4_1.set 0 (IntKind.i64.wrap ((v4_1.getD 0 0) + (IntKind.i64.wrap ((a1.2.getD v4_0.toNat 0) * ((a0.getD ((a1.1.getD v4_0.toNat 0).toNat) ((0, (0, 0)), (0, 0))).1).1))))).getD 1 0) + (IntKind.i64.wrap ((a1.2.getD v4_0.toNat 0) * (((a0.getD ((a1.1.getD v4_0.toNat 0).toNat) ((0, (0, 0)), (0, 0))).1).2).1))))).getD 2 0) + (IntKind.i64.wrap ((a1.2.getD v4_0.toNat 0) * (((a0.getD ((a1.1.getD v4_0.toNat 0).toNat) ((0, (0, 0)), (0, 0))).1).2).2))))))
    False)
    False)
    False)
    False)
    False)
    (f82_pre (a0, a1) ∧
    br ((f61 ([(f83 ((((v4_1.getD 0 0) == 0) && (((v4_1.getD 1 0) == 0) && (((v4_1.getD 2 0) == 0) && true))), 3)), (f83 ((f81 (f82 (a0, a1))), 17))] : List Int)) != 0)
    (K ((0, 0), (f61 ([(f83 ((((v4_1.getD 0 0) == 0) && (((v4_1.getD 1 0) == 0) && (((v4_1.getD 2 0) == 0) && true))), 3)), (f83 ((f81 (f82 (a0, a1))), 17))] : List Int))))
    (K ((f82 (a0, a1)), 0))))
    (fun v4_0 v4_1 => again (v4_0, v4_1, ())) v.1 v.2.1) (0, ([0, 0, 0] : List Int), ()))
    True)))
    (fun v3_0 v3_1 => again (v3_0, v3_1, ())) v.1 v.2.1) (v2_0, 0, ()))
    True))
    (fun v2_0 v2_1 => again (v2_0, v2_1, ())) v.1 v.2.1) (j1_0, 0, ()))
    True) v.1)) := by kernel_rfl
theorem f22_t (a0 : List ((Int × Int × Int) × Int × Int)) (a1 : List Int × List Int) (hpre : f22_pre (a0, a1)) (K : ((Int × Int) × Int) → Prop) (hK : ∀ y : (Int × Int) × Int, y = f22 (a0, a1) → K y) : RunF Tryz.prog f22_E f22_A 6 Tryz.f22 f22_e.doms f22_e.cods (a0, a1) K := by
  refine ⟨?_⟩
  rw [f22_run a0 a1 K]
  obtain ⟨l1, l2⟩ := hpre
  dsimp only at l1 l2
  have e0 : f22 (a0, a1) = chkW a0 a1 := rfl
  have e22 : f77 a0 = rdOf a0 := rfl
  have e60 : ∀ b e, f83 (b, e) = if b then 0 else e := fun _ _ => rfl
  rw [e22]
  refine JoinQ.use (fun q : Int × Unit => q = (0, ()) ∧ (rdOf a0).2 = 0 ∧ a1.1.length ≠ 0 ∧ a1.2.length = a1.1.length) (fun G hG => ?_) fun q hq => ?_
  · simp only [f61_two, e60]
    have bad : prfE a0 a1.1 a1.2 = 10 → fst2 (rdOf a0).2 10 ≠ 0 ∧ K ((0, 0), fst2 (rdOf a0).2 10) := fun hp => by
      unfold fst2
      by_cases h : (rdOf a0).2 ≠ 0
      · rw [if_pos h]; exact ⟨h, hK _ (by rw [e0, chkW, if_pos h])⟩
      · rw [if_neg h]; exact ⟨by decide, hK _ (by rw [e0, chkW, if_neg h, hp]; rfl)⟩
    refine br_weak (br_if (fun hpos => br_weak (br_weak ?_)) fun hz => ?_)
    · by_cases hl : a1.1.length = a1.2.length
      · have ed : (((a1.1.length : Int) == (a1.2.length : Int))) = true := beq_iff_eq.2 (by omega)
        rw [ed]
        unfold fst2
        by_cases h : (rdOf a0).2 ≠ 0
        · rw [if_pos h]
          exact br_two (fun _ => hK _ (by rw [e0, chkW, if_pos h])) fun q => absurd (bne_f.1 q) h
        · rw [if_neg h]
          exact br_two (fun q => by cases q) fun _ => hG _ ⟨rfl, Classical.byContradiction h, by omega, hl.symm⟩
      · have ed : (((a1.1.length : Int) == (a1.2.length : Int))) = false := by rw [beq_eq_false_iff_ne]; omega
        rw [ed]
        obtain ⟨b1, b2⟩ := bad (by rw [prfE, if_pos (.inr (by omega))])
        exact br_two (fun _ => b2) fun q => absurd (bne_f.1 q) b1
    · obtain ⟨b1, b2⟩ := bad (by rw [prfE, if_pos (.inl (by omega))])
      exact br_two (fun _ => b2) fun q => absurd (bne_f.1 q) b1
  obtain ⟨rfl, h24, r0, hl⟩ := hq
  have rok := rdOf_ok h24
  have h6 := rok.six
  have hp := rok.pos
  have e61 : ∀ n a b, f84 (n, a, b) = (decide (a ≤ n) && decide (n ≤ b)) := fun _ _ _ => rfl
  dsimp only
  rw [show IntKind.i64.wrap ((a0.length : Int) - 1) = (a0.length : Int) - 1 from wr (by omega) (by omega)]
  refine br_weak (LoopP.up2 (a1.1.length : Int) (fun i u _ => u = (eachE i.toNat (rdIx a0.length a1.1)).2) (fun again u i v hi0 hin hI hag => ?_) (by omega) rfl)
  subst hI
  obtain ⟨k, rfl⟩ := Int.eq_ofNat_of_zero_le hi0
  rw [Int.toNat_natCast]
  dsimp only
  refine br_if (fun hlt => ?_) fun hge => ?_
  · have hk : k < a1.1.length := by omega
    have b1 := inb (i := (k : Int)) (n := a1.1.length) (by omega) hlt
    have hh := hag _ () hlt rfl
    rw [show ((k : Int) + 1).toNat = k + 1 by omega, eachE_succ] at hh
    rw [wr (n := (k : Int) + 1) (by omega) (by omega)]
    simp only [Int.toNat_natCast, f61_three, e60, e61]
    have hin' : ∀ X Y : Int, (if (decide (0 ≤ a1.1.getD k 0) && decide (a1.1.getD k 0 ≤ (a0.length : Int) - 1)) = true then X else Y) = if 0 ≤ a1.1.getD k 0 ∧ a1.1.getD k 0 ≤ (a0.length : Int) - 1 then X else Y := fun X Y => by
      by_cases q : 0 ≤ a1.1.getD k 0 ∧ a1.1.getD k 0 ≤ (a0.length : Int) - 1
      · rw [if_pos q, if_pos (by rw [decide_eq_true q.1, decide_eq_true q.2]; rfl)]
      · rw [if_neg q, if_neg (fun hh => by simp at hh; exact q hh)]
    refine br_must b1 (br_weak (br_two (fun hz => ?_) fun hz => ?_))
    · have hz : k = 0 := by have := beq_iff_eq.1 hz; omega
      have er : rdIx a0.length a1.1 k = fst2 (if 0 ≤ a1.1.getD k 0 ∧ a1.1.getD k 0 ≤ (a0.length : Int) - 1 then 0 else 6) 0 := by
        unfold rdIx fst2
        by_cases q : 0 ≤ a1.1.getD k 0 ∧ a1.1.getD k 0 ≤ (a0.length : Int) - 1
        · rw [if_neg (fun hh => hh q), if_pos q, if_neg (fun hh => by omega)]; rfl
        · rw [if_pos q, if_neg q]; rfl
      rw [er] at hh
      rw [hin']
      exact hh
    · have hz : 0 < k := by
        have := (beq_eq_false_iff_ne).1 hz
        omega
      have eH : minmax true 0 (IntKind.i64.wrap ((k : Int) - 1)) = ((k - 1 : Nat) : Int) := by
        rw [wr (by omega) (by omega), mm_max']; omega
      rw [eH]
      have er : rdIx a0.length a1.1 k = fst2 (if 0 ≤ a1.1.getD k 0 ∧ a1.1.getD k 0 ≤ (a0.length : Int) - 1 then 0 else 6) (if decide (a1.1.getD k 0 > a1.1.getD (k - 1) 0) = true then 0 else 9) := by
        unfold rdIx fst2
        by_cases q : 0 ≤ a1.1.getD k 0 ∧ a1.1.getD k 0 ≤ (a0.length : Int) - 1
        · rw [if_neg (fun hh => hh q), if_pos q, if_neg (show ¬ ((0 : Int) ≠ 0) from fun hh => hh rfl)]
          by_cases q2 : a1.1.getD k 0 > a1.1.getD (k - 1) 0
          · rw [if_neg (fun hh => by omega), if_pos (decide_eq_true q2)]
          · rw [if_pos ⟨hz, by omega⟩, if_neg (fun hh => q2 (of_decide_eq_true hh))]
        · rw [if_pos q, if_neg q]; rfl
      rw [er] at hh
      rw [hin']
      simp only [Int.toNat_natCast]
      exact br_must (inb (by omega) (by omega)) hh
  have hk : k = a1.1.length := by omega
  subst hk
  have e97 : ∀ n, f85 (n, 1000000000) = (decide (-1000000000 ≤ n) && decide (n ≤ 1000000000)) := fun _ => rfl
  refine br_weak (LoopP.up2 (a1.2.length : Int) (fun i u _ => u = fst2 (eachE a1.1.length (rdIx a0.length a1.1)).2 (eachE i.toNat (fcIx a1.2)).2) (fun again u i v hi0' hin' hI hag' => ?_) (by omega) ?_)
  rotate_left
  · show _ = fst2 _ 0
    unfold fst2
    split
    · rfl
    · rename_i h; exact Classical.byContradiction h
  subst hI
  obtain ⟨k, rfl⟩ := Int.eq_ofNat_of_zero_le hi0'
  rw [Int.toNat_natCast]
  dsimp only
  refine br_if (fun hlt => ?_) fun hge' => ?_
  · have hh := hag' _ () hlt rfl
    rw [show ((k : Int) + 1).toNat = k + 1 by omega, eachE_succ] at hh
    rw [wr (n := (k : Int) + 1) (by omega) (by omega)]
    simp only [Int.toNat_natCast, f61_two, e60, e97]
    refine br_must (inb (by omega) (by omega)) ?_
    have er : (if (decide (-1000000000 ≤ a1.2.getD k 0) && decide (a1.2.getD k 0 ≤ 1000000000)) = true then (0 : Int) else 2) = fcIx a1.2 k := by
      unfold fcIx
      by_cases q : -1000000000 ≤ a1.2.getD k 0 ∧ a1.2.getD k 0 ≤ 1000000000
      · rw [if_pos q, if_pos (by rw [decide_eq_true q.1, decide_eq_true q.2]; rfl)]
      · rw [if_neg q, if_neg (fun hh => by simp at hh; exact q hh)]
    rw [er]
    have ea : ∀ a b c : Int, fst2 (fst2 a b) c = fst2 a (fst2 b c) := fun a b c => by
      unfold fst2
      by_cases h : a ≠ 0
      · rw [if_pos h, if_pos h, if_pos h]
      · rw [if_neg h, if_neg h]
    rw [ea]
    exact hh
  have hk : k = a1.2.length := by omega
  subst hk
  have e1 : prfE a0 a1.1 a1.2 = if (eachE a1.1.length (rdIx a0.length a1.1)).2 ≠ 0 then (eachE a1.1.length (rdIx a0.length a1.1)).2 else
      if (eachE a1.2.length (fcIx a1.2)).2 ≠ 0 then (eachE a1.2.length (fcIx a1.2)).2 else if combI a0 a1.1 a1.2 ≠ z3 then 3 else if apart (totL (pickI a0 a1.1) a1.2) = true then 0 else 17 := by
    rw [prfE, if_neg (by rintro (q | q); exact r0 q; exact q hl)]
  have ec : chkW a0 a1 = if prfE a0 a1.1 a1.2 ≠ 0 then ((0, 0), prfE a0 a1.1 a1.2) else (totL (pickI a0 a1.1) a1.2, 0) := by
    rw [chkW, if_neg (fun hh => hh h24)]
  by_cases z1 : (eachE a1.1.length (rdIx a0.length a1.1)).2 ≠ 0
  · have ev : fst2 (eachE a1.1.length (rdIx a0.length a1.1)).2 (eachE a1.2.length (fcIx a1.2)).2 = prfE a0 a1.1 a1.2 := by rw [e1, if_pos z1, fst2, if_pos z1]
    have ne : prfE a0 a1.1 a1.2 ≠ 0 := by rw [e1, if_pos z1]; exact z1
    rw [ev]
    exact br_two (fun _ => hK _ (by rw [e0, ec, if_pos ne])) fun q => absurd (bne_f.1 q) ne
  by_cases z2 : (eachE a1.2.length (fcIx a1.2)).2 ≠ 0
  · have ev : fst2 (eachE a1.1.length (rdIx a0.length a1.1)).2 (eachE a1.2.length (fcIx a1.2)).2 = prfE a0 a1.1 a1.2 := by rw [e1, if_neg z1, if_pos z2, fst2, if_neg z1]
    have ne : prfE a0 a1.1 a1.2 ≠ 0 := by rw [e1, if_neg z1, if_pos z2]; exact z2
    rw [ev]
    exact br_two (fun _ => hK _ (by rw [e0, ec, if_pos ne])) fun q => absurd (bne_f.1 q) ne
  have ev : fst2 (eachE a1.1.length (rdIx a0.length a1.1)).2 (eachE a1.2.length (fcIx a1.2)).2 = 0 := by rw [fst2, if_neg z1]; exact Classical.byContradiction z2
  have pk := prf_ok rok hl (eachE_zero (Classical.byContradiction z1)) (eachE_zero (Classical.byContradiction z2))
  rw [ev]
  refine br_two (fun q => by cases q) fun _ => br_weak ?_
  have e3 : prfE a0 a1.1 a1.2 = if combI a0 a1.1 a1.2 ≠ z3 then 3 else if apart (totL (pickI a0 a1.1) a1.2) = true then 0 else 17 := by
    rw [e1, if_neg z1, if_neg z2]
  have hs6 := pk.tot.six
  have hl' := pk.tot.len
  refine LoopP.up (a1.1.length : Int) (fun i v => v = ([(combI a0 (a1.1.take i.toNat) (a1.2.take i.toNat)).1, (combI a0 (a1.1.take i.toNat) (a1.2.take i.toNat)).2.1, (combI a0 (a1.1.take i.toNat) (a1.2.take i.toNat)).2.2], ())) (fun again i v hi0 hin hI hag => ?_) (by omega) rfl
  subst hI
  obtain ⟨k, rfl⟩ := Int.eq_ofNat_of_zero_le hi0
  rw [Int.toNat_natCast]
  dsimp only
  refine br_if (fun hlt => ?_) fun hge => ?_
  · have hk : k < a1.1.length := by omega
    have hF : k < a1.2.length := by omega
    have hn := pk.tot.inn (a1.1.getD k 0) (by rw [getD_lt hk]; exact List.getElem_mem _)
    have hfac := pk.tot.fac (a1.2.getD k 0) (by rw [getD_lt hF]; exact List.getElem_mem _)
    have hd := pk.dir (a0.getD (a1.1.getD k 0).toNat rd0) (getD_mem (by omega))
    have m1 := mul_le hfac hd.1
    have m2 := mul_le hfac hd.2.1
    have m3 := mul_le hfac hd.2.2
    obtain ⟨q1, q2, q3⟩ := combI_le pk k (by omega)
    have hh := hag _ hlt rfl
    rw [show ((k : Int) + 1).toNat = k + 1 by omega, combI_take hl' hk] at hh
    have b1 := inb (i := (k : Int)) (n := a1.1.length) (by omega) hlt
    have b2 := inb (i := (k : Int)) (n := a1.2.length) (by omega) (by omega)
    have b3 := inb (i := a1.1.getD k 0) (n := a0.length) hn.1 hn.2
    refine br_must b1 (br_must b3 (br_must b2 (br_must b2 (br_must b2 ?_))))
    have dr : (((0 : Int), (0 : Int), (0 : Int)), (0 : Int), (0 : Int)) = rd0 := rfl
    simp only [List.set_cons_zero, List.set_cons_succ, List.getD_cons_zero, List.getD_cons_succ, dr]
    rw [wr (n := (k : Int) + 1) (by omega) (by omega)]
    rw [wr (n := a1.2.getD k 0 * (a0.getD (a1.1.getD k 0).toNat rd0).1.1) (by omega) (by omega), wr (n := a1.2.getD k 0 * (a0.getD (a1.1.getD k 0).toNat rd0).1.2.1) (by omega) (by omega), wr (n := a1.2.getD k 0 * (a0.getD (a1.1.getD k 0).toNat rd0).1.2.2) (by omega) (by omega)]
    have hk6 : (k : Int) ≤ 6 := by omega
    rw [wr (by omega) (by omega), wr (by omega) (by omega), wr (by omega) (by omega)]
    exact hh
  · have hk : k = a1.1.length := by omega
    subst hk
    rw [List.take_of_length_le (Nat.le_refl _), List.take_of_length_le (by omega)]
    have e94 : f82 (a0, a1) = totL (pickI a0 a1.1) a1.2 := rfl
    have e93 : ∀ r, f81 r = apart r := fun _ => rfl
    simp only [List.getD_cons_zero, List.getD_cons_succ, f61_two, e60, e94, e93]
    rw [v3_z]
    refine ⟨pk.tot, ?_⟩
    have ev : fst2 (if decide (combI a0 a1.1 a1.2 = z3) = true then 0 else 3) (if apart (totL (pickI a0 a1.1) a1.2) = true then 0 else 17) = prfE a0 a1.1 a1.2 := by
      rw [e3, fst2]
      by_cases q : combI a0 a1.1 a1.2 = z3
      · rw [if_pos (decide_eq_true q), if_neg (show ¬ ((0 : Int) ≠ 0) from fun hh => hh rfl), if_neg (show ¬ combI a0 a1.1 a1.2 ≠ z3 from fun hh => hh q)]
      · rw [if_neg (fun hh => q (of_decide_eq_true hh)), if_pos (show (3 : Int) ≠ 0 by decide), if_pos q]
    rw [ev]
    refine br_two (fun q => hK _ ?_) fun q => hK _ ?_
    · rw [e0, ec, if_pos (bne_iff_ne.1 q)]
    · rw [e0, ec, if_neg (fun hh => hh (bne_f.1 q))]
theorem f22_fn : f22_e.fn = f22 := rfl
theorem f22_ok : EntryOK Tryz.prog 22 f22_e := by
  refine entryF progOK (EnvOK.cons f61_ok (EnvOK.cons f77_ok (EnvOK.cons f81_ok (EnvOK.cons f82_ok (EnvOK.cons f83_ok (EnvOK.cons f84_ok (EnvOK.cons f85_ok (EnvOK.cons f27_ok (EnvOK.nil))))))))) (A := f22_A) (d := 6) Tryz.func22 rfl rfl rfl rfl (fun h => by cases h) fun x hpre => ?_
  obtain ⟨a0, a1⟩ := x
  exact f22_t a0 a1 hpre _ fun _ h => h.trans (congrFun f22_fn.symm _)
end Go.Proofs.YtglijnhkdnhofaaGreat
end

section
namespace Go.Proofs.YtglijnhkdnhofaaGreat
open Go Go.Pi Go.RowKit
set_option maxRecDepth 100000
set_option linter.unusedVariables false
set_option linter.unusedSimpArgs false

def f86 (l : List Int) : List Int := l
def f86_pre (l : List Int) : Prop := l.length ≤ 1048576
def f86_e : Entry := { doms := [(false, (.sl (.int .i64)))], cods := [(false, (.sl (.int .i64)))], pre := f86_pre, fn := f86, uq := true, total := false }
def f86_E : Env := []
def f86_A : Anns := { loops := [], own := [1049600] }
theorem f86_run (a0 : List Int) (K : (List Int) → Prop) : runU Tryz.prog f86_E f86_A 6 Tryz.f86 f86_e.doms f86_e.cods a0 K =
    (br (roomOk (0 + (a0.length)) 8)
    (K (([] : List Int) ++ a0))
    False) := by kernel_rfl
theorem f86_t (a0 : List Int) (hpre : f86_pre a0) (K : (List Int) → Prop) (hK : ∀ y : List Int, y = f86 a0 → K y) : RunU Tryz.prog f86_E f86_A 6 Tryz.f86 f86_e.doms f86_e.cods a0 K := by
  refine ⟨?_⟩
  rw [f86_run a0 K]
  simp only [br_false_, roomOk_iff]
  have : a0.length ≤ 1048576 := hpre
  exact ⟨by omega, hK _ (by simp [f86])⟩
theorem f86_fn : f86_e.fn = f86 := rfl
theorem f86_ok : EntryOK Tryz.prog 86 f86_e := by
  refine entryFU progOK (EnvOK.nil) (A := f86_A) (d := 6) Tryz.func86 rfl rfl rfl (fun h => by cases h) fun x hpre => ?_
  exact f86_t x hpre _ fun _ h => h.trans (congrFun f86_fn.symm _)
end Go.Proofs.YtglijnhkdnhofaaGreat
end

section
namespace Go.Proofs.YtglijnhkdnhofaaGreat
open Go Go.Pi Go.RowKit
set_option maxRecDepth 100000
set_option linter.unusedVariables false
set_option linter.unusedSimpArgs false

def f23 (x : List Int × List Int) : List Int × List Int := x
def f23_pre (x : List Int × List Int) : Prop := f86_pre x.1 ∧ f86_pre x.2
def f23_e : Entry := { doms := [(true, (.pair (.sl (.int .i64)) (.sl (.int .i64))))], cods := [(true, (.pair (.sl (.int .i64)) (.sl (.int .i64))))], pre := f23_pre, fn := f23, uq := false, total := false }
def f23_E : Env := [(86, f86_e)]
def f23_A : Anns := { loops := [], own := [] }
theorem f23_run (a0 : List Int × List Int) (K : (List Int × List Int) → Prop) : runF Tryz.prog f23_E f23_A 6 Tryz.f23 f23_e.doms f23_e.cods a0 K =
    (f86_pre a0.1 ∧
    f86_pre a0.2 ∧
    K ((f86 a0.1), (f86 a0.2))) := by kernel_rfl
theorem f23_t (a0 : List Int × List Int) (hpre : f23_pre a0) (K : (List Int × List Int) → Prop) (hK : ∀ y : List Int × List Int, y = f23 a0 → K y) : RunF Tryz.prog f23_E f23_A 6 Tryz.f23 f23_e.doms f23_e.cods a0 K := by
  refine ⟨?_⟩
  rw [f23_run a0 K]
  exact ⟨hpre.1, hpre.2, hK _ rfl⟩
theorem f23_fn : f23_e.fn = f23 := rfl
theorem f23_ok : EntryOK Tryz.prog 23 f23_e := by
  refine entryF progOK (EnvOK.cons f86_ok (EnvOK.nil)) (A := f23_A) (d := 6) Tryz.func23 rfl rfl rfl rfl (fun h => by cases h) fun x hpre => ?_
  exact f23_t x hpre _ fun _ h => h.trans (congrFun f23_fn.symm _)
end Go.Proofs.YtglijnhkdnhofaaGreat
end

section
namespace Go.Proofs.YtglijnhkdnhofaaGreat
open Go Go.Pi Go.RowKit
set_option maxRecDepth 100000
set_option linter.unusedVariables false
set_option linter.unusedSimpArgs false

def f32 (d : Int × Int × Int) : Int := dirE d
def f32_e : Entry := { doms := [(true, (.pair (.int .i64) (.pair (.int .i64) (.int .i64))))], cods := [(false, (.int .i64))], pre := fun _ => True, fn := f32, uq := false, total := true }
def f32_E : Env := [(91, f91_e)]
def f32_A : Anns := { loops := [], own := [], unroll := 4 }
theorem f32_run (a0 : Int × Int × Int) (K : Int → Prop) : runF Tryz.prog f32_E f32_A 6 Tryz.f32 f32_e.doms f32_e.cods a0 K =
    (br (!(f91 (a0.1, ((-9), 9))))
    (K 2)
    (br (!(f91 (a0.2.1, ((-9), 9))))
    (K 2)
    (br (!(f91 (a0.2.2, ((-9), 9))))
    (K 2)
    (br ((a0.1 == 0) && ((a0.2.1 == 0) && ((a0.2.2 == 0) && true)))
    (K 11)
    (K 0))))) := by kernel_rfl
theorem f32_t (a0 : Int × Int × Int) (K : Int → Prop) (hK : ∀ y : Int, y = f32 a0 → K y) : RunF Tryz.prog f32_E f32_A 6 Tryz.f32 f32_e.doms f32_e.cods a0 K := by
  refine ⟨?_⟩
  rw [f32_run a0 K]
  have e : ∀ n : Int, f91 (n, -9, 9) = decide (-9 ≤ n ∧ n ≤ 9) := fun n => by simp [f91]
  simp only [e]
  refine br_two (fun h1 => hK _ ?_) fun h1 => br_two (fun h2 => hK _ ?_) fun h2 => br_two (fun h3 => hK _ ?_) fun h3 => br_two (fun h4 => hK _ ?_) fun h4 => hK _ ?_
  · simp only [Bool.not_eq_true', decide_eq_false_iff_not] at h1
    rw [f32, dirE, if_pos (fun h => h1 h.1)]
  · simp only [Bool.not_eq_true', decide_eq_false_iff_not] at h2
    rw [f32, dirE, if_pos (fun h => h2 h.2.1)]
  · simp only [Bool.not_eq_true', decide_eq_false_iff_not] at h3
    rw [f32, dirE, if_pos (fun h => h3 h.2.2)]
  · simp only [Bool.not_eq_false', decide_eq_true_iff] at h1 h2 h3
    rw [f32, dirE, if_neg (fun h => h ⟨h1, h2, h3⟩)]
    obtain ⟨x, y, z⟩ := a0
    simp at h4
    simp [h4]
  · simp only [Bool.not_eq_false', decide_eq_true_iff] at h1 h2 h3
    rw [f32, dirE, if_neg (fun h => h ⟨h1, h2, h3⟩)]
    obtain ⟨x, y, z⟩ := a0
    simp at h4
    rw [if_neg (by simpa using h4)]
theorem f32_fn : f32_e.fn = f32 := rfl
theorem f32_ok : EntryOK Tryz.prog 32 f32_e := by
  refine entryF progOK (EnvOK.cons f91_ok (EnvOK.nil)) (A := f32_A) (d := 6) Tryz.func32 rfl rfl rfl rfl (fun _ _ => trivial) fun x hpre => ?_
  exact f32_t x _ fun _ h => h.trans (congrFun f32_fn.symm _)
end Go.Proofs.YtglijnhkdnhofaaGreat
end

section
namespace Go.Proofs.YtglijnhkdnhofaaGreat
open Go Go.Pi Go.RowKit
set_option maxRecDepth 100000
set_option linter.unusedVariables false
set_option linter.unusedSimpArgs false

def f87 (l : List ((Int × Int × Int) × Int × Int)) : Int × Int := rdOf l
def f87_e : Entry := { doms := [(false, (.sl (.pair (.pair (.int .i64) (.pair (.int .i64) (.int .i64))) (.pair (.int .i64) (.int .i64)))))], cods := [(false, (.int .i64)), (false, (.int .i64))], pre := fun _ => True, fn := f87, uq := false, total := true }
def f87_E : Env := [(32, f32_e), (91, f91_e)]
def f87_A : Anns := { loops := [(1048576, { tms := [(0, .keep), (4, .data false (.int .i64))], obs := [], fz := [] })], own := [] }
theorem f87_run (a0 : List ((Int × Int × Int) × Int × Int)) (K : (Int × Int) → Prop) : runF Tryz.prog f87_E f87_A 6 Tryz.f87 f87_e.doms f87_e.cods a0 K =
    (br (lenOk (a0.length))
    (br (((a0.length) : Int) == 0)
    (K (0, 10))
    (br (lenOk (a0.length))
    (br (decide (((a0.length) : Int) > 6))
    (K (0, 8))
    (LoopP (V := Int × Unit) (fun again v => (fun (again1 : Int → Prop) (v1_0 : Int) =>
    br (lenOk (a0.length))
    (br (decide (v1_0 < ((a0.length) : Int)))
    (br (decide (0 ≤ v1_0) && decide (v1_0 < ((a0.length) : Int)))
    (br ((f32 (((a0.getD v1_0.toNat ((0, (0, 0)), (0, 0))).1).1, (((a0.getD v1_0.toNat ((0, (0, 0)), (0, 0))).1).2))) != 0)
    (K (v1_0, (f32 (((a0.getD v1_0.toNat ((0, (0, 0)), (0, 0))).1).1, (((a0.getD v1_0.toNat ((0, (0, 0)), (0, 0))).1).2)))))
    (br (decide (0 ≤ v1_0) && decide (v1_0 < ((a0.length) : Int)))
    (br (!(f91 (((a0.getD v1_0.toNat ((0, (0, 0)), (0, 0))).2).1, ((-10000), 10000))))
    (K (v1_0, 2))
    (br (decide (0 ≤ v1_0) && decide (v1_0 < ((a0.length) : Int)))
    (br (!(f91 (((a0.getD v1_0.toNat ((0, (0, 0)), (0, 0))).2).2, ((-10000), 10000))))
    (K (v1_0, 2))
    (br (decide (0 ≤ v1_0) && decide (v1_0 < ((a0.length) : Int)))
    (br (decide (0 ≤ v1_0) && decide (v1_0 < ((a0.length) : Int)))
    (br (decide (((a0.getD v1_0.toNat ((0, (0, 0)), (0, 0))).2).1 > ((a0.getD v1_0.toNat ((0, (0, 0)), (0, 0))).2).2))
    (K (v1_0, 9))
    (again1 (IntKind.i64.wrap (v1_0 + 1))))
    False)
    False))
    False))
    False))
    False)
    (K (0, 0)))
    True)
    (fun v1_0 => again (v1_0, ())) v.1) (0, ())))
    True))
    True) := by kernel_rfl
theorem f87_t (a0 : List ((Int × Int × Int) × Int × Int)) (K : (Int × Int) → Prop) (hK : ∀ y : Int × Int, y = f87 a0 → K y) : RunF Tryz.prog f87_E f87_A 6 Tryz.f87 f87_e.doms f87_e.cods a0 K := by
  refine ⟨?_⟩
  rw [f87_run a0 K]
  rw [br_true_, lenOk_iff]
  intro hl
  refine br_two (fun h => hK _ ?_) fun h => br_weak (br_if (fun h2 => hK _ ?_) fun h2 => ?_)
  · have h : a0.length = 0 := by have := beq_iff_eq.1 h; omega
    rw [f87, rdOf, if_pos h]
  · have h : ¬ a0.length = 0 := by have := beq_eq_false_iff_ne.1 h; omega
    rw [f87, rdOf, if_neg h, if_pos (by omega)]
  · have h0 : ¬ a0.length = 0 := by have := beq_eq_false_iff_ne.1 h; omega
    have h1 : ¬ a0.length > 6 := by omega
    refine each_loop (K := K) (n := a0.length) (e := fun i => rdE (a0.getD i rd0)) (hK _ (by rw [f87, rdOf, if_neg h0, if_neg h1])) (fun again i hi hI good bad fin => ?_)
    dsimp only
    refine br_weak (br_if (fun hlt => ?_) fun hlt => fin (by omega))
    have hlt : i < a0.length := by omega
    have b0 : (decide (0 ≤ (i : Int)) && decide ((i : Int) < (a0.length : Int))) = true := inb (by omega) (by omega)
    have e35 : ∀ n : Int, f91 (n, -10000, 10000) = decide (-10000 ≤ n ∧ n ≤ 10000) := fun n => by simp [f91]
    rw [wr (n := (i : Int) + 1) (by omega) (by omega), Int.toNat_natCast]
    generalize hx : a0.getD i ((0, 0, 0), 0, 0) = x at *
    have hx : a0.getD i rd0 = x := hx
    rw [hx] at good bad
    have hd : f32 x.1 = dirE x.1 := rfl
    refine br_must b0 (br_two (fun he => ?_) fun he => br_must b0 (br_two (fun h3 => ?_) fun h3 => br_must b0 (br_two (fun h4 => ?_) fun h4 => br_must b0 (br_must b0 (br_if (fun h5 => ?_) fun h5 => ?_)))))
    · have he : dirE x.1 ≠ 0 := bne_t.1 he
      have := bad hlt (by rw [rdE, if_pos he]; exact he)
      rwa [rdE, if_pos he] at this
    · have he : dirE x.1 = 0 := bne_f.1 he
      rw [e35] at h3
      have e : rdE x = 2 := by rw [rdE, if_neg (fun h => h he), rngE, if_pos (fun h => nd_t.1 h3 h.1)]
      have := bad hlt (by rw [e]; decide)
      rwa [e] at this
    · have he : dirE x.1 = 0 := bne_f.1 he
      rw [e35] at h4
      have e : rdE x = 2 := by rw [rdE, if_neg (fun h => h he), rngE, if_pos (fun h => nd_t.1 h4 h.2)]
      have := bad hlt (by rw [e]; decide)
      rwa [e] at this
    · have he : dirE x.1 = 0 := bne_f.1 he
      rw [e35] at h3 h4
      have e : rdE x = 9 := by rw [rdE, if_neg (fun h => h he), rngE, if_neg (fun h => h ⟨nd_f.1 h3, nd_f.1 h4⟩), if_neg (by omega)]
      have := bad hlt (by rw [e]; decide)
      rwa [e] at this
    · have he : dirE x.1 = 0 := bne_f.1 he
      rw [e35] at h3 h4
      have e : rdE x = 0 := by rw [rdE, if_neg (fun h => h he), rngE, if_neg (fun h => h ⟨nd_f.1 h3, nd_f.1 h4⟩), if_pos (by omega)]
      exact good hlt e
theorem f87_fn : f87_e.fn = f87 := rfl
theorem f87_ok : EntryOK Tryz.prog 87 f87_e := by
  refine entryF progOK (EnvOK.cons f32_ok (EnvOK.cons f91_ok (EnvOK.nil))) (A := f87_A) (d := 6) Tryz.func87 rfl rfl rfl rfl (fun _ _ => trivial) fun x hpre => ?_
  exact f87_t x _ fun _ h => h.trans (congrFun f87_fn.symm _)
end Go.Proofs.YtglijnhkdnhofaaGreat
end

section
namespace Go.Proofs.YtglijnhkdnhofaaGreat
open Go Go.Pi Go.RowKit
set_option maxRecDepth 100000
set_option linter.unusedVariables false
set_option linter.unusedSimpArgs false

def f24 (l : List ((Int × Int × Int) × Int × Int)) : Int := (rdOf l).2
def f24_e : Entry := { doms := [(false, (.sl (.pair (.pair (.int .i64) (.pair (.int .i64) (.int .i64))) (.pair (.int .i64) (.int .i64)))))], cods := [(false, (.int .i64))], pre := fun _ => True, fn := f24, uq := false, total := true }
def f24_E : Env := [(87, f87_e)]
def f24_A : Anns := { loops := [], own := [] }
theorem f24_run (a0 : List ((Int × Int × Int) × Int × Int)) (K : Int → Prop) : runF Tryz.prog f24_E f24_A 6 Tryz.f24 f24_e.doms f24_e.cods a0 K =
    (K ((f87 a0).2)) := by kernel_rfl
theorem f24_t (a0 : List ((Int × Int × Int) × Int × Int)) (K : Int → Prop) (hK : ∀ y : Int, y = f24 a0 → K y) : RunF Tryz.prog f24_E f24_A 6 Tryz.f24 f24_e.doms f24_e.cods a0 K := by
  refine ⟨?_⟩
  rw [f24_run a0 K]
  exact hK _ rfl
theorem f24_fn : f24_e.fn = f24 := rfl
theorem f24_ok : EntryOK Tryz.prog 24 f24_e := by
  refine entryF progOK (EnvOK.cons f87_ok (EnvOK.nil)) (A := f24_A) (d := 6) Tryz.func24 rfl rfl rfl rfl (fun _ _ => trivial) fun x hpre => ?_
  exact f24_t x _ fun _ h => h.trans (congrFun f24_fn.symm _)
end Go.Proofs.YtglijnhkdnhofaaGreat
end

section
namespace Go.Proofs.YtglijnhkdnhofaaGreat
open Go Go.Pi Go.RowKit
set_option maxRecDepth 100000
set_option linter.unusedVariables false
set_option linter.unusedSimpArgs false

def f88 (x : List Int × List Int) : Bool := decide (x.1 = x.2)
def f88_e : Entry := { doms := [(false, (.sl (.int .i64))), (false, (.sl (.int .i64)))], cods := [(false, .bool)], pre := fun _ => True, fn := f88, uq := false, total := true }
def f88_E : Env := []
def f88_A : Anns := { loops := [(1048576, { tms := [(0, .keep), (1, .keep), (5, .data false (.int .i64))], obs := [], fz := [] })], own := [] }
theorem f88_run (a0 : List Int) (a1 : List Int) (K : Bool → Prop) : runF Tryz.prog f88_E f88_A 6 Tryz.f88 f88_e.doms f88_e.cods (a0, a1) K =
    (br (lenOk (a0.length))
    (br (lenOk (a1.length))
    (br (((a0.length) : Int) != ((a1.length) : Int))
    (K false)
    (LoopP (V := Int × Unit) (fun again v => (fun (again1 : Int → Prop) (v1_0 : Int) =>
    br (lenOk (a0.length))
    (br (decide (v1_0 < ((a0.length) : Int)))
    (br (decide (0 ≤ v1_0) && decide (v1_0 < ((a0.length) : Int)))
    (br (decide (0 ≤ v1_0) && decide (v1_0 < ((a1.length) : Int)))
    (br ((a0.getD v1_0.toNat 0) != (a1.getD v1_0.toNat 0))
    (K false)
    (again1 (IntKind.i64.wrap (v1_0 + 1))))
    False)
    False)
    (K true))
    True)
    (fun v1_0 => again (v1_0, ())) v.1) (0, ())))
    True)
    True) := by kernel_rfl
theorem f88_t (a0 : List Int) (a1 : List Int) (K : Bool → Prop) (hK : ∀ y : Bool, y = f88 (a0, a1) → K y) : RunF Tryz.prog f88_E f88_A 6 Tryz.f88 f88_e.doms f88_e.cods (a0, a1) K := by
  refine ⟨?_⟩
  rw [f88_run a0 a1 K]
  rw [br_true_, lenOk_iff]
  intro hl
  rw [br_true_]
  intro _
  rw [br_both]
  refine ⟨fun hne => hK _ ?_, fun he => ?_⟩
  · have : a0 ≠ a1 := fun e => by simp [e] at hne
    simp [f88, this]
  have he : a0.length = a1.length := by
    simp only [bne_eq_false_iff_eq] at he
    omega
  refine LoopP.up a0.length (fun i _ => a0.take i.toNat = a1.take i.toNat) (fun again i v hi0 hn hI hag => ?_) (by omega) (by simp)
  dsimp only
  rw [br_true_]
  intro _
  rw [br_both]
  refine ⟨fun hi => ?_, fun hi => hK _ ?_⟩
  · simp only [decide_eq_true_eq] at hi
    simp only [br_false_, Bool.and_eq_true, decide_eq_true_eq]
    refine ⟨⟨hi0, hi⟩, ⟨hi0, by omega⟩, ?_⟩
    rw [br_both]
    refine ⟨fun hne => hK _ ?_, fun heq => ?_⟩
    · have : a0 ≠ a1 := fun e => by simp [e] at hne
      simp [f88, this]
    · rw [wr (by omega) (by omega)]
      refine hag () hi ?_
      have h1 : i.toNat < a0.length := by omega
      have h2 : i.toNat < a1.length := by omega
      rw [getD_lt h1, getD_lt h2] at heq
      have h3 : a0[i.toNat] = a1[i.toNat] := by simpa using heq
      rw [show (i + 1).toNat = i.toNat + 1 by omega, List.take_add_one, List.take_add_one, hI, List.getElem?_eq_getElem h1, List.getElem?_eq_getElem h2, h3]
  · simp only [decide_eq_false_iff_not] at hi
    rw [List.take_of_length_le (by omega), List.take_of_length_le (by omega)] at hI
    simp [f88, hI]
theorem f88_fn : f88_e.fn = f88 := rfl
theorem f88_ok : EntryOK Tryz.prog 88 f88_e := by
  refine entryF progOK (EnvOK.nil) (A := f88_A) (d := 6) Tryz.func88 rfl rfl rfl rfl (fun _ _ => trivial) fun x hpre => ?_
  obtain ⟨a0, a1⟩ := x
  exact f88_t a0 a1 _ fun _ h => h.trans (congrFun f88_fn.symm _)
end Go.Proofs.YtglijnhkdnhofaaGreat
end

section
namespace Go.Proofs.YtglijnhkdnhofaaGreat
open Go Go.Pi Go.RowKit
set_option maxRecDepth 100000
set_option linter.unusedVariables false
set_option linter.unusedSimpArgs false

def f25 (x : (List Int × List Int) × List Int × List Int) : Bool := decide (x.1 = x.2)
def f25_e : Entry := { doms := [(true, (.pair (.sl (.int .i64)) (.sl (.int .i64)))), (true, (.pair (.sl (.int .i64)) (.sl (.int .i64))))], cods := [(false, .bool)], pre := fun _ => True, fn := f25, uq := false, total := true }
def f25_E : Env := [(88, f88_e)]
def f25_A : Anns := { loops := [], own := [] }
theorem f25_run (a0 : List Int × List Int) (a1 : List Int × List Int) (K : Bool → Prop) : runF Tryz.prog f25_E f25_A 6 Tryz.f25 f25_e.doms f25_e.cods (a0, a1) K =
    (br (f88 (a0.1, a1.1))
    (K (f88 (a0.2, a1.2)))
    (K false)) := by kernel_rfl
theorem f25_t (a0 : List Int × List Int) (a1 : List Int × List Int) (K : Bool → Prop) (hK : ∀ y : Bool, y = f25 (a0, a1) → K y) : RunF Tryz.prog f25_E f25_A 6 Tryz.f25 f25_e.doms f25_e.cods (a0, a1) K := by
  refine ⟨?_⟩
  rw [f25_run a0 a1 K]
  have e88 : ∀ a b : List Int, f88 (a, b) = decide (a = b) := fun _ _ => rfl
  rw [e88, e88]
  have e0 : f25 (a0, a1) = (decide (a0.1 = a1.1) && decide (a0.2 = a1.2)) := by
    show decide (a0 = a1) = _
    rw [Bool.eq_iff_iff]
    simp [Prod.ext_iff]
  refine br_both.2 ⟨fun h => hK _ ?_, fun h => hK _ ?_⟩
  · rw [e0, h]; rfl
  · rw [e0, h]; rfl
theorem f25_fn : f25_e.fn = f25 := rfl
theorem f25_ok : EntryOK Tryz.prog 25 f25_e := by
  refine entryF progOK (EnvOK.cons f88_ok (EnvOK.nil)) (A := f25_A) (d := 6) Tryz.func25 rfl rfl rfl rfl (fun _ _ => trivial) fun x hpre => ?_
  obtain ⟨a0, a1⟩ := x
  exact f25_t a0 a1 _ fun _ h => h.trans (congrFun f25_fn.symm _)
end Go.Proofs.YtglijnhkdnhofaaGreat
end

section
namespace Go.Pi
set_option linter.unusedVariables false
set_option linter.unusedSimpArgs false
def Nz (f : List Int) : Prop := ∀ n ∈ f, n ≠ 0
instance (f : List Int) : Decidable (Nz f) := by unfold Nz; infer_instance
/-- The relation, if no factor is 0. -/
def facR (l : List V3) : List Int × Bool := if (relL l).2 = true ∧ Nz (relL l).1 then ((relL l).1, true) else ([], false)
theorem facR_yes {l : List V3} {r : List Int} (hv : Vs l) (h : RawOK l r) (h0 : l ≠ []) (hn : Nz r) : facR l = (nrm r, true) := by
  have hlo := hv.lo
  have hg : gcdL r ≠ 0 := fun hh => by
    have hl := h.len
    match r, hl with
    | [], hl => simp at hl; omega
    | a :: r, _ => exact hn a (.head _) (gcdL_zero.1 hh a (.head _))
  have e := relL_of hv (isRel_nrm h.len h.zero hg h.one)
  unfold facR
  rw [e]
  refine if_pos ⟨rfl, fun n hn' hz => ?_⟩
  subst hz
  have hm := nrm_mul r
  have : sgL r * 0 ∈ r := by
    have h := List.mem_map_of_mem (f := (sgL r * ·)) hn'
    rw [hm] at h
    exact h
  exact hn _ this (by omega)
theorem facR_no {l : List V3} (h : ∀ f, IsRel l f → ∃ n ∈ f, n = 0) : facR l = ([], false) := by
  unfold facR
  refine if_neg fun ⟨h1, h2⟩ => ?_
  obtain ⟨n, hn, hz⟩ := h _ (relL_is h1)
  exact h2 n hn hz
/-- A relation that is 0 at one place and not everywhere: then the one relation is 0 somewhere. -/
theorem rel_zero {l : List V3} {f g : List Int} (h : IsRel l f) (hg : g.length = l.length) (hz : comb g l = z3) {i j : Nat} (hi : i < l.length) (h0 : g.getD i 0 = 0) (hj : g.getD j 0 ≠ 0) : ∃ n ∈ f, n = 0 := by
  have hp := h.one g hg hz i j
  rw [h0] at hp
  have : f.getD i 0 = 0 := zz (by omega) hj
  refine ⟨f.getD i 0, ?_, this⟩
  have := h.len
  rw [getD_lt (by omega)]
  exact List.getElem_mem _
/-! ### two -/
theorem raw2_at {a b : V3} (hc : cross a b = z3) : (a.1 ≠ 0 → RawOK [a, b] [b.1, -a.1]) ∧ (a.2.1 ≠ 0 → RawOK [a, b] [b.2.1, -a.2.1]) ∧ (a.2.2 ≠ 0 → RawOK [a, b] [b.2.2, -a.2.2]) := by
  obtain ⟨a1, a2, a3⟩ := a
  obtain ⟨b1, b2, b3⟩ := b
  simp only [cross, Prod.mk.injEq] at hc
  obtain ⟨c1, c2, c3⟩ := hc
  dsimp only
  refine ⟨fun k => ⟨rfl, (comb2 _ _ _ _).2 ⟨by grind, by grind, by grind⟩, fun g hg hz => ?_⟩, fun k => ⟨rfl, (comb2 _ _ _ _).2 ⟨by grind, by grind, by grind⟩, fun g hg hz => ?_⟩, fun k => ⟨rfl, (comb2 _ _ _ _).2 ⟨by grind, by grind, by grind⟩, fun g hg hz => ?_⟩⟩
  · obtain ⟨x, y, rfl⟩ := len2 hg
    obtain ⟨e1, e2, e3⟩ := (comb2 _ _ _ _).1 hz
    exact prp2 (by grind)
  · obtain ⟨x, y, rfl⟩ := len2 hg
    obtain ⟨e1, e2, e3⟩ := (comb2 _ _ _ _).1 hz
    exact prp2 (by grind)
  · obtain ⟨x, y, rfl⟩ := len2 hg
    obtain ⟨e1, e2, e3⟩ := (comb2 _ _ _ _).1 hz
    exact prp2 (by grind)
/-- What parallel vectors are at a coordinate: none is 0 there, or both. -/
theorem par_at {a b : V3} (ha : a ≠ z3) (hb : b ≠ z3) (hc : cross a b = z3) : (a.1 ≠ 0 → b.1 ≠ 0) ∧ (a.2.1 ≠ 0 → b.2.1 ≠ 0) ∧ (a.2.2 ≠ 0 → b.2.2 ≠ 0) := by
  obtain ⟨x, y, hx, hy, e1, e2, e3⟩ := par_rel ha hb hc
  refine ⟨fun h h' => h (zz (b := x) ?_ hx), fun h h' => h (zz (b := x) ?_ hx), fun h h' => h (zz (b := x) ?_ hx)⟩
  · rw [h'] at e1; rw [Int.mul_comm]; omega
  · rw [h'] at e2; rw [Int.mul_comm]; omega
  · rw [h'] at e3; rw [Int.mul_comm]; omega
/-- The reference's factors of two. -/
def rr2 (a b : V3) : List Int := if a.2.2 ≠ 0 then [b.2.2, -a.2.2] else if a.2.1 ≠ 0 then [b.2.1, -a.2.1] else [b.1, -a.1]
theorem fac2 {a b : V3} (ha : a ≠ z3) (hb : b ≠ z3) : (cross a b ≠ z3 → facR [a, b] = ([], false)) ∧ (cross a b = z3 → facR [a, b] = (nrm (rr2 a b), true) ∧ Nz (rr2 a b)) := by
  constructor
  · intro hc
    refine facR_no fun f hf => ?_
    obtain ⟨x, y, rfl⟩ := len2 hf.len
    obtain ⟨e1, e2, e3⟩ := (comb2 _ _ _ _).1 hf.zero
    exact ⟨x, by simp, (smul_par hc e1 e2 e3).1⟩
  · intro hc
    have hv : Vs [a, b] := ⟨by simp, by simp, fun v hv => by
      simp only [List.mem_cons, List.not_mem_nil, or_false] at hv
      rcases hv with rfl | rfl
      · exact ha
      · exact hb⟩
    obtain ⟨r1, r2, r3⟩ := raw2_at hc
    obtain ⟨p1, p2, p3⟩ := par_at ha hb hc
    have key : ∀ x y : Int, x ≠ 0 → y ≠ 0 → Nz [y, -x] := fun x y hx hy n hn => by
      simp only [List.mem_cons, List.not_mem_nil, or_false] at hn
      rcases hn with rfl | rfl <;> omega
    unfold rr2
    by_cases k3 : a.2.2 ≠ 0
    · rw [if_pos k3]
      exact ⟨facR_yes hv (r3 k3) (by simp) (key _ _ k3 (p3 k3)), key _ _ k3 (p3 k3)⟩
    · rw [if_neg k3]
      by_cases k2 : a.2.1 ≠ 0
      · rw [if_pos k2]
        exact ⟨facR_yes hv (r2 k2) (by simp) (key _ _ k2 (p2 k2)), key _ _ k2 (p2 k2)⟩
      · rw [if_neg k2]
        have k1 : a.1 ≠ 0 := by rcases v3_ne ha with h | h | h <;> omega
        exact ⟨facR_yes hv (r1 k1) (by simp) (key _ _ k1 (p1 k1)), key _ _ k1 (p1 k1)⟩
/-! ### three -/
def rr3 (a b c : V3) : List Int := [dot (cross b c) (cross a b), dot (cross c a) (cross a b), dot (cross a b) (cross a b)]
theorem sq_pos {n : V3} (h : n ≠ z3) : 0 < dot n n := by
  have hs : ∀ x : Int, 0 ≤ x * x := fun x => by
    by_cases hx : 0 ≤ x
    · exact Int.mul_nonneg hx hx
    · have := Int.mul_nonneg (show 0 ≤ -x by omega) (show 0 ≤ -x by omega)
      grind
  have hp : ∀ x : Int, x ≠ 0 → 0 < x * x := fun x hx => by
    have := hs x
    have : x * x ≠ 0 := fun hh => hx (zz hh hx)
    omega
  have a1 := hs n.1
  have a2 := hs n.2.1
  have a3 := hs n.2.2
  unfold dot
  rcases v3_ne h with k | k | k
  · have := hp _ k; omega
  · have := hp _ k; omega
  · have := hp _ k; omega
/-- Parallel vectors are not at right angles. -/
theorem par_dot_ne {m n : V3} (hm : m ≠ z3) (hn : n ≠ z3) (hc : cross m n = z3) : dot m n ≠ 0 := by
  obtain ⟨x, y, hx, hy, e1, e2, e3⟩ := par_rel hm hn hc
  intro h
  have h1 : y * dot n n = 0 := by
    unfold dot at h ⊢
    have : y * (n.1 * n.1 + n.2.1 * n.2.1 + n.2.2 * n.2.2) = (y * n.1) * n.1 + (y * n.2.1) * n.2.1 + (y * n.2.2) * n.2.2 := by grind
    rw [this, show y * n.1 = -(x * m.1) by omega, show y * n.2.1 = -(x * m.2.1) by omega, show y * n.2.2 = -(x * m.2.2) by omega]
    have : -(x * m.1) * n.1 + -(x * m.2.1) * n.2.1 + -(x * m.2.2) * n.2.2 = -(x * (m.1 * n.1 + m.2.1 * n.2.1 + m.2.2 * n.2.2)) := by grind
    rw [this, h]; simp
  have := sq_pos hn
  exact hy (zz h1 (by omega))
theorem cross_cross {a b c : V3} (hd : det a b c = 0) : cross (cross b c) (cross a b) = z3 ∧ cross (cross c a) (cross a b) = z3 := by
  obtain ⟨a1, a2, a3⟩ := a
  obtain ⟨b1, b2, b3⟩ := b
  obtain ⟨c1, c2, c3⟩ := c
  simp only [det, dot, cross] at hd
  constructor
  · simp only [cross, z3, Prod.mk.injEq]
    exact ⟨by grind, by grind, by grind⟩
  · simp only [cross, z3, Prod.mk.injEq]
    exact ⟨by grind, by grind, by grind⟩
theorem raw3_at {a b c : V3} (hd : det a b c = 0) : RawOK [a, b, c] (rr3 a b c) := by
  obtain ⟨t1, t2, t3⟩ := trip_ok hd
  have z1 := (comb3 _ _ _ _ _ _).1 t1.zero
  have z2 := (comb3 _ _ _ _ _ _).1 t2.zero
  have z3' := (comb3 _ _ _ _ _ _).1 t3.zero
  refine ⟨rfl, (comb3 _ _ _ _ _ _).2 ?_, fun g hg hz => ?_⟩
  · obtain ⟨x1, x2, x3⟩ := z1
    obtain ⟨y1, y2, y3⟩ := z2
    obtain ⟨w1, w2, w3⟩ := z3'
    generalize cross b c = p at *
    generalize cross c a = q at *
    generalize cross a b = r at *
    unfold dot
    refine ⟨?_, ?_, ?_⟩
    · have := congrArg (r.1 * ·) x1; have := congrArg (r.2.1 * ·) y1; have := congrArg (r.2.2 * ·) w1
      grind
    · have := congrArg (r.1 * ·) x2; have := congrArg (r.2.1 * ·) y2; have := congrArg (r.2.2 * ·) w2
      grind
    · have := congrArg (r.1 * ·) x3; have := congrArg (r.2.1 * ·) y3; have := congrArg (r.2.2 * ·) w3
      grind
  · have p1 := t1.one g hg hz
    have p2 := t2.one g hg hz
    have p3 := t3.one g hg hz
    obtain ⟨x, y, z, rfl⟩ := len3 hg
    have q1 := p1 0 1
    have q2 := p2 0 1
    have q3 := p3 0 1
    have q4 := p1 0 2
    have q5 := p2 0 2
    have q6 := p3 0 2
    have q7 := p1 1 2
    have q8 := p2 1 2
    have q9 := p3 1 2
    simp at q1 q2 q3 q4 q5 q6 q7 q8 q9
    have key : ∀ (p q r : V3) (x y : Int), p.1 * y = q.1 * x → p.2.1 * y = q.2.1 * x → p.2.2 * y = q.2.2 * x → dot p r * y = dot q r * x := fun p q r x y h1 h2 h3 => by
      have e1 : ∀ (p : V3) (y : Int), dot p r * y = r.1 * (p.1 * y) + r.2.1 * (p.2.1 * y) + r.2.2 * (p.2.2 * y) := fun p y => by unfold dot; grind
      rw [e1, e1, h1, h2, h3]
    exact prp3 (key _ _ _ _ _ q1 q2 q3) (key _ _ _ _ _ q4 q5 q6) (key _ _ _ _ _ q7 q8 q9)
theorem fac3 {a b c : V3} (ha : a ≠ z3) (hb : b ≠ z3) (hc : c ≠ z3) : ((det a b c ≠ 0 ∨ cross b c = z3 ∨ cross a c = z3 ∨ cross a b = z3) → facR [a, b, c] = ([], false)) ∧
    (det a b c = 0 → cross b c ≠ z3 → cross a c ≠ z3 → cross a b ≠ z3 → facR [a, b, c] = (nrm (rr3 a b c), true) ∧ Nz (rr3 a b c)) := by
  constructor
  · intro h
    refine facR_no fun f hf => ?_
    rcases h with h | h | h | h
    · obtain ⟨x, y, z, rfl⟩ := len3 hf.len
      obtain ⟨e1, e2, e3⟩ := (comb3 _ _ _ _ _ _).1 hf.zero
      exact absurd (det_of_rel (fun hh => hf.ne (gcd3.2 hh)) e1 e2 e3) h
    · obtain ⟨x, y, hx, hy, e1, e2, e3⟩ := par_rel hb hc h
      exact rel_zero hf (g := [0, x, y]) rfl ((comb3 _ _ _ _ _ _).2 ⟨by omega, by omega, by omega⟩) (i := 0) (j := 1) (by simp) rfl hx
    · obtain ⟨x, y, hx, hy, e1, e2, e3⟩ := par_rel ha hc h
      exact rel_zero hf (g := [x, 0, y]) rfl ((comb3 _ _ _ _ _ _).2 ⟨by omega, by omega, by omega⟩) (i := 1) (j := 0) (by simp) rfl hx
    · obtain ⟨x, y, hx, hy, e1, e2, e3⟩ := par_rel ha hb h
      exact rel_zero hf (g := [x, y, 0]) rfl ((comb3 _ _ _ _ _ _).2 ⟨by omega, by omega, by omega⟩) (i := 2) (j := 0) (by simp) rfl hx
  · intro hd h1 h2 h3
    have hv : Vs [a, b, c] := ⟨by simp, by simp, fun v hv => by
      simp only [List.mem_cons, List.not_mem_nil, or_false] at hv
      rcases hv with rfl | rfl | rfl
      · exact ha
      · exact hb
      · exact hc⟩
    obtain ⟨c1, c2⟩ := cross_cross hd
    have hca : cross c a ≠ z3 := fun hh => h2 (cross_neg hh)
    have hn : Nz (rr3 a b c) := fun n hn => by
      unfold rr3 at hn
      simp only [List.mem_cons, List.not_mem_nil, or_false] at hn
      rcases hn with rfl | rfl | rfl
      · exact par_dot_ne h1 h3 c1
      · exact par_dot_ne hca h3 c2
      · have := sq_pos h3; omega
    exact ⟨facR_yes hv (raw3_at hd) (by simp) hn, hn⟩
/-! ### four -/
theorem flat_one {a b c : V3} (ha : a ≠ z3) (hb : b ≠ z3) (hd : det a b c = 0) : ∃ x y z, ¬ (x = 0 ∧ y = 0 ∧ z = 0) ∧ x * a.1 + (y * b.1 + z * c.1) = 0 ∧ x * a.2.1 + (y * b.2.1 + z * c.2.1) = 0 ∧ x * a.2.2 + (y * b.2.2 + z * c.2.2) = 0 := by
  by_cases hc : cross a b = z3
  · obtain ⟨x, y, hx, hy, e1, e2, e3⟩ := par_rel ha hb hc
    exact ⟨x, y, 0, fun hh => hx hh.1, by omega, by omega, by omega⟩
  · obtain ⟨x, y, z, hz, e⟩ := flat_rel hd hc
    exact ⟨x, y, z, fun hh => hz hh.2.2, e⟩
theorem rel_zero3 {l : List V3} {f g : List Int} (h : IsRel l f) (hg : g.length = l.length) (hz : comb g l = z3) {i : Nat} (hi : i < l.length) (h0 : g.getD i 0 = 0) (hj : gcdL g ≠ 0) : ∃ n ∈ f, n = 0 := by
  obtain ⟨n, hn, hn0⟩ : ∃ n ∈ g, n ≠ 0 := Classical.byContradiction fun hh => hj (gcdL_zero.2 fun n hn => Classical.byContradiction fun h => hh ⟨n, hn, h⟩)
  obtain ⟨j, hj, e⟩ := mem_getD0 hn
  exact rel_zero h hg hz hi h0 (j := j) (by rw [e]; exact hn0)
theorem fac4 {a b c d : V3} (ha : a ≠ z3) (hb : b ≠ z3) (hc : c ≠ z3) (hd : d ≠ z3) : ((det b c d = 0 ∨ det a c d = 0 ∨ det a b d = 0 ∨ det a b c = 0) → facR [a, b, c, d] = ([], false)) ∧
    (det b c d ≠ 0 → det a c d ≠ 0 → det a b d ≠ 0 → det a b c ≠ 0 → facR [a, b, c, d] = (nrm (raw4 a b c d), true) ∧ Nz (raw4 a b c d)) := by
  constructor
  · intro h
    refine facR_no fun f hf => ?_
    rcases h with h | h | h | h
    · obtain ⟨x, y, z, hn, e1, e2, e3⟩ := flat_one hb hc h
      exact rel_zero3 hf (g := [0, x, y, z]) rfl ((comb4 _ _ _ _ _ _ _ _).2 ⟨by omega, by omega, by omega⟩) (i := 0) (by simp) rfl fun hh => hn (by have := gcd4.1 hh; exact ⟨this.2.1, this.2.2.1, this.2.2.2⟩)
    · obtain ⟨x, y, z, hn, e1, e2, e3⟩ := flat_one ha hc h
      exact rel_zero3 hf (g := [x, 0, y, z]) rfl ((comb4 _ _ _ _ _ _ _ _).2 ⟨by omega, by omega, by omega⟩) (i := 1) (by simp) rfl fun hh => hn (by have := gcd4.1 hh; exact ⟨this.1, this.2.2.1, this.2.2.2⟩)
    · obtain ⟨x, y, z, hn, e1, e2, e3⟩ := flat_one ha hb h
      exact rel_zero3 hf (g := [x, y, 0, z]) rfl ((comb4 _ _ _ _ _ _ _ _).2 ⟨by omega, by omega, by omega⟩) (i := 2) (by simp) rfl fun hh => hn (by have := gcd4.1 hh; exact ⟨this.1, this.2.1, this.2.2.2⟩)
    · obtain ⟨x, y, z, hn, e1, e2, e3⟩ := flat_one ha hb h
      exact rel_zero3 hf (g := [x, y, z, 0]) rfl ((comb4 _ _ _ _ _ _ _ _).2 ⟨by omega, by omega, by omega⟩) (i := 3) (by simp) rfl fun hh => hn (by have := gcd4.1 hh; exact ⟨this.1, this.2.1, this.2.2.1⟩)
  · intro h1 h2 h3 h4
    have hv : Vs [a, b, c, d] := ⟨by simp, by simp, fun v hv => by
      simp only [List.mem_cons, List.not_mem_nil, or_false] at hv
      rcases hv with rfl | rfl | rfl | rfl
      · exact ha
      · exact hb
      · exact hc
      · exact hd⟩
    have hn : Nz (raw4 a b c d) := fun n hn => by
      unfold raw4 at hn
      simp only [List.mem_cons, List.not_mem_nil, or_false] at hn
      rcases hn with rfl | rfl | rfl | rfl <;> omega
    exact ⟨facR_yes hv (raw4_ok a b c d) (by simp) hn, hn⟩
end Go.Pi
end
