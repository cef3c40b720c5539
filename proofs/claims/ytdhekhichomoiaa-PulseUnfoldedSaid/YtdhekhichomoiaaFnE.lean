/- What functions of the program compute, each proved once, part 5. -/
import Derived.Test.YtdhekhichomoiaaPiC
import Derived.Test.YtdhekhichomoiaaFnA
import Derived.Test.YtdhekhichomoiaaFnB
import Derived.Test.YtdhekhichomoiaaFnC
import Derived.Test.YtdhekhichomoiaaFnD

namespace Go.Proofs.Ytdhekhichomoiaa
open Go Go.Pi Go.RowKit
set_option maxRecDepth 100000
set_option linter.unusedVariables false
set_option linter.unusedSimpArgs false

def f15 (x : Int × List (Int × Int × Int) × Int) : Bool := true
/-- A folded speed. -/
def foldOf (speed : Int) (x : Int × Int × Int) : Int × Int × Int := (speed + f78 (x.2.2, 2 * x.2.1 + 1) - x.2.1 + x.1 * f78 (x.2.2, 5), x.1, x.2.1)
def inX (x : Int × Int × Int) : Prop := (1 ≤ x.1 ∧ x.1 ≤ 300) ∧ 0 ≤ x.2.1 ∧ x.2.1 ≤ 20
theorem f78_mod (t : Int) {n : Int} (h0 : 0 < n) (h1 : n ≤ 1000) : 0 ≤ f78 (t, n) ∧ f78 (t, n) < n := by
  have h2 : t.tmod n < n := Int.tmod_lt_of_pos t h0
  have h3 : -n < t.tmod n := by
    have := Int.lt_tmod_of_pos t h0
    omega
  simp only [f78]
  split
  · rw [wr (by omega) (by omega)]
    omega
  · omega
theorem foldOf_in {speed : Int} {x : Int × Int × Int} (hs : -300 ≤ speed ∧ speed ≤ 300) (h : inX x) : inF (foldOf speed x) = true ∧ fitsF (foldOf speed x) speed = true ∧ -20000 ≤ x.1 * f78 (x.2.2, 5) ∧ x.1 * f78 (x.2.2, 5) ≤ 1200 ∧ 0 ≤ x.1 * f78 (x.2.2, 5) := by
  obtain ⟨p, o, t⟩ := x
  obtain ⟨⟨h1, h2⟩, h3, h4⟩ := h
  simp only at h1 h2 h3 h4
  obtain ⟨m1, m2⟩ := f78_mod t (show 0 < 2 * o + 1 by omega) (by omega)
  obtain ⟨m3, m4⟩ := f78_mod t (show (0 : Int) < 5 by omega) (by omega)
  simp only [foldOf]
  generalize f78 (t, 2 * o + 1) = m at *
  generalize f78 (t, 5) = k at *
  have hk : p * k ≤ 300 * 4 := Int.mul_le_mul h2 (by omega) m3 (by omega)
  have hk0 : 0 ≤ p * k := Int.mul_nonneg (by omega) m3
  refine ⟨?_, ?_, by omega, by omega, hk0⟩
  · rw [inF_iff]
    simp only
    omega
  · unfold fitsF
    simp only
    have e : (speed - (speed + m - o + p * k)) % p = (o - m) % p := by
      rw [show speed - (speed + m - o + p * k) = (o - m) + p * (-k) by rw [Int.mul_neg]; omega, Int.add_mul_emod_self_left]
    rw [e]
    have e1 := Int.emod_lt_of_pos (o - m) (show 0 < p by omega)
    have e2 := Int.emod_nonneg (o - m) (show p ≠ 0 by omega)
    by_cases hm : m ≤ o
    · have : (o - m) % p ≤ o - m := by
        have := Int.emod_add_mul_ediv (o - m) p
        have h5 : 0 ≤ (o - m) / p := Int.ediv_nonneg (by omega) (by omega)
        have h6 : 0 ≤ p * ((o - m) / p) := Int.mul_nonneg (by omega) h5
        omega
      rw [decide_eq_true (show (o - m) % p ≤ o by omega)]
      rfl
    · have : p - (o - m) % p ≤ m - o := by
        have h5 := Int.emod_add_mul_ediv (o - m) p
        have h6 : (o - m) / p ≤ -1 := by
          rcases Int.lt_or_le ((o - m) / p) 0 with h | h
          · omega
          · have := Int.mul_nonneg (show 0 ≤ p by omega) h
            omega
        have h7 : p * ((o - m) / p) ≤ p * (-1) := Int.mul_le_mul_of_nonneg_left h6 (by omega)
        omega
      rw [decide_eq_true (show p - (o - m) % p ≤ o by omega), Bool.or_true]
theorem unf_sorted {l : List (Int × Int × Int)} {limit : Int} : (unf l limit).Pairwise (· < ·) := by
  unfold unf
  refine List.Pairwise.filter _ ?_
  rw [List.pairwise_map]
  exact (List.pairwise_lt_range).imp fun h => by omega
def f15_e : Entry := { doms := [(false, (.int .i64)), (false, (.sl (.pair (.int .i64) (.pair (.int .i64) (.int .i64))))), (false, (.int .i64))], cods := [(false, .bool)], pre := fun _ => True, fn := f15, uq := false, total := true }
def f15_E : Env := [(16, f16_e), (18, f18_e), (19, f19_e), (47, f47_e), (78, f78_e), (83, f83_e), (84, f84_e), (85, f85_e), (14, f14_e)]
def f15_A : Anns := { loops := [(1048576, { tms := [(0, .keep), (1, .keep), (2, .keep), (7, .ref 1060878), (8, .data false (.int .i64))], obs := [(1060878, .arr (.uniq) (.pair (.int .i64) (.pair (.int .i64) (.int .i64))))], fz := [] }),
  (1048578, { tms := [(2, .keep), (7, .keep), (10, .keep), (14, .data false (.int .i64))], obs := [(1060878, .keep)], fz := [] }),
  (1048580, { tms := [(10, .keep), (15, .keep), (17, .data false (.int .i64))], obs := [(1060878, .keep)], fz := [] })], own := [] }
theorem f15_run (a0 : Int) (a1 : List (Int × Int × Int)) (a2 : Int) (K : Bool → Prop) : runF Try.prog f15_E f15_A 6 Try.f15 f15_e.doms f15_e.cods (a0, a1, a2) K =
    (br (!(f16 ()))
    (K false)
    (br (!(f18 (a0, ((-300), 300))))
    (K true)
    (br (lenOk (a1.length))
    (br (((a1.length) : Int) == 0)
    (K true)
    (br (lenOk (a1.length))
    (br (decide (((a1.length) : Int) > 6))
    (K true)
    (br (!(f18 (a2, ((f19 a0), 600))))
    (K true)
    (LoopP (V := Int × List (Int × Int × Int) × Unit) (fun again v => (fun (again1 : Int → List (Int × Int × Int) → Prop) (v1_0 : Int) (v1_1 : List (Int × Int × Int)) =>
    br (lenOk (a1.length))
    (br (decide (v1_0 < ((a1.length) : Int)))
    (br (decide (0 ≤ v1_0) && decide (v1_0 < ((a1.length) : Int)))
    (br (!(f18 ((a1.getD v1_0.toNat (0, (0, 0))).1, (1, 300))))
    (K true)
    (br (decide (0 ≤ v1_0) && decide (v1_0 < ((a1.length) : Int)))
    (br (!(f18 (((a1.getD v1_0.toNat (0, (0, 0))).2).1, (0, 20))))
    (K true)
    (br (decide (0 ≤ v1_0) && decide (v1_0 < ((a1.length) : Int)))
    (br (decide (0 ≤ v1_0) && decide (v1_0 < ((a1.length) : Int)))
    (f78_pre (((a1.getD v1_0.toNat (0, (0, 0))).2).2, (IntKind.i64.wrap ((IntKind.i64.wrap (2 * ((a1.getD v1_0.toNat (0, (0, 0))).2).1)) + 1))) ∧
    br (decide (0 ≤ v1_0) && decide (v1_0 < ((a1.length) : Int)))
    (br (decide (0 ≤ v1_0) && decide (v1_0 < ((a1.length) : Int)))
    (br (decide (0 ≤ v1_0) && decide (v1_0 < ((a1.length) : Int)))
    (f78_pre (((a1.getD v1_0.toNat (0, (0, 0))).2).2, 5) ∧
    br (decide (0 ≤ v1_0) && decide (v1_0 < ((a1.length) : Int)))
    (br (decide (0 ≤ v1_0) && decide (v1_0 < ((a1.length) : Int)))
    (br (roomOk ((v1_1.length) + 1) 24)
    (again1 (IntKind.i64.wrap (v1_0 + 1)) (v1_1 ++ ([((IntKind.i64.wrap ((IntKind.i64.wrap ((IntKind.i64.wrap (a0 + (f78 (((a1.getD v1_0.toNat (0, (0, 0))).2).2, (IntKind.i64.wrap ((IntKind.i64.wrap (2 * ((a1.getD v1_0.toNat (0, (0, 0))).2).1)) + 1)))))) - ((a1.getD v1_0.toNat (0, (0, 0))).2).1)) + (IntKind.i64.wrap ((a1.getD v1_0.toNat (0, (0, 0))).1 * (f78 (((a1.getD v1_0.toNat (0, (0, 0))).2).2, 5)))))), ((a1.getD v1_0.toNat (0, (0, 0))).1, ((a1.getD v1_0.toNat (0, (0, 0))).2).1))] : List (Int × Int × Int))))
    False)
    False)
    False)
    False)
    False)
    False)
    False)
    False))
    False))
    False)
    (f84_pre v1_1 ∧
    f83_pre ((f84 v1_1), a2) ∧
    f84_pre v1_1 ∧
    f85_pre ((f84 v1_1), a2) ∧
    br ((f83 ((f84 v1_1), a2)).2 != 0)
    (K false)
    (br ((f85 ((f84 v1_1), a2)).2 != 12)
    (K false)
    (br (!(f47 ((f83 ((f84 v1_1), a2)).1, a0)))
    (K false)
    (LoopP (V := Int × Unit) (fun again v => (fun (again2 : Int → Prop) (v2_0 : Int) =>
    br (lenOk (((f83 ((f84 v1_1), a2)).1).length))
    (br (decide (v2_0 < ((((f83 ((f84 v1_1), a2)).1).length) : Int)))
    (br (decide (0 ≤ v2_0) && decide (v2_0 < ((((f83 ((f84 v1_1), a2)).1).length) : Int)))
    (br (!(f18 ((((f83 ((f84 v1_1), a2)).1).getD v2_0.toNat 0), ((IntKind.i64.wrap (0 - a2)), a2))))
    (K false)
    (br (decide (v2_0 > 0))
    (br (decide (0 ≤ v2_0) && decide (v2_0 < ((((f83 ((f84 v1_1), a2)).1).length) : Int)))
    (br (decide (0 ≤ (IntKind.i64.wrap (v2_0 - 1))) && decide ((IntKind.i64.wrap (v2_0 - 1)) < ((((f83 ((f84 v1_1), a2)).1).length) : Int)))
    (br (decide ((((f83 ((f84 v1_1), a2)).1).getD v2_0.toNat 0) ≤ (((f83 ((f84 v1_1), a2)).1).getD ((IntKind.i64.wrap (v2_0 - 1)).toNat) 0)))
    (K false)
    (again2 (IntKind.i64.wrap (v2_0 + 1))))
    False)
    False)
    (again2 (IntKind.i64.wrap (v2_0 + 1)))))
    False)
    (br (lenOk (v1_1.length))
    (br (((v1_1.length) : Int) == 1)
    (K true)
    (br (lenOk (v1_1.length))
    (br (decide ((0 : Int) ≤ 0 ∧ 0 ≤ (IntKind.i64.wrap (((v1_1.length) : Int) - 1)) ∧ (IntKind.i64.wrap (((v1_1.length) : Int) - 1)) ≤ ((v1_1.length) : Int)))
    (f84_pre ((v1_1.take ((IntKind.i64.wrap (((v1_1.length) : Int) - 1)).toNat)).drop 0) ∧
    f83_pre ((f84 ((v1_1.take ((IntKind.i64.wrap (((v1_1.length) : Int) - 1)).toNat)).drop 0)), a2) ∧
    br ((f83 ((f84 ((v1_1.take ((IntKind.i64.wrap (((v1_1.length) : Int) - 1)).toNat)).drop 0)), a2)).2 != 0)
    (K false)
    (br (lenOk (((f83 ((f84 ((v1_1.take ((IntKind.i64.wrap (((v1_1.length) : Int) - 1)).toNat)).drop 0)), a2)).1).length))
    (br (lenOk (((f83 ((f84 v1_1), a2)).1).length))
    (br (decide (((((f83 ((f84 ((v1_1.take ((IntKind.i64.wrap (((v1_1.length) : Int) - 1)).toNat)).drop 0)), a2)).1).length) : Int) < ((((f83 ((f84 v1_1), a2)).1).length) : Int)))
    (K false)
    (LoopP (V := Int × Unit) (fun again v => (fun (again3 : Int → Prop) (v3_0 : Int) =>
    br (lenOk (((f83 ((f84 v1_1), a2)).1).length))
    (br (decide (v3_0 < ((((f83 ((f84 v1_1), a2)).1).length) : Int)))
    (br (decide (0 ≤ v3_0) && decide (v3_0 < ((((f83 ((f84 v1_1), a2)).1).length) : Int)))
    (br (!(f47 ((f83 ((f84 ((v1_1.take ((IntKind.i64.wrap (((v1_1.length) : Int) - 1)).toNat)).drop 0)), a2)).1, (((f83 ((f84 v1_1), a2)).1).getD v3_0.toNat 0))))
    (K false)
    (again3 (IntKind.i64.wrap (v3_0 + 1))))
    False)
    (K true))
    True)
    (fun v3_0 => again (v3_0, ())) v.1) (0, ())))
    True)
    True))
    False)
    True))
    True))
    True)
    (fun v2_0 => again (v2_0, ())) v.1) (0, ()))))))
    True)
    (fun v1_0 v1_1 => again (v1_0, v1_1, ())) v.1 v.2.1) (0, ([] : List (Int × Int × Int)), ()))))
    True))
    True))) := by kernel_rfl
theorem f15_t (a0 : Int) (a1 : List (Int × Int × Int)) (a2 : Int) (K : Bool → Prop) (hK : ∀ y : Bool, y = f15 (a0, a1, a2) → K y) : RunF Try.prog f15_E f15_A 6 Try.f15 f15_e.doms f15_e.cods (a0, a1, a2) K := by
  refine ⟨?_⟩
  rw [f15_run a0 a1 a2 K]
  have hT : K true := hK _ rfl
  rw [show (!(f16 ())) = false from rfl, br_f]
  have h84 : ∀ l, f84 l = l := fun _ => rfl
  simp only [h84]
  rw [br_both]
  refine ⟨fun _ => hT, fun h1 => ?_⟩
  have h1 : -300 ≤ a0 ∧ a0 ≤ 300 := by simpa [f18] using h1
  rw [br_true_, lenOk_iff]
  intro hlen
  rw [br_both]
  refine ⟨fun _ => hT, fun h2 => ?_⟩
  have h2 : a1.length ≠ 0 := fun e => by rw [e] at h2; simp at h2
  rw [br_true_]
  intro _
  rw [br_dec]
  refine ⟨fun _ => hT, fun h3 => ?_⟩
  have h3 : a1.length ≤ 6 := by omega
  rw [br_both]
  refine ⟨fun _ => hT, fun h4 => ?_⟩
  have e19 : f19 a0 = if a0 < -a0 then -a0 else a0 := by
    unfold f19
    rw [wr (n := 0 - a0) (by omega) (by omega), show (0 : Int) - a0 = -a0 by omega]
    simp only [minmax]
  have h4 : f19 a0 ≤ a2 ∧ a2 ≤ 600 := by simpa [f18] using h4
  have h5 : (-a2 ≤ a0 ∧ a0 ≤ a2) ∧ 0 ≤ a2 := by
    rw [e19] at h4
    split at h4 <;> omega
  refine LoopP.up a1.length (fun i v => v.1 = (a1.take i.toNat).map (foldOf a0) ∧ ∀ x ∈ a1.take i.toNat, inX x) (fun again i v hi0 hn hI hag => ?_) (by omega) ⟨rfl, by simp⟩
  obtain ⟨l, u⟩ := v
  obtain ⟨hl, hin⟩ := hI
  simp only at hl
  dsimp only
  rw [br_true_]
  intro _
  rw [br_dec]
  refine ⟨fun hi => ?_, fun hi => ?_⟩
  · have hil : i.toNat < a1.length := by omega
    have b0 : (decide (0 ≤ i) && decide (i < (a1.length : Int))) = true := by simp; omega
    simp only [b0, br_t]
    rw [br_both]
    refine ⟨fun _ => hT, fun h6 => ?_⟩
    rw [br_both]
    refine ⟨fun _ => hT, fun h7 => ?_⟩
    have hx : inX (a1.getD i.toNat (0, 0, 0)) := by
      refine ⟨by simpa [f18] using h6, by simpa [f18] using h7⟩
    obtain ⟨g1, g2, g3, g4, g5⟩ := foldOf_in h1 hx
    have hst : foldOf a0 (a1.getD i.toNat (0, 0, 0)) = foldOf a0 (a1.getD i.toNat (0, 0, 0)) := rfl
    generalize hy : a1.getD i.toNat (0, 0, 0) = y at hx g1 g2 g3 g4 g5 hst
    obtain ⟨p, o, t⟩ := y
    obtain ⟨⟨k1, k2⟩, k3, k4⟩ := hx
    simp only at k1 k2 k3 k4 g3 g4 g5
    simp only
    rw [wr (n := 2 * o) (by omega) (by omega), wr (n := 2 * o + 1) (by omega) (by omega)]
    obtain ⟨m1, m2⟩ := f78_mod t (show 0 < 2 * o + 1 by omega) (by omega)
    refine ⟨show 2 * o + 1 ≠ 0 by omega, show (5 : Int) ≠ 0 by omega, ?_⟩
    rw [wr (n := p * f78 (t, 5)) (by omega) (by omega), wr (n := a0 + f78 (t, 2 * o + 1)) (by omega) (by omega), wr (n := a0 + f78 (t, 2 * o + 1) - o) (by omega) (by omega), wr (n := a0 + f78 (t, 2 * o + 1) - o + p * f78 (t, 5)) (by omega) (by omega), br_false_, roomOk_iff, wr (n := i + 1) (by omega) (by omega)]
    have hll : l.length ≤ 6 := by rw [hl, List.length_map, List.length_take]; omega
    have htake : a1.take (i + 1).toNat = a1.take i.toNat ++ [(p, o, t)] := by
      rw [show (i + 1).toNat = i.toNat + 1 by omega, List.take_add_one, List.getElem?_eq_getElem hil, ← getD_lt (d := (0, 0, 0)) hil, hy]
      rfl
    refine ⟨by omega, hag (_, ()) hi ⟨?_, ?_⟩⟩
    · rw [htake, List.map_append, hl]
      rfl
    · rw [htake]
      intro x hx
      rcases List.mem_append.1 hx with hx | hx
      · exact hin x hx
      · simp only [List.mem_singleton] at hx
        subst hx
        exact ⟨⟨k1, k2⟩, k3, k4⟩
  · rw [List.take_of_length_le (by omega)] at hl hin
    have hll : l.length = a1.length := by rw [hl, List.length_map]
    have hall : ∀ f ∈ l, inF f = true ∧ fitsF f a0 = true := fun f hf => by
      rw [hl] at hf
      obtain ⟨x, hx, rfl⟩ := List.mem_map.1 hf
      obtain ⟨g1, g2, _⟩ := foldOf_in h1 (hin x hx)
      exact ⟨g1, g2⟩
    clear hl hin
    have hz : ∀ l' : List (Int × Int × Int), l'.length ≠ 0 → l'.length ≤ 6 → (∀ f ∈ l', inF f = true) → f86 (l', a2) = 0 := fun l' q1 q2 q3 => by
      unfold f86
      simp only
      rw [if_neg q1, if_neg (by omega), if_pos (List.all_eq_true.2 q3), if_pos ⟨h5.2, by omega⟩]
    have hz0 := hz l (by omega) (by omega) fun f hf => (hall f hf).1
    have e83 : f83 (l, a2) = (unf l a2, 0) := by rw [f83, if_neg (by simpa using hz0)]
    have hmem : a0 ∈ unf l a2 := mem_unf.2 ⟨h5.1, fun f hf => (hall f hf).2⟩
    have hne : (unf l a2).isEmpty = false := by
      cases hu : unf l a2 with
      | nil => rw [hu] at hmem; cases hmem
      | cons _ _ => rfl
    have e85 : f85 (l, a2) = ([], 12) := by
      rw [f85, if_neg (by simpa using hz0)]
      simp only
      rw [show bestS l a2 = [] from bestTo_open hne _]
      rfl
    refine ⟨show l.length ≤ 100 by omega, trivial, show l.length ≤ 100 by omega, trivial, ?_⟩
    simp only [e83, e85, bne_self_eq_false, br_f]
    rw [show f47 (unf l a2, a0) = true by simp [f47, hmem], Bool.not_true, br_f]
    have hul : (unf l a2).length ≤ 1201 := by
      have := unfTo_len l a2 (a2 + 1)
      rw [unfTo_last rfl] at this
      omega
    refine LoopP.up (unf l a2).length (fun _ _ => True) (fun again2 j v hj0 hj1 _ hag2 => ?_) (by omega) trivial
    dsimp only
    rw [br_true_]
    intro _
    rw [br_dec]
    refine ⟨fun hj => ?_, fun hj => ?_⟩
    · have hjl : j.toNat < (unf l a2).length := by omega
      have b0 : (decide (0 ≤ j) && decide (j < ((unf l a2).length : Int))) = true := by simp; omega
      simp only [b0, br_t]
      have hin := (mem_unf.1 (List.getElem_mem hjl)).1
      rw [show f18 ((unf l a2).getD j.toNat 0, IntKind.i64.wrap (0 - a2), a2) = true by
        rw [getD_lt hjl, wr (n := 0 - a2) (by omega) (by omega)]
        simp only [f18, Bool.and_eq_true, decide_eq_true_eq]
        omega, Bool.not_true, br_f, wr (n := j + 1) (by omega) (by omega)]
      rw [br_dec]
      refine ⟨fun hpos => ?_, fun _ => hag2 () hj trivial⟩
      rw [wr (n := j - 1) (by omega) (by omega), br_false_]
      refine ⟨by simp; omega, ?_⟩
      rw [br_dec]
      refine ⟨fun hle => ?_, fun _ => hag2 () hj trivial⟩
      exfalso
      have hlt : (j - 1).toNat < (unf l a2).length := by omega
      rw [getD_lt hjl, getD_lt hlt] at hle
      have := List.pairwise_iff_getElem.1 (unf_sorted (l := l) (limit := a2)) (j - 1).toNat j.toNat hlt hjl (by omega)
      omega
    · rw [br_true_]
      intro _
      rw [br_both]
      refine ⟨fun _ => hT, fun h8 => ?_⟩
      have h8 : l.length ≠ 1 := fun e => by rw [e] at h8; simp at h8
      rw [br_true_]
      intro _
      rw [wr (n := (l.length : Int) - 1) (by omega) (by omega), br_false_]
      refine ⟨by simp; omega, ?_⟩
      have hlt : ((l.length : Int) - 1).toNat = l.length - 1 := by omega
      rw [hlt, List.drop_zero]
      have hsub : ∀ f ∈ l.take (l.length - 1), inF f = true := fun f hf => (hall f (List.mem_of_mem_take hf)).1
      have htl : (l.take (l.length - 1)).length = l.length - 1 := by rw [List.length_take]; omega
      have hz1 := hz (l.take (l.length - 1)) (by omega) (by omega) hsub
      have e83' : f83 (l.take (l.length - 1), a2) = (unf (l.take (l.length - 1)) a2, 0) := by rw [f83, if_neg (by simpa using hz1)]
      have hsubset : ∀ v ∈ unf l a2, v ∈ unf (l.take (l.length - 1)) a2 := fun v hv => by
        obtain ⟨q1, q2⟩ := mem_unf.1 hv
        exact mem_unf.2 ⟨q1, fun f hf => q2 f (List.mem_of_mem_take hf)⟩
      have hlen2 : (unf l a2).length ≤ (unf (l.take (l.length - 1)) a2).length := by
        unfold unf
        rw [← List.countP_eq_length_filter, ← List.countP_eq_length_filter]
        refine List.countP_mono_left fun v _ hv => ?_
        rw [List.all_eq_true] at hv ⊢
        exact fun f hf => hv f (List.mem_of_mem_take hf)
      refine ⟨show (l.take (l.length - 1)).length ≤ 100 by omega, trivial, ?_⟩
      simp only [e83', bne_self_eq_false, br_f]
      rw [br_true_]
      intro _
      rw [br_true_]
      intro _
      rw [br_dec]
      refine ⟨fun h9 => by omega, fun _ => ?_⟩
      refine LoopP.up (unf l a2).length (fun _ _ => True) (fun again3 k v hk0 hk1 _ hag3 => ?_) (by omega) trivial
      dsimp only
      rw [br_true_]
      intro _
      rw [br_dec]
      refine ⟨fun hk => ?_, fun _ => hT⟩
      have hkl : k.toNat < (unf l a2).length := by omega
      have b0 : (decide (0 ≤ k) && decide (k < ((unf l a2).length : Int))) = true := by simp; omega
      rw [b0, br_t, getD_lt hkl]
      rw [show f47 (unf (l.take (l.length - 1)) a2, (unf l a2)[k.toNat]) = true by simp [f47, hsubset _ (List.getElem_mem hkl)], Bool.not_true, br_f, wr (n := k + 1) (by omega) (by omega)]
      exact hag3 () hk trivial
theorem f15_fn : f15_e.fn = f15 := rfl
theorem f15_ok : EntryOK Try.prog 15 f15_e := by
  refine entryF progOK (EnvOK.cons f16_ok (EnvOK.cons f18_ok (EnvOK.cons f19_ok (EnvOK.cons f47_ok (EnvOK.cons f78_ok (EnvOK.cons f83_ok (EnvOK.cons f84_ok (EnvOK.cons f85_ok (EnvOK.cons f14_ok (EnvOK.nil)))))))))) (A := f15_A) (d := 6) Try.func15 rfl rfl rfl (fun _ _ => trivial) fun x hpre => ?_
  obtain ⟨a0, a1, a2⟩ := x
  exact f15_t a0 a1 a2 _ fun _ h => h.trans (congrFun f15_fn.symm _)
end Go.Proofs.Ytdhekhichomoiaa
