/- What functions of the program compute, each proved once, part 5. -/
import Derived.Test.YtdhekhichomoiaaPiC
import Derived.Test.YtdhekhichomoiaaFnA
import Derived.Test.YtdhekhichomoiaaFnC
import Derived.Test.YtdhekhichomoiaaFnD

namespace Go.Proofs.Ytdhekhichomoiaa
open Go Go.Pi Go.RowKit
set_option maxRecDepth 100000
set_option linter.unusedVariables false
set_option linter.unusedSimpArgs false

def restN (a : List Int) : Nat → Int
  | 0 => 0
  | n + 1 => IntKind.i64.wrap (restN a n + f19 (a.getD n 0))
def prodS (a : List Int) (z : Int) (p : List Int) (i : Nat) : List Int :=
  (p.set (i + 1) (IntKind.i64.wrap (p.getD (i + 1) 0 + a.getD i 0))).set i (IntKind.i64.wrap ((p.set (i + 1) (IntKind.i64.wrap (p.getD (i + 1) 0 + a.getD i 0))).getD i 0 - IntKind.i64.wrap (z * a.getD i 0)))
def prodN (a : List Int) (z : Int) : Nat → List Int
  | 0 => List.replicate (a.length + 1) 0
  | i + 1 => prodS a z (prodN a z i) i
theorem prodN_len {a : List Int} {z : Int} : ∀ n, (prodN a z n).length = a.length + 1
  | 0 => by simp [prodN]
  | n + 1 => by simp [prodN, prodS, prodN_len n]
def scaleN (a : List Int) (t : Int) (n : Nat) : List Int := (List.range n).map fun j => IntKind.i64.wrap (t * a.getD j 0)

theorem three {a : List Int} (h0 : 0 < a.length) (h3 : a.length ≤ 3) : (∃ p, a = [p]) ∨ (∃ p q, a = [p, q]) ∨ (∃ p q r, a = [p, q, r]) := by
  match a with
  | [] => simp at h0
  | [p] => exact .inl ⟨p, rfl⟩
  | [p, q] => exact .inr (.inl ⟨p, q, rfl⟩)
  | [p, q, r] => exact .inr (.inr ⟨p, q, r, rfl⟩)
  | _ :: _ :: _ :: _ :: _ => simp at h3

theorem dom_locked {a : List Int} (h : f17 a = 0) (h3 : a.length ≤ 3) (hd : f19 (a.getD (a.length - 1) 0) > restN a (a.length - 1)) : f92 a = true := by
  have hp := pol_ok h
  rcases three hp.1 h3 with ⟨p, rfl⟩ | ⟨p, q, rfl⟩ | ⟨p, q, r, rfl⟩
  · have hb := hp.2.2 p (by simp)
    rw [f92_one]
    simp [restN] at hd
    rw [f19_ab (by omega)] at hd
    rw [bne_iff_ne]
    intro e
    subst e
    simp [ab] at hd
  · have hb := hp.2.2 p (by simp)
    have hq := hp.2.2 q (by simp)
    rw [f92_two (by omega) (by omega)]
    simp [restN] at hd
    rw [f19_ab (by omega), f19_ab (by omega)] at hd
    have : ab p ≤ 60 := by unfold ab; split <;> omega
    have := ab_nonneg p
    rw [wr (by omega) (by omega)] at hd
    exact decide_eq_true (ab_lt.1 hd)
  · have hb := hp.2.2 p (by simp)
    have hq := hp.2.2 q (by simp)
    have hr := hp.2.2 r (by simp)
    simp [restN] at hd
    rw [f19_ab (n := p) (by omega), f19_ab (n := q) (by omega), f19_ab (n := r) (by omega)] at hd
    have : ab p ≤ 60 := by unfold ab; split <;> omega
    have := ab_nonneg p
    have : ab q ≤ 60 := by unfold ab; split <;> omega
    have := ab_nonneg q
    rw [wr (n := ab p) (by omega) (by omega), wr (n := ab p + ab q) (by omega) (by omega)] at hd
    have hh := dom_three hd
    have m1 := mulB (M := 60) (a := r) (b := q) ⟨by omega, by omega⟩ ⟨by omega, by omega⟩
    have m2 := mulB (M := 60) (a := p) (b := q) ⟨by omega, by omega⟩ ⟨by omega, by omega⟩
    have m3 := mulB (M := 60) (a := r) (b := r) ⟨by omega, by omega⟩ ⟨by omega, by omega⟩
    have m4 := mulB (M := 60) (a := p) (b := p) ⟨by omega, by omega⟩ ⟨by omega, by omega⟩
    rw [f92_three (by omega) (by omega) (by omega), f92_two (by omega) (by omega)]
    simp [hh.1, hh.2]

theorem scale_same {a : List Int} {t : Int} (h : f17 a = 0) (h3 : a.length ≤ 3) (ht : t ≠ 0) (ht3 : -3 ≤ t ∧ t ≤ 3) : f92 (scaleN a t a.length) = f92 a := by
  have hp := pol_ok h
  have hw : ∀ x ∈ a, -180 ≤ t * x ∧ t * x ≤ 180 ∧ IntKind.i64.wrap (t * x) = t * x := fun x hx => by
    have hb := hp.2.2 x hx
    have h1 : -180 ≤ t * x ∧ t * x ≤ 180 := by
      have : t = -3 ∨ t = -2 ∨ t = -1 ∨ t = 1 ∨ t = 2 ∨ t = 3 := by omega
      rcases this with rfl | rfl | rfl | rfl | rfl | rfl <;> omega
    exact ⟨h1.1, h1.2, wr (by omega) (by omega)⟩
  rcases three hp.1 h3 with ⟨p, rfl⟩ | ⟨p, q, rfl⟩ | ⟨p, q, r, rfl⟩
  · have hb := hw p (by simp)
    show f92 [IntKind.i64.wrap (t * p)] = _
    rw [hb.2.2, f92_one, f92_one, Bool.eq_iff_iff, bne_iff_ne, bne_iff_ne]
    constructor
    · intro h1 h2
      subst h2
      simp at h1
    · intro h1 h2
      rcases Int.mul_eq_zero.1 h2 with h | h
      · exact ht h
      · exact h1 h
  · have hb := hw p (by simp)
    have hq := hw q (by simp)
    have hbp := hp.2.2 p (by simp)
    have hbq := hp.2.2 q (by simp)
    show f92 [IntKind.i64.wrap (t * p), IntKind.i64.wrap (t * q)] = _
    rw [hb.2.2, hq.2.2, f92_two (by omega) (by omega), f92_two (by omega) (by omega)]
    exact decide_eq_decide.2 (sq_lt_mul ht)
  · have hb := hw p (by simp)
    have hq := hw q (by simp)
    have hr := hw r (by simp)
    have hbp := hp.2.2 p (by simp)
    have hbq := hp.2.2 q (by simp)
    have hbr := hp.2.2 r (by simp)
    show f92 [IntKind.i64.wrap (t * p), IntKind.i64.wrap (t * q), IntKind.i64.wrap (t * r)] = _
    rw [hb.2.2, hq.2.2, hr.2.2, f92_three (by omega) (by omega) (by omega), f92_three (by omega) (by omega) (by omega)]
    have m1 := mulB (M := 60) (a := r) (b := q) ⟨by omega, by omega⟩ ⟨by omega, by omega⟩
    have m2 := mulB (M := 60) (a := p) (b := q) ⟨by omega, by omega⟩ ⟨by omega, by omega⟩
    have m3 := mulB (M := 60) (a := r) (b := r) ⟨by omega, by omega⟩ ⟨by omega, by omega⟩
    have m4 := mulB (M := 60) (a := p) (b := p) ⟨by omega, by omega⟩ ⟨by omega, by omega⟩
    have n1 := mulB (M := 180) (a := t * r) (b := t * q) ⟨by omega, by omega⟩ ⟨by omega, by omega⟩
    have n2 := mulB (M := 180) (a := t * p) (b := t * q) ⟨by omega, by omega⟩ ⟨by omega, by omega⟩
    have n3 := mulB (M := 180) (a := t * r) (b := t * r) ⟨by omega, by omega⟩ ⟨by omega, by omega⟩
    have n4 := mulB (M := 180) (a := t * p) (b := t * p) ⟨by omega, by omega⟩ ⟨by omega, by omega⟩
    rw [f92_two (by omega) (by omega), f92_two (by omega) (by omega)]
    congr 1
    · exact decide_eq_decide.2 (sq_lt_mul ht)
    · have ht2 : t * t ≠ 0 := fun e => by
        rcases Int.mul_eq_zero.1 e with h | h <;> exact ht h
      have e1 : t * r * (t * q) - t * p * (t * q) = (t * t) * (r * q - p * q) := by grind
      have e2 : t * r * (t * r) - t * p * (t * p) = (t * t) * (r * r - p * p) := by grind
      rw [e1, e2]
      exact decide_eq_decide.2 (sq_lt_mul ht2)

theorem prod_not {a : List Int} {z : Int} (h : f17 a = 0) (h3 : a.length ≤ 3) (hz : z ≠ 0) (hz3 : -3 ≤ z ∧ z ≤ 3) (hpp : f17 (prodN a z a.length) = 0) : f92 (prodN a z a.length) = false := by
  have hp := pol_ok h
  have hw : ∀ x ∈ a, -180 ≤ z * x ∧ z * x ≤ 180 ∧ IntKind.i64.wrap (z * x) = z * x ∧ -60 ≤ x ∧ x ≤ 60 := fun x hx => by
    have hb := hp.2.2 x hx
    have h1 : -180 ≤ z * x ∧ z * x ≤ 180 := by
      have : z = -3 ∨ z = -2 ∨ z = -1 ∨ z = 1 ∨ z = 2 ∨ z = 3 := by omega
      rcases this with rfl | rfl | rfl | rfl | rfl | rfl <;> omega
    exact ⟨h1.1, h1.2, wr (by omega) (by omega), hb⟩
  rw [Bool.eq_false_iff]
  intro hl
  rcases three hp.1 h3 with ⟨p, rfl⟩ | ⟨p, q, rfl⟩ | ⟨p, q, r, rfl⟩
  · have hb := hw p (by simp)
    have e : prodN [p] z [p].length = [-(z * p), p] := by
      show [IntKind.i64.wrap (0 - IntKind.i64.wrap (z * p)), IntKind.i64.wrap (0 + p)] = _
      rw [hb.2.2.1, wr (by omega) (by omega), wr (by omega) (by omega)]
      simp
    rw [e, f92_two (by omega) (by omega)] at hl
    have hl := of_decide_eq_true hl
    exact (noZero_two hz hl).ne (by grind)
  · have hb := hw p (by simp)
    have hq := hw q (by simp)
    have e : prodN [p, q] z [p, q].length = [-(z * p), p - z * q, q] := by
      show [IntKind.i64.wrap (0 - IntKind.i64.wrap (z * p)), IntKind.i64.wrap (IntKind.i64.wrap (0 + p) - IntKind.i64.wrap (z * q)), IntKind.i64.wrap (0 + q)] = _
      rw [hb.2.2.1, hq.2.2.1, wr (n := 0 - z * p) (by omega) (by omega), wr (n := 0 + p) (by omega) (by omega), wr (n := 0 + p - z * q) (by omega) (by omega), wr (n := 0 + q) (by omega) (by omega)]
      simp
    have m1 := mulB (M := 240) (a := q) (b := p - z * q) ⟨by omega, by omega⟩ ⟨by omega, by omega⟩
    have m2 := mulB (M := 240) (a := -(z * p)) (b := p - z * q) ⟨by omega, by omega⟩ ⟨by omega, by omega⟩
    have m3 := mulB (M := 240) (a := q) (b := q) ⟨by omega, by omega⟩ ⟨by omega, by omega⟩
    have m4 := mulB (M := 240) (a := -(z * p)) (b := -(z * p)) ⟨by omega, by omega⟩ ⟨by omega, by omega⟩
    rw [e, f92_three (by omega) (by omega) (by omega), f92_two (by omega) (by omega)] at hl
    simp only [Bool.and_eq_true, decide_eq_true_eq] at hl
    exact (noZero_three hz hl.1 hl.2).ne (by grind)
  · have hb := hw p (by simp)
    have hq := hw q (by simp)
    have hr := hw r (by simp)
    have e : prodN [p, q, r] z [p, q, r].length = [-(z * p), p - z * q, q - z * r, r] := by
      show [IntKind.i64.wrap (0 - IntKind.i64.wrap (z * p)), IntKind.i64.wrap (IntKind.i64.wrap (0 + p) - IntKind.i64.wrap (z * q)), IntKind.i64.wrap (IntKind.i64.wrap (0 + q) - IntKind.i64.wrap (z * r)), IntKind.i64.wrap (0 + r)] = _
      rw [hb.2.2.1, hq.2.2.1, hr.2.2.1, wr (n := 0 - z * p) (by omega) (by omega), wr (n := 0 + p) (by omega) (by omega), wr (n := 0 + p - z * q) (by omega) (by omega), wr (n := 0 + q) (by omega) (by omega), wr (n := 0 + q - z * r) (by omega) (by omega), wr (n := 0 + r) (by omega) (by omega)]
      simp
    rw [e] at hl
    obtain ⟨A, hA⟩ : ∃ A, A = -(z * p) := ⟨_, rfl⟩
    obtain ⟨B, hB⟩ : ∃ B, B = p - z * q := ⟨_, rfl⟩
    obtain ⟨C, hC⟩ : ∃ C, C = q - z * r := ⟨_, rfl⟩
    have hroot : A + B * z + C * z * z + r * z * z * z = 0 := by rw [hA, hB, hC]; grind
    rw [e] at hpp
    rw [← hA, ← hB, ← hC] at hl hpp
    have hpp := (pol_ok hpp).2.2
    have bA : -60 ≤ A ∧ A ≤ 60 := hpp A (by simp)
    have bB : -60 ≤ B ∧ B ≤ 60 := hpp B (by simp)
    have bC : -60 ≤ C ∧ C ≤ 60 := hpp C (by simp)
    have bD : -60 ≤ r ∧ r ≤ 60 := hpp r (by simp)
    clear hA hB hC e hb hq hr hw hp h h3 hpp
    have m1 := mulB bD bB
    have m2 := mulB bA bC
    have m3 := mulB bD bC
    have m4 := mulB bA bB
    have m5 := mulB bD bD
    have m6 := mulB bA bA
    rw [f92_four (by omega) (by omega) (by omega) (by omega), f92_three (by omega) (by omega) (by omega)] at hl
    have hz4 := noZero_four (a := A) (b := B) (c := C) (d := r) hz
    obtain ⟨X, hX⟩ : ∃ X, X = r * B - A * C := ⟨_, rfl⟩
    obtain ⟨Y, hY⟩ : ∃ Y, Y = r * C - A * B := ⟨_, rfl⟩
    obtain ⟨Z, hZ⟩ : ∃ Z, Z = r * r - A * A := ⟨_, rfl⟩
    have bX : -7200 ≤ X ∧ X ≤ 7200 := by omega
    have bY : -7200 ≤ Y ∧ Y ≤ 7200 := by omega
    have bZ : -7200 ≤ Z ∧ Z ≤ 7200 := by omega
    rw [← hX, ← hY, ← hZ] at hl hz4
    have n1 := mulB bZ bY
    have n2 := mulB bX bY
    have n3 := mulB bZ bZ
    have n4 := mulB bX bX
    have hl2 : A * A < r * r ∧ X * X < Z * Z ∧ f92 [Z * Y - X * Y, Z * Z - X * X] = true := by simpa using hl
    obtain ⟨k1, k2, k3⟩ := hl2
    rw [f92_two (by omega) (by omega)] at k3
    exact (hz4 k1 k2 (of_decide_eq_true k3)).ne hroot

theorem lkd_zero {a b : List Int} (h : f17 a = 0) (hl : a.length = b.length) : lkd a b 0 = f92 a := by
  have hp := pol_ok h
  have e : f23 (a, b, 0) = a := by
    simp only [f23]
    apply List.ext_getElem (by simp)
    intro k h1 h2
    have hb := hp.2.2 a[k] (List.getElem_mem h2)
    simp only [List.getElem_map, List.getElem_range, sumAt, getD_lt h2, Int.zero_mul, wrap_zero, Int.add_zero]
    exact wr (by omega) (by omega)
  rw [lkd, e, h]
  simp
theorem mgOf_not {a b : List Int} {n : Int} (hn : 0 ≤ n) (h : lkd a b 0 = false) : mgOf a b n = (0, 18) := by
  have : (List.range (n + 1).toNat).find? (fun (h : Nat) => !lkd a b (h : Int)) = some 0 := by
    refine range_find_some (by omega) (fun j hj => by omega) ?_
    show (!lkd a b ((0 : Nat) : Int)) = true
    rw [show ((0 : Nat) : Int) = 0 from rfl, h]
    rfl
  rw [mgOf, this]
theorem mgOf_is {a b : List Int} {n : Int} (hn : 0 ≤ n) (h : lkd a b 0 = true) : ∃ m, mgOf a b n = (m, 0) ∧ 0 ≤ m ∧ m ≤ n ∧ (∀ k, 0 ≤ k → k ≤ m → lkd a b k = true) ∧ (m = n ∨ lkd a b (m + 1) = false) := by
  cases hf : (List.range (n + 1).toNat).find? (fun (h : Nat) => !lkd a b (h : Int)) with
  | none =>
    refine ⟨n, by rw [mgOf, hf], hn, Int.le_refl _, fun k h0 hk => ?_, .inl rfl⟩
    have := List.find?_eq_none.1 hf k.toNat (List.mem_range.2 (by omega))
    rw [show ((k.toNat : Nat) : Int) = k by omega] at this
    simpa using this
  | some j =>
    rw [List.find?_range_eq_some] at hf
    obtain ⟨h1, h2, h3⟩ := hf
    simp only [List.mem_range] at h2
    cases j with
    | zero =>
      rw [show ((0 : Nat) : Int) = 0 from rfl, h] at h1
      cases h1
    | succ m =>
      refine ⟨(m : Int), ?_, by omega, by omega, fun k h0 hk => ?_, .inr ?_⟩
      · have : (List.range (n + 1).toNat).find? (fun (h : Nat) => !lkd a b (h : Int)) = some (m + 1) := by
          rw [List.find?_range_eq_some]
          exact ⟨h1, by simpa using h2, h3⟩
        rw [mgOf, this]
      · have := h3 k.toNat (by omega)
        rw [show ((k.toNat : Nat) : Int) = k by omega] at this
        simpa using this
      · have h1 : lkd a b ((m + 1 : Nat) : Int) = false := by simpa using h1
        rwa [show ((m + 1 : Nat) : Int) = (m : Int) + 1 by omega] at h1
def f3 (x : List Int × List Int × Int × Int × Int) : Bool := true
def f3_e : Entry := { doms := [(false, (.sl (.int .i64))), (false, (.sl (.int .i64))), (true, (.pair (.int .i64) (.pair (.int .i64) (.int .i64))))], cods := [(false, .bool)], pre := fun _ => True, fn := f3, uq := false, total := true }
def f3_E : Env := [(16, f16_e), (17, f17_e), (18, f18_e), (19, f19_e), (20, f20_e), (21, f21_e), (22, f22_e), (23, f23_e), (92, f92_e)]
def f3_A : Anns := { loops := [(1048576, { tms := [(0, .keep), (1, .keep), (7, .keep), (8, .keep), (9, .keep), (10, .data false (.int .i64)), (11, .data false (.int .i64))], obs := [(1048576, .keep)], fz := [] }),
  (1048578, { tms := [(0, .keep), (1, .keep), (7, .keep), (8, .keep), (9, .keep), (12, .keep), (14, .ref 1068040), (15, .ref 1063939), (16, .data false (.int .i64))], obs := [(1063939, .arr (.uniq) (.int .i64)), (1068040, .arr (.uniq) (.int .i64))], fz := [] }),
  (1048580, { tms := [(0, .keep), (1, .keep), (9, .keep), (21, .keep), (23, .data false (.int .i64))], obs := [], fz := [] }),
  (1572921, { tms := [(0, .keep), (1, .keep), (7, .keep), (8, .keep), (9, .keep), (12, .keep)], obs := [], fz := [] }),
  (1572941, { tms := [(0, .keep), (1, .keep), (9, .keep), (12, .keep), (14, .ref 1068040), (15, .ref 1063939)], obs := [(1063939, .arr (.uniq) (.int .i64)), (1068040, .arr (.uniq) (.int .i64))], fz := [] }),
  (1572969, { tms := [(0, .keep), (1, .keep), (9, .keep), (12, .keep), (15, .keep)], obs := [(1063939, .keep)], fz := [] }),
  (1572985, { tms := [(0, .keep), (1, .keep), (9, .keep), (12, .keep)], obs := [], fz := [] })], own := [] }
theorem f3_run (a0 : List Int) (a1 : List Int) (a2 : Int × Int × Int) (K : Bool → Prop) : runF Try.prog f3_E f3_A 6 Try.f3 f3_e.doms f3_e.cods (a0, a1, a2) K =
    (br (!(f16 ()))
    (K false)
    (br (lenOk (a0.length))
    (br (((a0.length) : Int) == 0)
    (K true)
    (br (lenOk (a0.length))
    (br (decide (((a0.length) : Int) > 3))
    (K true)
    (br ((f17 a0) != 0)
    (K true)
    (br ((f17 a1) != 0)
    (K true)
    (br (a2.1 == 0)
    (K true)
    (br (!(f18 (a2.1, ((-3), 3))))
    (K true)
    (br (a2.2.1 == 0)
    (K true)
    (br (!(f18 (a2.2.1, ((-3), 3))))
    (K true)
    (LoopP (V := Int × Int × Unit) (fun again v => (fun (again1 : Int → Int → Prop) (v1_0 : Int) (v1_1 : Int) =>
    br (lenOk (a0.length))
    (br (decide (v1_1 < (IntKind.i64.wrap (((a0.length) : Int) - 1))))
    (br (decide (0 ≤ v1_1) && decide (v1_1 < ((a0.length) : Int)))
    (again1 (IntKind.i64.wrap (v1_0 + (f19 (a0.getD v1_1.toNat 0)))) (IntKind.i64.wrap (v1_1 + 1)))
    False)
    (f21_pre a0 ∧
    JoinQ (V := Unit) (fun J => (fun (join2 : Prop) =>
    br ((f20 (f21 a0)).2 != 0)
    (K false)
    (br (lenOk (a0.length))
    (br (decide (0 ≤ (IntKind.i64.wrap (((a0.length) : Int) - 1))) && decide ((IntKind.i64.wrap (((a0.length) : Int) - 1)) < ((a0.length) : Int)))
    (br (decide ((f19 (a0.getD ((IntKind.i64.wrap (((a0.length) : Int) - 1)).toNat) 0)) > v1_0))
    (br (!(f20 (f21 a0)).1)
    (K false)
    (join2))
    (join2))
    False)
    True)) (J ())) (fun v =>
    br (lenOk (a0.length))
    (br (decide (0 ≤ (IntKind.i64.wrap (((a0.length) : Int) + 1))) && decide ((IntKind.i64.wrap (((a0.length) : Int) + 1)) = (IntKind.i64.wrap (((a0.length) : Int) + 1))) && roomOk ((IntKind.i64.wrap (((a0.length) : Int) + 1)).toNat) 8)
    (JoinQ (V := List Int × List Int × Unit) (fun J => (fun (join4 : List Int → List Int → Prop) =>
    LoopP (V := Int × List Int × List Int × Unit) (fun again v => (fun (again3 : Int → List Int → List Int → Prop) (v3_0 : Int) (v3_1 : List Int) (v3_2 : List Int) =>
    br (lenOk (a0.length))
    (br (decide (v3_0 < ((a0.length) : Int)))
    (br (decide (0 ≤ v3_0) && decide (v3_0 < ((a0.length) : Int)))
    (br (roomOk ((v3_2.length) + 1) 8)
    (br (decide (0 ≤ (IntKind.i64.wrap (v3_0 + 1))) && decide ((IntKind.i64.wrap (v3_0 + 1)) < ((v3_1.length) : Int)))
    (br (decide (0 ≤ v3_0) && decide (v3_0 < ((a0.length) : Int)))
    (br (decide (0 ≤ (IntKind.i64.wrap (v3_0 + 1))) && decide ((IntKind.i64.wrap (v3_0 + 1)) < ((v3_1.length) : Int)))
    (br (decide (0 ≤ v3_0) && decide (v3_0 < (((v3_1.set ((IntKind.i64.wrap (v3_0 + 1)).toNat) (IntKind.i64.wrap ((v3_1.getD ((IntKind.i64.wrap (v3_0 + 1)).toNat) 0) + (a0.getD v3_0.toNat 0)))).length) : Int)))
    (br (decide (0 ≤ v3_0) && decide (v3_0 < ((a0.length) : Int)))
    (br (decide (0 ≤ v3_0) && decide (v3_0 < (((v3_1.set ((IntKind.i64.wrap (v3_0 + 1)).toNat) (IntKind.i64.wrap ((v3_1.getD ((IntKind.i64.wrap (v3_0 + 1)).toNat) 0) + (a0.getD v3_0.toNat 0)))).length) : Int)))
    (again3 (IntKind.i64.wrap (v3_0 + 1)) ((v3_1.set ((IntKind.i64.wrap (v3_0 + 1)).toNat) (IntKind.i64.wrap ((v3_1.getD ((IntKind.i64.wrap (v3_0 + 1)).toNat) 0) + (a0.getD v3_0.toNat 0)))).set v3_0.toNat (IntKind.i64.wrap (((v3_1.set ((IntKind.i64.wrap (v3_0 + 1)).toNat) (IntKind.i64.wrap ((v3_1.getD ((IntKind.i64.wrap (v3_0 + 1)).toNat) 0) + (a0.getD v3_0.toNat 0)))).getD v3_0.toNat 0) - (IntKind.i64.wrap (a2.1 * (a0.getD v3_0.toNat 0)))))) (v3_2 ++ ([(IntKind.i64.wrap (a2.2.1 * (a0.getD v3_0.toNat 0)))] : List Int)))
    False)
    False)
    False)
    False)
    False)
    False)
    False)
    False)
    (join4 v3_1 v3_2))
    True)
    (fun v3_0 v3_1 v3_2 => again (v3_0, v3_1, v3_2, ())) v.1 v.2.1 v.2.2.1) (0, (List.replicate ((IntKind.i64.wrap (((a0.length) : Int) + 1)).toNat) (0 : Int)), ([] : List Int), ())) (fun j4_0 j4_1 => J (j4_0, j4_1, ()))) (fun v => (fun (j4_0 : List Int) (j4_1 : List Int) =>
    JoinQ (V := Unit) (fun J => (fun (join5 : Prop) =>
    br ((f17 j4_1) == 0)
    (f21_pre j4_1 ∧
    br ((f20 (f21 j4_1)).2 != 0)
    (K false)
    (br (!((f20 (f21 j4_1)).1 == (f20 (f21 a0)).1))
    (K false)
    (join5)))
    (join5)) (J ())) (fun v =>
    JoinQ (V := Unit) (fun J => (fun (join6 : Prop) =>
    br ((f17 j4_0) == 0)
    (f21_pre j4_0 ∧
    br ((f20 (f21 j4_0)).2 != 0)
    (K false)
    (br (f20 (f21 j4_0)).1
    (K false)
    (join6)))
    (join6)) (J ())) (fun v =>
    br (lenOk (a1.length))
    (br (lenOk (a0.length))
    (br (((a1.length) : Int) != ((a0.length) : Int))
    (K true)
    (br (!(f18 (a2.2.2, (0, 60))))
    (K true)
    (f21_pre a0 ∧
    f21_pre a1 ∧
    br (!(f20 (f21 a0)).1)
    (K ((f22 ((f21 a0), ((f21 a1), a2.2.2))).2 == 18))
    (br ((f22 ((f21 a0), ((f21 a1), a2.2.2))).2 != 0)
    (K false)
    (br (!(f18 ((f22 ((f21 a0), ((f21 a1), a2.2.2))).1, (0, a2.2.2))))
    (K false)
    (LoopP (V := Int × Unit) (fun again v => (fun (again7 : Int → Prop) (v7_0 : Int) =>
    br (decide (v7_0 ≤ (f22 ((f21 a0), ((f21 a1), a2.2.2))).1))
    (f23_pre (a0, (a1, v7_0)) ∧
    br ((f20 (f23 (a0, (a1, v7_0)))).2 != 0)
    (K false)
    (br (!(f20 (f23 (a0, (a1, v7_0)))).1)
    (K false)
    (again7 (IntKind.i64.wrap (v7_0 + 1)))))
    (br ((f22 ((f21 a0), ((f21 a1), a2.2.2))).1 == a2.2.2)
    (K true)
    (f23_pre (a0, (a1, (IntKind.i64.wrap ((f22 ((f21 a0), ((f21 a1), a2.2.2))).1 + 1)))) ∧
    br ((f20 (f23 (a0, (a1, (IntKind.i64.wrap ((f22 ((f21 a0), ((f21 a1), a2.2.2))).1 + 1)))))).2 != 0)
    (K true)
    (K (!(f20 (f23 (a0, (a1, (IntKind.i64.wrap ((f22 ((f21 a0), ((f21 a1), a2.2.2))).1 + 1)))))).1)))))
    (fun v7_0 => again (v7_0, ())) v.1) (0, ())))))))
    True)
    True))) v.1 v.2.1))
    False)
    True)))
    True)
    (fun v1_0 v1_1 => again (v1_0, v1_1, ())) v.1 v.2.1) (0, 0, ())))))))))
    True))
    True)) := by kernel_rfl
theorem f3_t (a0 : List Int) (a1 : List Int) (a2 : Int × Int × Int) (K : Bool → Prop) (hK : ∀ y : Bool, y = f3 (a0, a1, a2) → K y) : RunF Try.prog f3_E f3_A 6 Try.f3 f3_e.doms f3_e.cods (a0, a1, a2) K := by
  refine ⟨?_⟩
  rw [f3_run a0 a1 a2 K]
  have kt : K true := hK _ (by simp [f3])
  rw [show f16 () = true from rfl, Bool.not_true, br_f, br_true_, lenOk_iff]
  intro hl0
  rw [br_both]
  refine ⟨fun _ => kt, fun hne => ?_⟩
  rw [br_true_]
  intro _
  rw [br_dec]
  refine ⟨fun _ => kt, fun h3 => ?_⟩
  have h3 : a0.length ≤ 3 := by omega
  rw [br_both]
  refine ⟨fun _ => kt, fun ha => ?_⟩
  have ha : f17 a0 = 0 := by simpa using ha
  have hp := pol_ok ha
  rw [br_both]
  refine ⟨fun _ => kt, fun hb => ?_⟩
  have hb : f17 a1 = 0 := by simpa using hb
  have hpb := pol_ok hb
  rw [br_both]
  refine ⟨fun _ => kt, fun hz => ?_⟩
  have hz : a2.1 ≠ 0 := by simpa using hz
  rw [br_both]
  refine ⟨fun _ => kt, fun hz3 => ?_⟩
  have hz3 : -3 ≤ a2.1 ∧ a2.1 ≤ 3 := by simpa [f18] using hz3
  rw [br_both]
  refine ⟨fun _ => kt, fun ht => ?_⟩
  have ht : a2.2.1 ≠ 0 := by simpa using ht
  rw [br_both]
  refine ⟨fun _ => kt, fun ht3 => ?_⟩
  have ht3 : -3 ≤ a2.2.1 ∧ a2.2.1 ≤ 3 := by simpa [f18] using ht3
  have hpre21 : ∀ l : List Int, l.length ≤ 4 → f21_pre l := fun l h => by show l.length ≤ _; omega
  have i21 : ∀ l, f21 l = l := fun l => rfl
  have e20 : ∀ l, f17 l = 0 → f20 l = (f92 l, 0) := fun l h => by rw [f20, if_neg (fun hh => hh h)]
  have wl : IntKind.i64.wrap ((a0.length : Int) - 1) = (a0.length : Int) - 1 := wr (by omega) (by omega)
  have wl2 : IntKind.i64.wrap ((a0.length : Int) + 1) = (a0.length : Int) + 1 := wr (by omega) (by omega)
  rw [wl, wl2]
  refine LoopP.up2 ((a0.length : Int) - 1) (fun i u _ => u = restN a0 i.toNat) (fun again u i v hi0 hn hI hag => ?_) (by omega) rfl
  dsimp only
  subst hI
  rw [br_true_]
  intro _
  rw [br_dec]
  refine ⟨fun hi => ?_, fun hi => ?_⟩
  · rw [br_false_, wr (n := i + 1) (by omega) (by omega)]
    refine ⟨by simp only [Bool.and_eq_true, decide_eq_true_eq]; omega, hag _ _ hi ?_⟩
    rw [show (i + 1).toNat = i.toNat + 1 by omega]
    rfl
  have hie : i.toNat = a0.length - 1 := by omega
  have hcb : (decide (0 ≤ (a0.length : Int) - 1) && decide ((a0.length : Int) - 1 < (a0.length : Int))) = true := by
    simp only [Bool.and_eq_true, decide_eq_true_eq]; omega
  refine ⟨hpre21 _ (by omega), ?_⟩
  simp only [i21]
  rw [e20 _ ha]
  refine JoinQ.use0 True (fun G hG => ?_) (fun _ => ?_)
  · have hG := hG trivial
    simp only
    rw [show ((0 : Int) != 0) = false from rfl, br_f, br_true_]
    intro _
    rw [hcb, br_t, show ((a0.length : Int) - 1).toNat = a0.length - 1 by omega, hie, br_dec]
    refine ⟨fun hd => ?_, fun _ => hG⟩
    rw [dom_locked ha h3 hd, Bool.not_true, br_f]
    exact hG
  rw [br_true_]
  intro _
  rw [br_false_]
  refine ⟨?_, ?_⟩
  · simp only [Bool.and_eq_true, decide_eq_true_eq, roomOk_iff]
    refine ⟨⟨?_, trivial⟩, ?_⟩
    · omega
    · omega
  refine JoinQ.use (fun v => v.1 = prodN a0 a2.1 a0.length ∧ v.2.1 = scaleN a0 a2.2.1 a0.length) (fun G hG => ?_) (fun v hv => ?_)
  · refine LoopP.up a0.length (fun i v => v.1 = prodN a0 a2.1 i.toNat ∧ v.2.1 = scaleN a0 a2.2.1 i.toNat) (fun again i v hi0 hn hI hag => ?_) (by omega) ?_
    · obtain ⟨v, w, u⟩ := v
      simp only at hI hag ⊢
      obtain ⟨hI1, hI2⟩ := hI
      subst hI1 hI2
      rw [br_true_]
      intro _
      rw [br_dec]
      refine ⟨fun hi => ?_, fun hi => hG _ ?_⟩
      · have hb1 : (decide (0 ≤ i) && decide (i < (a0.length : Int))) = true := by simp [hi0, hi]
        have hb2 : (decide (0 ≤ i + 1) && decide (i + 1 < ((prodN a0 a2.1 i.toNat).length : Int))) = true := by
          rw [prodN_len]; simp only [Bool.and_eq_true, decide_eq_true_eq]; omega
        have hb3 : ∀ x, (decide (0 ≤ i) && decide (i < (((prodN a0 a2.1 i.toNat).set (i + 1).toNat x).length : Int))) = true := fun x => by
          rw [List.length_set, prodN_len]; simp only [Bool.and_eq_true, decide_eq_true_eq]; omega
        rw [wr (n := i + 1) (by omega) (by omega)]
        simp only [hb1, hb2, hb3, br_t]
        rw [br_false_, roomOk_iff]
        refine ⟨by simp [scaleN]; omega, hag _ hi ⟨?_, ?_⟩⟩
        · show _ = prodN a0 a2.1 (i + 1).toNat
          rw [show (i + 1).toNat = i.toNat + 1 by omega]
          rfl
        · show _ = scaleN a0 a2.2.1 (i + 1).toNat
          exact app_step (g := fun j => IntKind.i64.wrap (a2.2.1 * a0.getD j 0)) hi0
      · rw [show i.toNat = a0.length by omega]
        exact ⟨rfl, rfl⟩
    · refine ⟨?_, rfl⟩
      show List.replicate _ _ = List.replicate _ _
      rw [show ((a0.length : Int) + 1).toNat = a0.length + 1 by omega]
  obtain ⟨pr, sc, u⟩ := v
  simp only at hv
  obtain ⟨rfl, rfl⟩ := hv
  have hsl : (scaleN a0 a2.2.1 a0.length).length = a0.length := by simp [scaleN]
  have hpl := prodN_len (a := a0) (z := a2.1) a0.length
  refine JoinQ.use0 True (fun G hG => ?_) (fun _ => ?_)
  · have hG := hG trivial
    rw [br_both]
    refine ⟨fun h => ⟨hpre21 (scaleN a0 a2.2.1 a0.length) (by omega), ?_⟩, fun _ => hG⟩
    have h : f17 (scaleN a0 a2.2.1 a0.length) = 0 := by simpa using h
    rw [e20 _ h]
    simp only
    rw [scale_same ha h3 ht ht3]
    simp only [bne_self_eq_false, beq_self_eq_true, Bool.not_true, br_f]
    exact hG
  refine JoinQ.use0 True (fun G hG => ?_) (fun _ => ?_)
  · have hG := hG trivial
    rw [br_both]
    refine ⟨fun h => ⟨hpre21 (prodN a0 a2.1 a0.length) (by omega), ?_⟩, fun _ => hG⟩
    have h : f17 (prodN a0 a2.1 a0.length) = 0 := by simpa using h
    rw [e20 _ h]
    simp only
    rw [prod_not ha h3 hz hz3 h]
    simp only [bne_self_eq_false, br_f]
    exact hG
  rw [br_true_]
  intro _
  rw [br_true_]
  intro _
  rw [br_both]
  refine ⟨fun _ => kt, fun hll => ?_⟩
  have hll : a1.length = a0.length := by
    have : (a1.length : Int) = (a0.length : Int) := by simpa using hll
    omega
  rw [br_both]
  refine ⟨fun _ => kt, fun hm => ?_⟩
  have hm : 0 ≤ a2.2.2 ∧ a2.2.2 ≤ 60 := by simpa [f18] using hm
  refine ⟨hpre21 _ (by omega), hpre21 _ (by omega), ?_⟩
  have hE : mgE a0 a1 a2.2.2 = 0 := by
    have e1 : ((a0.length : Int) == (a1.length : Int)) = true := by rw [hll]; simp
    have e2 : f95 (a2.2.2, 0, 60) = true := by simp [f95]; omega
    simp [mgE, ha, hb, e1, e2, f94, f42]
  have e22 : f22 (a0, a1, a2.2.2) = mgOf a0 a1 a2.2.2 := by
    simp only [f22]
    rw [if_neg (fun hh => hh hE)]
  rw [e22]
  have hz0 := lkd_zero (b := a1) ha hll.symm
  rw [br_both]
  refine ⟨fun hl => ?_, fun hl => ?_⟩
  · have hl : f92 a0 = false := by simpa using hl
    rw [mgOf_not hm.1 (hz0.trans hl)]
    exact kt
  have hl : f92 a0 = true := by simpa using hl
  obtain ⟨m, hmg, hm0, hmn, hall, hend⟩ := mgOf_is hm.1 (hz0.trans hl)
  rw [hmg]
  simp only
  rw [show ((0 : Int) != 0) = false from rfl, br_f, show f18 (m, 0, a2.2.2) = true by simp [f18]; omega, Bool.not_true, br_f]
  have hp23 : ∀ h, f23_pre (a0, a1, h) := fun h => ⟨by show a0.length ≤ a1.length; omega, by show a0.length ≤ _; omega⟩
  refine LoopP.up (m + 1) (fun i _ => True) (fun again i v hi0 hn hI hag => ?_) (by omega) trivial
  dsimp only
  rw [br_dec]
  refine ⟨fun hi => ⟨hp23 i, ?_⟩, fun hi => ?_⟩
  · have hk := hall i hi0 hi
    simp only [lkd, Bool.and_eq_true, decide_eq_true_eq] at hk
    rw [e20 _ hk.1]
    simp only [hk.2, bne_self_eq_false, Bool.not_true, br_f]
    rw [wr (n := i + 1) (by omega) (by omega)]
    exact hag () (by omega) trivial
  · rw [br_both]
    refine ⟨fun _ => kt, fun hne => ⟨hp23 _, ?_⟩⟩
    have hne : m ≠ a2.2.2 := by simpa using hne
    have hend := hend.resolve_left hne
    rw [wr (n := m + 1) (by omega) (by omega), br_both]
    refine ⟨fun _ => kt, fun h => ?_⟩
    have h17 : f17 (f23 (a0, a1, m + 1)) = 0 := by
      by_cases h17 : f17 (f23 (a0, a1, m + 1)) = 0
      · exact h17
      · rw [f20, if_pos h17] at h
        simp [h17] at h
    rw [e20 _ h17]
    have : f92 (f23 (a0, a1, m + 1)) = false := by simpa [lkd, h17] using hend
    rw [this]
    exact kt
theorem f3_fn : f3_e.fn = f3 := rfl
theorem f3_ok : EntryOK Try.prog 3 f3_e := by
  refine entryF progOK (EnvOK.cons f16_ok (EnvOK.cons f17_ok (EnvOK.cons f18_ok (EnvOK.cons f19_ok (EnvOK.cons f20_ok (EnvOK.cons f21_ok (EnvOK.cons f22_ok (EnvOK.cons f23_ok (EnvOK.cons f92_ok (EnvOK.nil)))))))))) (A := f3_A) (d := 6) Try.func3 rfl rfl (fun _ _ => trivial) fun x hpre => ?_
  obtain ⟨a0, a1, a2⟩ := x
  exact f3_t a0 a1 a2 _ fun _ h => h.trans (congrFun f3_fn.symm _)
end Go.Proofs.Ytdhekhichomoiaa
