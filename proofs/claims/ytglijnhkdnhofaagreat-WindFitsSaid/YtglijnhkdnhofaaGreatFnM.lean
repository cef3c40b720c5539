/- What functions of the program compute, each proved once, part 13. -/
import Derived.Test.YtglijnhkdnhofaaGreatFnK
import Derived.Test.YtglijnhkdnhofaaGreatFnL
import Derived.Test.YtglijnhkdnhofaaGreatPiD
import Derived.Test.YtglijnhkdnhofaaGreatFnA
import Derived.Test.YtglijnhkdnhofaaGreatFnJ

section
namespace Go.Pi
set_option linter.unusedVariables false
set_option linter.unusedSimpArgs false
theorem low_form {n d : Int} (h : 0 < d) : Nat.gcd (low n d).1.natAbs (low n d).2.natAbs = 1 := by
  unfold low
  rw [if_neg (by omega)]
  have hg : 0 < Nat.gcd n.natAbs d.natAbs := Nat.gcd_pos_of_pos_right _ (by omega)
  dsimp only
  rw [Int.natAbs_tdiv, Int.natAbs_tdiv, Int.natAbs_natCast]
  have := Nat.gcd_div (Nat.gcd_dvd_left n.natAbs d.natAbs) (Nat.gcd_dvd_right n.natAbs d.natAbs)
  show Nat.gcd (n.natAbs / Nat.gcd n.natAbs d.natAbs) (d.natAbs / Nat.gcd n.natAbs d.natAbs) = 1
  rw [this, Nat.div_self hg]
theorem low_eq {n d m e : Int} (hd : 0 < d) (he : 0 < e) (h : n * e = m * d) : low n d = low m e := by
  have f1 := low_form (n := n) hd
  have f2 := low_form (n := m) he
  have p1 := (low_pos (n := n) hd).1
  have p2 := (low_pos (n := m) he).1
  have m1 := low_mul (n := n) hd
  have m2 := low_mul (n := m) he
  generalize low n d = a at *
  generalize low m e = b at *
  have k : a.1 * b.2 = b.1 * a.2 := by
    have : a.1 * b.2 * (d * e) = b.1 * a.2 * (d * e) := by
      have e1 : a.1 * b.2 * (d * e) = (a.1 * d) * (b.2 * e) := by grind
      have e2 : b.1 * a.2 * (d * e) = (b.1 * e) * (a.2 * d) := by grind
      rw [e1, e2, m1, m2]
      have : n * a.2 * (b.2 * e) = (n * e) * (a.2 * b.2) := by grind
      rw [this, h]; grind
    exact Int.eq_of_mul_eq_mul_right (by have := Int.mul_pos hd he; omega) this
  have kn : a.1.natAbs * b.2.natAbs = b.1.natAbs * a.2.natAbs := by rw [← Int.natAbs_mul, ← Int.natAbs_mul, k]
  have d1 : a.2.natAbs ∣ b.2.natAbs := (Nat.Coprime.symm f1 : Nat.Coprime a.2.natAbs a.1.natAbs).dvd_of_dvd_mul_left ⟨b.1.natAbs, by rw [kn, Nat.mul_comm]⟩
  have d2 : b.2.natAbs ∣ a.2.natAbs := (Nat.Coprime.symm f2 : Nat.Coprime b.2.natAbs b.1.natAbs).dvd_of_dvd_mul_left ⟨a.1.natAbs, by rw [← kn, Nat.mul_comm]⟩
  have e2 : a.2 = b.2 := by have := Nat.dvd_antisymm d1 d2; omega
  have e1 : a.1 = b.1 := by
    rw [e2] at k
    exact Int.eq_of_mul_eq_mul_right (by omega) k
  exact Prod.ext e1 e2
theorem low_self {n d : Int} (hd : 0 < d) : low (low n d).1 (low n d).2 = low n d := low_eq (low_pos hd).1 hd (by rw [low_mul hd])
/-- Sums and products of fractions in lowest terms. -/
theorem low_add {n d m e : Int} (hd : 0 < d) (he : 0 < e) : low ((low n d).1 * (low m e).2 + (low m e).1 * (low n d).2) ((low n d).2 * (low m e).2) = low (n * e + m * d) (d * e) := by
  have p1 := (low_pos (n := n) hd).1
  have p2 := (low_pos (n := m) he).1
  have m1 := low_mul (n := n) hd
  have m2 := low_mul (n := m) he
  generalize low n d = a at *
  generalize low m e = b at *
  refine low_eq (Int.mul_pos p1 p2) (Int.mul_pos hd he) ?_
  have e1 : (a.1 * b.2 + b.1 * a.2) * (d * e) = (a.1 * d) * (b.2 * e) + (b.1 * e) * (a.2 * d) := by grind
  rw [e1, m1, m2]; grind
theorem low_times {n d m e : Int} (hd : 0 < d) (he : 0 < e) : low ((low n d).1 * (low m e).1) ((low n d).2 * (low m e).2) = low (n * m) (d * e) := by
  have p1 := (low_pos (n := n) hd).1
  have p2 := (low_pos (n := m) he).1
  have m1 := low_mul (n := n) hd
  have m2 := low_mul (n := m) he
  generalize low n d = a at *
  generalize low m e = b at *
  refine low_eq (Int.mul_pos p1 p2) (Int.mul_pos hd he) ?_
  have e1 : a.1 * b.1 * (d * e) = (a.1 * d) * (b.1 * e) := by grind
  rw [e1, m1, m2]; grind
/-! ### the sum of squares -/
def sumR (l : List Rd) (w : V3) (q : Int) : Int := sm (fun r => sq (mid r * q - 2 * dot r.1 w)) l
theorem sumR_eq (w : V3) (q : Int) : ∀ l : List Rd, sumR l w q = q * q * svv l - 4 * q * dot w (vals l) + 4 * q1P (gram l) w
  | [] => by simp [sumR, sm, svv, vals, svx, svy, svz, q1P, gram, sxx, sxy, sxz, syy, syz, szz, dot]
  | r :: l => by
    have ih := sumR_eq w q l
    unfold sumR at ih ⊢
    rw [sm, ih]
    simp only [q1P, gram, vals, svv, svx, svy, svz, sxx, sxy, sxz, syy, syz, szz, sm, dot, sq, dx, dy, dz, mid]
    generalize sm _ l = a1
    generalize sm _ l = a2
    generalize sm _ l = a3
    generalize sm _ l = a4
    generalize sm _ l = a5
    generalize sm _ l = a6
    generalize sm _ l = a7
    generalize sm _ l = a8
    generalize sm _ l = a9
    generalize sm _ l = a10
    grind
theorem res_alg {p1 p2 p3 q w1 w2 w3 D x y z s : Int} (m1 : p1 * q = w1 * (2 * D)) (m2 : p2 * q = w2 * (2 * D)) (m3 : p3 * q = w3 * (2 * D)) :
    (q * q * s - 2 * q * (w1 * x + w2 * y + w3 * z)) * D = (s * D - (x * p1 + y * p2 + z * p3)) * (q * q) := by
  have r1 : (q * q * s - 2 * q * (w1 * x + w2 * y + w3 * z)) * D = q * q * s * D - q * (x * (w1 * (2 * D)) + y * (w2 * (2 * D)) + z * (w3 * (2 * D))) := by clear m1 m2 m3; grind
  rw [r1, ← m1, ← m2, ← m3]
  clear r1 m1 m2 m3
  grind
theorem res_is {l : List Rd} (hD : 0 < gD l) {v : WV} (hv : v = lowV (gP l) (2 * gD l)) : sumR l (wpt v) v.2.2.2 * gD l = gR l * (v.2.2.2 * v.2.2.2) := by
  obtain ⟨h1, h2, h3⟩ := fit_solves hD hv
  obtain ⟨m1, m2, m3⟩ := lowV_mul (gP l) (2 * gD l) (by omega)
  rw [← hv] at m1 m2 m3
  rw [ck_x] at h1
  rw [ck_y] at h2
  rw [ck_z] at h3
  rw [sumR_eq]
  unfold gR
  simp only [q1P, wpt, dot, vals] at *
  generalize (gram l).1 = g1 at *
  generalize (gram l).2.1 = g2 at *
  generalize (gram l).2.2 = g3 at *
  generalize gP l = p at *
  generalize gD l = D at *
  generalize svx l = x at *
  generalize svy l = y at *
  generalize svz l = z at *
  generalize svv l = s at *
  obtain ⟨w1, w2, w3, q⟩ := v
  simp only at *
  clear hv
  have k1 : 2 * (w1 * (g1.1 * w1 + g1.2.1 * w2 + g1.2.2 * w3)) = w1 * (q * x) := by
    have : w1 * (q * x - 2 * (g1.1 * w1 + g1.2.1 * w2 + g1.2.2 * w3)) = 0 := by rw [h1, Int.mul_zero]
    grind
  have k2 : 2 * (w2 * (g2.1 * w1 + g2.2.1 * w2 + g2.2.2 * w3)) = w2 * (q * y) := by
    have : w2 * (q * y - 2 * (g2.1 * w1 + g2.2.1 * w2 + g2.2.2 * w3)) = 0 := by rw [h2, Int.mul_zero]
    grind
  have k3 : 2 * (w3 * (g3.1 * w1 + g3.2.1 * w2 + g3.2.2 * w3)) = w3 * (q * z) := by
    have : w3 * (q * z - 2 * (g3.1 * w1 + g3.2.1 * w2 + g3.2.2 * w3)) = 0 := by rw [h3, Int.mul_zero]
    grind
  have e : q * q * s - 4 * q * (w1 * x + w2 * y + w3 * z) + 4 * (w1 * (g1.1 * w1 + g1.2.1 * w2 + g1.2.2 * w3) + w2 * (g2.1 * w1 + g2.2.1 * w2 + g2.2.2 * w3) + w3 * (g3.1 * w1 + g3.2.1 * w2 + g3.2.2 * w3)) = q * q * s - 2 * q * (w1 * x + w2 * y + w3 * z) := by
    grind
  rw [e]
  exact res_alg m1 m2 m3
/-! ### doubled equations -/
def dbl (m : M3) : M3 := ((2 * m.1.1, 2 * m.1.2.1, 2 * m.1.2.2), (2 * m.2.1.1, 2 * m.2.1.2.1, 2 * m.2.1.2.2), 2 * m.2.2.1, 2 * m.2.2.2.1, 2 * m.2.2.2.2)
theorem dbl_det (m : M3) (v : V3) : det3 (dbl m) = 8 * det3 m ∧ det3 (c0 (dbl m) v) = 4 * det3 (c0 m v) ∧ det3 (c1 (dbl m) v) = 4 * det3 (c1 m v) ∧ det3 (c2 (dbl m) v) = 4 * det3 (c2 m v) := by
  obtain ⟨⟨a, b, c⟩, ⟨d, e, f⟩, g, h, i⟩ := m
  obtain ⟨x, y, z⟩ := v
  simp only [dbl, det3, det, dot, cross, c0, c1, c2]
  exact ⟨by grind, by grind, by grind, by grind⟩
theorem lowV_dbl {p : V3} {d : Int} (h : 0 < d) : lowV (4 * p.1, 4 * p.2.1, 4 * p.2.2) (8 * d) = lowV p (2 * d) := by
  obtain ⟨a1, a2, a3⟩ := lowV_mul (4 * p.1, 4 * p.2.1, 4 * p.2.2) (8 * d) (by omega)
  obtain ⟨b1, b2, b3⟩ := lowV_mul p (2 * d) (by omega)
  refine (lowV_ok (by omega)).eq (lowV_ok (by omega)) ?_ ?_ ?_
  all_goals
    generalize lowV (4 * p.1, 4 * p.2.1, 4 * p.2.2) (8 * d) = v at *
    generalize lowV p (2 * d) = w at *
  all_goals dsimp only at a1 a2 a3
  · refine Int.eq_of_mul_eq_mul_right (a := 8 * d) (by omega) ?_
    have : v.1 * w.2.2.2 * (8 * d) = v.1 * (8 * d) * w.2.2.2 := by grind
    rw [this, ← a1]
    have : 4 * p.1 * v.2.2.2 * w.2.2.2 = 4 * (p.1 * w.2.2.2) * v.2.2.2 := by grind
    rw [this, b1]; grind
  · refine Int.eq_of_mul_eq_mul_right (a := 8 * d) (by omega) ?_
    have : v.2.1 * w.2.2.2 * (8 * d) = v.2.1 * (8 * d) * w.2.2.2 := by grind
    rw [this, ← a2]
    have : 4 * p.2.1 * v.2.2.2 * w.2.2.2 = 4 * (p.2.1 * w.2.2.2) * v.2.2.2 := by grind
    rw [this, b2]; grind
  · refine Int.eq_of_mul_eq_mul_right (a := 8 * d) (by omega) ?_
    have : v.2.2.1 * w.2.2.2 * (8 * d) = v.2.2.1 * (8 * d) * w.2.2.2 := by grind
    rw [this, ← a3]
    have : 4 * p.2.2 * v.2.2.2 * w.2.2.2 = 4 * (p.2.2 * w.2.2.2) * v.2.2.2 := by grind
    rw [this, b3]; grind
theorem fit_dbl {l : List Rd} (hD : 0 < gD l) : lowV (det3 (c0 (dbl (gram l)) (vals l)), det3 (c1 (dbl (gram l)) (vals l)), det3 (c2 (dbl (gram l)) (vals l))) (det3 (dbl (gram l))) = lowV (gP l) (2 * gD l) := by
  obtain ⟨e, e0, e1, e2⟩ := dbl_det (gram l) (vals l)
  rw [e, e0, e1, e2]
  exact lowV_dbl (p := gP l) (d := gD l) hD
theorem sm_two (f : Rd → Int) (g : Rd → Int) (h : ∀ r, g r = 2 * f r) : ∀ l, sm g l = 2 * sm f l
  | [] => rfl
  | r :: l => by rw [sm, sm, h, sm_two f g h l]; omega
end Go.Pi
end

section
namespace Go.Proofs.YtglijnhkdnhofaaGreat
open Go Go.Pi Go.RowKit
set_option maxRecDepth 100000
set_option linter.unusedVariables false
set_option linter.unusedSimpArgs false

def f52 (l : List ((Int × Int × Int) × Int × Int)) : Int × Int × Int × Int := lowV (gP l) (2 * gD l)
def f52_pre (l : List ((Int × Int × Int) × Int × Int)) : Prop := RdOK l ∧ 0 < gD l
def tw (f g : Rd → Int) (l : List Rd) : Int := sm (fun r => 2 * f r * g r) l
theorem tw_eq (f g : Rd → Int) (l : List Rd) : tw f g l = 2 * sm (fun r => f r * g r) l := sm_two _ _ (fun r => Int.mul_assoc _ _ _) l
def gv (l : List Rd) : Int × Int × Int × Int × Int × Int × Int × Int × Int × List Int × Unit :=
  (w64 (tw dx dx l), w64 (tw dx dy l), w64 (tw dx dz l), w64 (tw dy dx l), w64 (tw dy dy l), w64 (tw dy dz l), w64 (tw dz dx l), w64 (tw dz dy l), w64 (tw dz dz l), [w64 (svx l), w64 (svy l), w64 (svz l)], ())
def f52_e : Entry := { doms := [(false, (.sl (.pair (.pair (.int .i64) (.pair (.int .i64) (.int .i64))) (.pair (.int .i64) (.int .i64)))))], cods := [(true, (.pair (.int .i64) (.pair (.int .i64) (.pair (.int .i64) (.int .i64)))))], pre := f52_pre, fn := f52, uq := false, total := false }
def f52_E : Env := [(73, f73_e)]
def f52_A : Anns := { loops := [(1048576, { tms := [(0, .keep), (2, .keep), (3, .keep), (4, .keep), (5, .data false (.int .i64))], obs := [(1048576, .keep), (1049600, .cells [.data (.int .i64), .data (.int .i64), .data (.int .i64), .data (.int .i64), .data (.int .i64), .data (.int .i64), .data (.int .i64), .data (.int .i64), .data (.int .i64)]), (1050624, .arr (.fixed 3) (.int .i64))], fz := [] })], own := [1049600], unroll := 4 }
theorem f52_run (a0 : List ((Int × Int × Int) × Int × Int)) (K : (Int × Int × Int × Int) → Prop) : runF Tryz.prog f52_E f52_A 6 Tryz.f52 f52_e.doms f52_e.cods a0 K =
    (LoopP (V := Int × Int × Int × Int × Int × Int × Int × Int × Int × Int × List Int × Unit) (fun again v => (fun (again1 : Int → Int → Int → Int → Int → Int → Int → Int → Int → Int → List Int → Prop) (v1_0 : Int) (v1_1 : Int) (v1_2 : Int) (v1_3 : Int) (v1_4 : Int) (v1_5 : Int) (v1_6 : Int) (v1_7 : Int) (v1_8 : Int) (v1_9 : Int) (v1_10 : List Int) =>
    br (lenOk (a0.length))
    (br (decide (v1_0 < ((a0.length) : Int)))
    (br (decide (0 ≤ v1_0) && decide (v1_0 < ((a0.length) : Int)))
    (br (decide (0 ≤ v1_0) && decide (v1_0 < ((a0.length) : Int)))
    (br (decide (0 ≤ v1_0) && decide (v1_0 < ((a0.length) : Int)))
    (br (decide (0 ≤ v1_0) && decide (v1_0 < ((a0.length) : Int)))
    (br (decide (0 ≤ v1_0) && decide (v1_0 < ((a0.length) : Int)))
    (br (decide (0 ≤ v1_0) && decide (v1_0 < ((a0.length) : Int)))
    (br (decide (0 ≤ v1_0) && decide (v1_0 < ((a0.length) : Int)))
    (again1 (IntKind.i64.wrap (v1_0 + 1)) (IntKind.i64.wrap (v1_1 + (IntKind.i64.wrap ((IntKind.i64.wrap (2 * ((a0.getD v1_0.toNat ((0, (0, 0)), (0, 0))).1).1)) * ((a0.getD v1_0.toNat ((0, (0, 0)), (0, 0))).1).1)))) (IntKind.i64.wrap (v1_2 + (IntKind.i64.wrap ((IntKind.i64.wrap (2 * ((a0.getD v1_0.toNat ((0, (0, 0)), (0, 0))).1).1)) * (((a0.getD v1_0.toNat ((0, (0, 0)), (0, 0))).1).2).1)))) (IntKind.i64.wrap (v1_3 + (IntKind.i64.wrap ((IntKind.i64.wrap (2 * ((a0.getD v1_0.toNat ((0, (0, 0)), (0, 0))).1).1)) * (((a0.getD v1_0.toNat ((0, (0, 0)), (0, 0))).1).2).2)))) (IntKind.i64.wrap (v1_4 + (IntKind.i64.wrap ((IntKind.i64.wrap (2 * (((a0.getD v1_0.toNat ((0, (0, 0)), (0, 0))).1).2).1)) * ((a0.getD v1_0.toNat ((0, (0, 0)), (0, 0))).1).1)))) (IntKind.i64.wrap (v1_5 + (IntKind.i64.wrap ((IntKind.i64.wrap (2 * (((a0.getD v1_0.toNat ((0, (0, 0)), (0, 0))).1).2).1)) * (((a0.getD v1_0.toNat ((0, (0, 0)), (0, 0))).1).2).1)))) (IntKind.i64.wrap (v1_6 + (IntKind.i64.wrap ((IntKind.i64.wrap (2 * (((a0.getD v1_0.toNat ((0, (0, 0)), (0, 0))).1).2).1)) * (((a0.getD v1_0.toNat ((0, (0, 0)), (0, 0))).1).2).2)))) (IntKind.i64.wrap (v1_7 + (IntKind.i64.wrap ((IntKind.i64.wrap (2 * (((a0.getD v1_0.toNat ((0, (0, 0)), (0, 0))).1).2).2)) * ((a0.getD v1_0.toNat ((0, (0, 0)), (0, 0))).1).1)))) (IntKind.i64.wrap (v1_8 + (IntKind.i64.wrap ((IntKind.i64.wrap (2 * (((a0.getD v1_0.toNat ((0, (0, 0)), (0, 0))).1).2).2)) * (((a0.getD v1_0.toNat ((0, (0, 0)), (0, 0))).1).2).1)))) (IntKind.i64.wrap (v1_9 + (IntKind.i64.wrap ((IntKind.i64.wrap (2 * (((a0.getD v1_0.toNat ((0, (0, 0)), (0, 0))).1).2).2)) * (((a0.getD v1_0.toNat ((0, (0, 0)), (0, 0))).1).2).2)))) (((v1_10.set 0 (IntKind.i64.wrap ((v1_10.getD 0 0) + (IntKind.i64.wrap (((a0.getD v1_0.toNat ((0, (0, 0)), (0, 0))).1).1 * (IntKind.i64.wrap (((a0.getD v1_0.toNat ((0, (0, 0)), (0, 0))).2).1 + ((a0.getD v1_0.toNat ((0, (0, 0)), (0, 0))).2).2))))))).set 1 (IntKind.i64.wrap (((v1_10.set 0 (IntKind.i64.wrap ((v1_10.getD 0 0) + (IntKind.i64.wrap (((a0.getD v1_0.toNat ((0, (0, 0)), (0, 0))).1).1 * (IntKind.i64.wrap (((a0.getD v1_0.toNat ((0, (0, 0)), (0, 0))).2).1 + ((a0.getD v1_0.toNat ((0, (0, 0)), (0, 0))).2).2))))))).getD 1 0) + (IntKind.i64.wrap ((((a0.getD v1_0.toNat ((0, (0, 0)), (0, 0))).1).2).1 * (IntKind.i64.wrap (((a0.getD v1_0.toNat ((0, (0, 0)), (0, 0))).2).1 + ((a0.getD v1_0.toNat ((0, (0, 0)), (0, 0))).2).2))))))).set 2 (IntKind.i64.wrap ((((v1_10.set 0 (IntKind.i64.wrap ((v1_10.getD 0 0) + (IntKind.i64.wrap (((a0.getD v1_0.toNat ((0, (0, 0)), (0, 0))).1).1 * (IntKind.i64.wrap (((a0.getD v1_0.toNat ((0, (0, 0)), (0, 0))).2).1 + ((a0.getD v1_0.toNat ((0, (0, 0)), (0, 0))).2).2))))))).set 1 (IntKind.i64.wrap (((v1_10.set 0 (IntKind.i64.wrap ((v1_10.getD 0 0) + (IntKind.i64.wrap (((a0.getD v1_0.toNat ((0, (0, 0)), (0, 0))).1).1 * (IntKind.i64.wrap (((a0.getD v1_0.toNat ((0, (0, 0)), (0, 0))).2).1 + ((a0.getD v1_0.toNat ((0, (0, 0)), (0, 0))).2).2))))))).getD 1 0) + (IntKind.i64.wrap ((((a0.getD v1_0.toNat ((0, (0, 0)), (0, 0))).1).2).1 * (IntKind.i64.wrap (((a0.getD v1_0.toNat ((0, (0, 0)), (0, 0))).2).1 + ((a0.getD v1_0.toNat ((0, (0, 0)), (0, 0))).2).2))))))).getD 2 0) + (IntKind.i64.wrap ((((a0.getD v1_0.toNat ((0, (0, 0)), (0, 0))).1).2).2 * (IntKind.i64.wrap (((a0.getD v1_0.toNat ((0, (0, 0)), (0, 0))).2).1 + ((a0.getD v1_0.toNat ((0, (0, 0)), (0, 0))).2).2))))))))
    False)
    False)
    False)
    False)
    False)
    False)
    False)
    (f73_pre (((v1_1, (v1_2, v1_3)), ((v1_4, (v1_5, v1_6)), (v1_7, (v1_8, v1_9)))), ((v1_10.getD 0 0), ((v1_10.getD 1 0), (v1_10.getD 2 0)))) ∧
    K ((f73 (((v1_1, (v1_2, v1_3)), ((v1_4, (v1_5, v1_6)), (v1_7, (v1_8, v1_9)))), ((v1_10.getD 0 0), ((v1_10.getD 1 0), (v1_10.getD 2 0))))).1, (((f73 (((v1_1, (v1_2, v1_3)), ((v1_4, (v1_5, v1_6)), (v1_7, (v1_8, v1_9)))), ((v1_10.getD 0 0), ((v1_10.getD 1 0), (v1_10.getD 2 0))))).2).1, (((f73 (((v1_1, (v1_2, v1_3)), ((v1_4, (v1_5, v1_6)), (v1_7, (v1_8, v1_9)))), ((v1_10.getD 0 0), ((v1_10.getD 1 0), (v1_10.getD 2 0))))).2).2)))))
    True)
    (fun v1_0 v1_1 v1_2 v1_3 v1_4 v1_5 v1_6 v1_7 v1_8 v1_9 v1_10 => again (v1_0, v1_1, v1_2, v1_3, v1_4, v1_5, v1_6, v1_7, v1_8, v1_9, v1_10, ())) v.1 v.2.1 v.2.2.1 v.2.2.2.1 v.2.2.2.2.1 v.2.2.2.2.2.1 v.2.2.2.2.2.2.1 v.2.2.2.2.2.2.2.1 v.2.2.2.2.2.2.2.2.1 v.2.2.2.2.2.2.2.2.2.1 v.2.2.2.2.2.2.2.2.2.2.1) (0, 0, 0, 0, 0, 0, 0, 0, 0, 0, ([0, 0, 0] : List Int), ())) := by kernel_rfl
theorem f52_t (a0 : List ((Int × Int × Int) × Int × Int)) (hpre : f52_pre a0) (K : (Int × Int × Int × Int) → Prop) (hK : ∀ y : Int × Int × Int × Int, y = f52 a0 → K y) : RunF Tryz.prog f52_E f52_A 6 Tryz.f52 f52_e.doms f52_e.cods a0 K := by
  refine ⟨?_⟩
  rw [f52_run a0 K]
  obtain ⟨rok, hD⟩ := hpre
  have e0 : f52 a0 = lowV (gP a0) (2 * gD a0) := rfl
  have h6 := rok.six
  refine LoopP.up (a0.length : Int) (fun i v => v = gv (a0.take i.toNat)) (fun again i v hi0 hin hI hag => ?_) (by omega) rfl
  subst hI
  obtain ⟨k, rfl⟩ := Int.eq_ofNat_of_zero_le hi0
  rw [Int.toNat_natCast]
  dsimp only [gv]
  refine br_weak (br_if (fun hlt => ?_) fun hge => ?_)
  · have hk : k < a0.length := by omega
    have b := inb (i := (k : Int)) (n := a0.length) (by omega) hlt
    have hh := hag _ hlt rfl
    rw [show ((k : Int) + 1).toNat = k + 1 by omega] at hh
    refine br_must b (br_must b (br_must b (br_must b (br_must b (br_must b (br_must b ?_))))))
    rw [wr (n := (k : Int) + 1) (by omega) (by omega)]
    simp only [List.set_cons_zero, List.set_cons_succ, List.getD_cons_zero, List.getD_cons_succ, Int.toNat_natCast]
    have t : ∀ (f g : Rd → Int) {x y : Int}, x = f (a0.getD k rd0) → y = g (a0.getD k rd0) → IntKind.i64.wrap (w64 (tw f g (a0.take k)) + IntKind.i64.wrap (IntKind.i64.wrap (2 * x) * y)) = w64 (tw f g (a0.take (k + 1))) := fun f g x y hx hy => by
      simp only [wi_ar, wi_ml]
      exact sm_step (fun r => 2 * f r * g r) hk (by rw [hx, hy])
    have m : ∀ (f : Rd → Int) {x : Int}, x = f (a0.getD k rd0) → IntKind.i64.wrap (w64 (sm (fun r => f r * mid r) (a0.take k)) + IntKind.i64.wrap (x * IntKind.i64.wrap ((a0.getD k rd0).2.1 + (a0.getD k rd0).2.2))) = w64 (sm (fun r => f r * mid r) (a0.take (k + 1))) := fun f x hx => by
      simp only [wi_ar, wi_mr]
      exact sm_step (fun r => f r * mid r) hk (by rw [hx]; rfl)
    have c1 := t dx dx (x := (a0.getD k rd0).1.1) (y := (a0.getD k rd0).1.1) rfl rfl
    have c2 := t dx dy (x := (a0.getD k rd0).1.1) (y := (a0.getD k rd0).1.2.1) rfl rfl
    have c3 := t dx dz (x := (a0.getD k rd0).1.1) (y := (a0.getD k rd0).1.2.2) rfl rfl
    have c4 := t dy dx (x := (a0.getD k rd0).1.2.1) (y := (a0.getD k rd0).1.1) rfl rfl
    have c5 := t dy dy (x := (a0.getD k rd0).1.2.1) (y := (a0.getD k rd0).1.2.1) rfl rfl
    have c6 := t dy dz (x := (a0.getD k rd0).1.2.1) (y := (a0.getD k rd0).1.2.2) rfl rfl
    have c7 := t dz dx (x := (a0.getD k rd0).1.2.2) (y := (a0.getD k rd0).1.1) rfl rfl
    have c8 := t dz dy (x := (a0.getD k rd0).1.2.2) (y := (a0.getD k rd0).1.2.1) rfl rfl
    have c9 := t dz dz (x := (a0.getD k rd0).1.2.2) (y := (a0.getD k rd0).1.2.2) rfl rfl
    have d1 := m dx (x := (a0.getD k rd0).1.1) rfl
    have d2 := m dy (x := (a0.getD k rd0).1.2.1) rfl
    have d3 := m dz (x := (a0.getD k rd0).1.2.2) rfl
    unfold gv svx svy svz at hh
    rw [← c1, ← c2, ← c3, ← c4, ← c5, ← c6, ← c7, ← c8, ← c9, ← d1, ← d2, ← d3] at hh
    exact hh
  · obtain rfl : k = a0.length := by omega
    rw [List.take_of_length_le (Nat.le_refl _)]
    have hs := rok.sz
    obtain ⟨⟨k1, k2, k3, k4, k5, k6⟩, k7, k8, k9, _⟩ := hs.fitG
    have w2 : ∀ (f g : Rd → Int), (-486 ≤ sm (fun r => f r * g r) a0 ∧ sm (fun r => f r * g r) a0 ≤ 486) → w64 (tw f g a0) = 2 * sm (fun r => f r * g r) a0 := fun f g h => by
      rw [tw_eq]; exact w64_in (by omega) (by omega)
    have sw : ∀ (f g : Rd → Int), sm (fun r => f r * g r) a0 = sm (fun r => g r * f r) a0 := fun f g => sm_congr fun r _ => Int.mul_comm _ _
    have x1 := w2 dx dx (by have := hs.xx; unfold sxx at this; omega)
    have x2 := w2 dx dy hs.xy
    have x3 := w2 dx dz hs.xz
    have x4 := w2 dy dx (by rw [sw]; exact hs.xy)
    have x5 := w2 dy dy (by have := hs.yy; unfold syy at this; omega)
    have x6 := w2 dy dz hs.yz
    have x7 := w2 dz dx (by rw [sw]; exact hs.xz)
    have x8 := w2 dz dy (by rw [sw]; exact hs.yz)
    have x9 := w2 dz dz (by have := hs.zz; unfold szz at this; omega)
    rw [sw] at x4 x7 x8
    rw [x1, x2, x3, x4, x5, x6, x7, x8, x9, w64_fit k7, w64_fit k8, w64_fit k9]
    simp only [List.getD_cons_zero, List.getD_cons_succ]
    have ef : f73 (dbl (gram a0), vals a0) = lowV (gP a0) (2 * gD a0) := fit_dbl hD
    have pf : f73_pre (dbl (gram a0), vals a0) := by
      obtain ⟨e, e1, e2, e3⟩ := dbl_det (gram a0) (vals a0)
      obtain ⟨p1, p2, p3⟩ := gP_le hs
      have hd := gD_le hs
      have q1 : det3 (c0 (gram a0) (vals a0)) = (gP a0).1 := rfl
      have q2 : det3 (c1 (gram a0) (vals a0)) = (gP a0).2.1 := rfl
      have q3 : det3 (c2 (gram a0) (vals a0)) = (gP a0).2.2 := rfl
      have q4 : det3 (gram a0) = gD a0 := rfl
      refine ⟨⟨?_, ?_, ?_⟩, ?_, ?_⟩
      · show Fit (det3 (c0 (dbl (gram a0)) (vals a0)))
        rw [e1, q1]; exact ⟨by omega, by omega⟩
      · show Fit (det3 (c1 (dbl (gram a0)) (vals a0)))
        rw [e2, q2]; exact ⟨by omega, by omega⟩
      · show Fit (det3 (c2 (dbl (gram a0)) (vals a0)))
        rw [e3, q3]; exact ⟨by omega, by omega⟩
      · show Fit (det3 (dbl (gram a0)))
        rw [e, q4]; exact ⟨by omega, by omega⟩
      · show det3 (dbl (gram a0)) ≠ 0
        rw [e, q4]; omega
    exact ⟨pf, hK _ (by rw [e0]; exact ef)⟩
theorem f52_fn : f52_e.fn = f52 := rfl
theorem f52_ok : EntryOK Tryz.prog 52 f52_e := by
  refine entryF progOK (EnvOK.cons f73_ok (EnvOK.nil)) (A := f52_A) (d := 6) Tryz.func52 rfl rfl rfl rfl (fun h => by cases h) fun x hpre => ?_
  exact f52_t x hpre _ fun _ h => h.trans (congrFun f52_fn.symm _)
end Go.Proofs.YtglijnhkdnhofaaGreat
end

section
namespace Go.Proofs.YtglijnhkdnhofaaGreat
open Go Go.Pi Go.RowKit
set_option maxRecDepth 100000
set_option linter.unusedVariables false
set_option linter.unusedSimpArgs false

def f174 (l : List Int) : List Int := digs (bv l).toNat
def f174_pre (l : List Int) : Prop := Dg l
def f174_e : Entry := { doms := [(false, (.sl (.int .i64)))], cods := [(false, (.sl (.int .i64)))], pre := f174_pre, fn := f174, uq := false, total := false }
def f174_E : Env := []
def f174_A : Anns := { loops := [(1048576, { tms := [(0, .keep), (3, .data false (.int .i64))], obs := [], fz := [] })], own := [] }
theorem f174_run (a0 : List Int) (K : (List Int) → Prop) : runF Tryz.prog f174_E f174_A 6 Tryz.f174 f174_e.doms f174_e.cods a0 K =
    (br (lenOk (a0.length))
    (LoopP (V := Int × Unit) (fun again v => (fun (again1 : Int → Prop) (v1_0 : Int) =>
    br (decide (v1_0 > 0))
    (br (decide (0 ≤ (IntKind.i64.wrap (v1_0 - 1))) && decide ((IntKind.i64.wrap (v1_0 - 1)) < ((a0.length) : Int)))
    (br ((a0.getD ((IntKind.i64.wrap (v1_0 - 1)).toNat) 0) == 0)
    (again1 (IntKind.i64.wrap (v1_0 - 1)))
    (br (decide ((0 : Int) ≤ 0 ∧ (0 : Int) ≤ v1_0 ∧ (v1_0 : Int) ≤ ((a0.length) : Int)))
    (K ((a0.take v1_0.toNat).drop 0))
    False))
    False)
    (br (decide ((0 : Int) ≤ 0 ∧ (0 : Int) ≤ v1_0 ∧ (v1_0 : Int) ≤ ((a0.length) : Int)))
    (K ((a0.take v1_0.toNat).drop 0))
    False))
    (fun v1_0 => again (v1_0, ())) v.1) (((a0.length) : Int), ()))
    True) := by kernel_rfl
theorem f174_t (a0 : List Int) (hpre : f174_pre a0) (K : (List Int) → Prop) (hK : ∀ y : List Int, y = f174 a0 → K y) : RunF Tryz.prog f174_E f174_A 6 Tryz.f174 f174_e.doms f174_e.cods a0 K := by
  refine ⟨?_⟩
  rw [f174_run a0 K]
  have hd : Dg a0 := hpre
  refine br_true_.2 fun hlo => ?_
  have hlo := lenOk_iff.1 hlo
  refine LoopP.of (fun q : Int × Unit => 0 ≤ q.1 ∧ q.1 ≤ (a0.length : Int) ∧ ∀ j, q.1.toNat ≤ j → a0.getD j 0 = 0) (fun q => q.1.toNat) (fun again q hq hag => ?_) ⟨by omega, by omega, fun j hj => getD_ge (by simpa using hj)⟩
  obtain ⟨v, u⟩ := q
  obtain ⟨h0, hn, hz⟩ := hq
  dsimp only at h0 hn hz ⊢
  have ok : (decide ((0 : Int) ≤ 0 ∧ (0 : Int) ≤ v ∧ v ≤ (a0.length : Int))) = true := decide_eq_true ⟨by omega, h0, hn⟩
  have fin : (v.toNat = 0 ∨ a0.getD (v.toNat - 1) 0 ≠ 0) → K ((a0.take v.toNat).drop 0) := fun ht => hK _ (trim_ok hd (by omega) hz ht)
  refine br_if (fun hv => ?_) fun hv => br_must ok (fin (.inl (by omega)))
  have w : IntKind.i64.wrap (v - 1) = v - 1 := wr (by omega) (by omega)
  rw [w]
  have et : (v - 1).toNat = v.toNat - 1 := by omega
  refine br_must (inb (by omega) (by omega)) (br_two (fun h => hag _ ⟨by simp; omega, by simp; omega, fun j hj => ?_⟩ (by simp; omega)) fun h => br_must ok (fin (.inr ?_)))
  · by_cases e : j = v.toNat - 1
    · rw [e, ← et]; exact beq_iff_eq.1 h
    · exact hz j (by have hj : (v - 1).toNat ≤ j := hj; omega)
  · rw [← et]; exact beq_eq_false_iff_ne.1 h
theorem f174_fn : f174_e.fn = f174 := rfl
theorem f174_ok : EntryOK Tryz.prog 174 f174_e := by
  refine entryF progOK (EnvOK.nil) (A := f174_A) (d := 6) Tryz.func174 rfl rfl rfl rfl (fun h => by cases h) fun x hpre => ?_
  exact f174_t x hpre _ fun _ h => h.trans (congrFun f174_fn.symm _)
end Go.Proofs.YtglijnhkdnhofaaGreat
end

section
namespace Go.Proofs.YtglijnhkdnhofaaGreat
open Go Go.Pi Go.RowKit
set_option maxRecDepth 100000
set_option linter.unusedVariables false
set_option linter.unusedSimpArgs false

def f155 (x : Int × List Int) : Int × List Int := if bv x.2 = 0 then (0, []) else (x.1, digs (bv x.2).toNat)
def f155_pre (x : Int × List Int) : Prop := Dg x.2
def f155_e : Entry := { doms := [(false, (.int .i64)), (false, (.sl (.int .i64)))], cods := [(true, (.pair (.int .i64) (.sl (.int .i64))))], pre := f155_pre, fn := f155, uq := false, total := false }
def f155_E : Env := [(174, f174_e)]
def f155_A : Anns := { loops := [], own := [] }
theorem f155_run (a0 : Int) (a1 : List Int) (K : (Int × List Int) → Prop) : runF Tryz.prog f155_E f155_A 6 Tryz.f155 f155_e.doms f155_e.cods (a0, a1) K =
    (f174_pre a1 ∧
    br (lenOk ((f174 a1).length))
    (br ((((f174 a1).length) : Int) == 0)
    (K (0, (f174 a1)))
    (K (a0, (f174 a1))))
    True) := by kernel_rfl
theorem f155_t (a0 : Int) (a1 : List Int) (hpre : f155_pre (a0, a1)) (K : (Int × List Int) → Prop) (hK : ∀ y : Int × List Int, y = f155 (a0, a1) → K y) : RunF Tryz.prog f155_E f155_A 6 Tryz.f155 f155_e.doms f155_e.cods (a0, a1) K := by
  refine ⟨?_⟩
  rw [f155_run a0 a1 K]
  have hd : Dg a1 := hpre
  have e174 : f174 a1 = digs (bv a1).toNat := rfl
  have e0 : f155 (a0, a1) = if bv a1 = 0 then (0, []) else (a0, digs (bv a1).toNat) := rfl
  have hr := (bv_range hd).1
  rw [e174]
  refine ⟨hd, br_weak (br_two (fun h => hK _ ?_) fun h => hK _ ?_)⟩
  · have h : digs (bv a1).toNat = [] := List.length_eq_zero_iff.1 (by have := beq_iff_eq.1 h; omega)
    rw [e0, if_pos (by have := digs_nil.1 h; omega), h]
  · have h : ¬ bv a1 = 0 := fun hh => by
      rw [hh, show (0 : Int).toNat = 0 from rfl, digs_zero] at h; cases h
    rw [e0, if_neg h]
theorem f155_fn : f155_e.fn = f155 := rfl
theorem f155_ok : EntryOK Tryz.prog 155 f155_e := by
  refine entryF progOK (EnvOK.cons f174_ok (EnvOK.nil)) (A := f155_A) (d := 6) Tryz.func155 rfl rfl rfl rfl (fun h => by cases h) fun x hpre => ?_
  obtain ⟨a0, a1⟩ := x
  exact f155_t a0 a1 hpre _ fun _ h => h.trans (congrFun f155_fn.symm _)
end Go.Proofs.YtglijnhkdnhofaaGreat
end

section
namespace Go.Proofs.YtglijnhkdnhofaaGreat
open Go Go.Pi Go.RowKit
set_option maxRecDepth 100000
set_option linter.unusedVariables false
set_option linter.unusedSimpArgs false

def f142 (n : Int) : Int × List Int := wd n
def f142_pre (n : Int) : Prop := Fit n
def f142_e : Entry := { doms := [(false, (.int .i64))], cods := [(true, (.pair (.int .i64) (.sl (.int .i64))))], pre := f142_pre, fn := f142, uq := false, total := false }
def f142_E : Env := [(138, f138_e), (155, f155_e)]
def f142_A : Anns := { loops := [(1048576, { tms := [(0, .data false (.int .i64)), (2, .keep), (3, .keep), (4, .ref 1054725)], obs := [(1048576, .keep), (1054725, .arr (.uniq) (.int .i64))], fz := [] })], own := [] }
theorem f142_run (a0 : Int) (K : (Int × List Int) → Prop) : runF Tryz.prog f142_E f142_A 6 Tryz.f142 f142_e.doms f142_e.cods a0 K =
    (br (decide (a0 < 0))
    (LoopP (V := Int × List Int × Unit) (fun again v => (fun (again1 : Int → List Int → Prop) (v1_0 : Int) (v1_1 : List Int) =>
    br (v1_0 != 0)
    (br (roomOk ((v1_1.length) + 1) 8)
    (again1 (IntKind.i64.wrap (v1_0.tdiv 1000000000)) (v1_1 ++ ([(f138 (v1_0.tmod 1000000000))] : List Int)))
    False)
    (f155_pre ((-1), v1_1) ∧
    K (f155 ((-1), v1_1))))
    (fun v1_0 v1_1 => again (v1_0, v1_1, ())) v.1 v.2.1) (a0, ([] : List Int), ()))
    (LoopP (V := Int × List Int × Unit) (fun again v => (fun (again2 : Int → List Int → Prop) (v2_0 : Int) (v2_1 : List Int) =>
    br (v2_0 != 0)
    (br (roomOk ((v2_1.length) + 1) 8)
    (again2 (IntKind.i64.wrap (v2_0.tdiv 1000000000)) (v2_1 ++ ([(f138 (v2_0.tmod 1000000000))] : List Int)))
    False)
    (f155_pre (1, v2_1) ∧
    K (f155 (1, v2_1))))
    (fun v2_0 v2_1 => again (v2_0, v2_1, ())) v.1 v.2.1) (a0, ([] : List Int), ()))) := by kernel_rfl
theorem f142_t (a0 : Int) (hpre : f142_pre a0) (K : (Int × List Int) → Prop) (hK : ∀ y : Int × List Int, y = f142 a0 → K y) : RunF Tryz.prog f142_E f142_A 6 Tryz.f142 f142_e.doms f142_e.cods a0 K := by
  refine ⟨?_⟩
  rw [f142_run a0 K]
  have hf : Fit a0 := hpre
  have e138 : ∀ n, Fit n → f138 n = (n.natAbs : Int) := fun n h => minmax_abs h
  have e155 : ∀ (s : Int) (l : List Int), f155 (s, l) = if bv l = 0 then (0, []) else (s, digs (bv l).toNat) := fun _ _ => rfl
  have p3 : pw 3 = 1000000000000000000000000000 := rfl
  have key : ∀ s : Int, (a0 < 0 → s = -1) → (0 ≤ a0 → s = 1) → ∀ (again : (Int × List Int × Unit) → Prop) (v : Int) (out : List Int), Dg out → bv out + pw out.length * (v.natAbs : Int) = (a0.natAbs : Int) → (0 ≤ a0 → 0 ≤ v) → (a0 < 0 → v ≤ 0) → Fit v →
      (∀ v' out', Dg out' → bv out' + pw out'.length * (v'.natAbs : Int) = (a0.natAbs : Int) → (0 ≤ a0 → 0 ≤ v') → (a0 < 0 → v' ≤ 0) → Fit v' → v'.natAbs < v.natAbs → again (v', out', ())) →
      br (v != 0) (br (roomOk (out.length + 1) 8) (again ((IntKind.i64.wrap (v.tdiv 1000000000)), (out ++ [f138 (v.tmod 1000000000)]), ())) False) (f155_pre (s, out) ∧ K (f155 (s, out))) := by
    intro s s1 s2 again v out hd hv hp hn hfv hag
    refine br_two (fun h => ?_) fun h => ⟨hd, hK _ ?_⟩
    · have h := bne_iff_ne.1 h
      have hr := (bv_range hd).1
      have hl : out.length < 3 := by
        refine Classical.byContradiction fun hc => ?_
        have := pw_mono (show 3 ≤ out.length by omega)
        have : pw out.length * 1 ≤ pw out.length * (v.natAbs : Int) := Int.mul_le_mul_of_nonneg_left (by omega) (by omega)
        have := hf.1
        have := hf.2
        omega
      have ht : (v.tdiv 1000000000).natAbs = v.natAbs / 1000000000 := Int.natAbs_tdiv v 1000000000
      have hm : (v.tmod 1000000000).natAbs = v.natAbs % 1000000000 := Int.natAbs_tmod v 1000000000
      have f1 : Fit (v.tdiv 1000000000) := tdiv_fit hfv
      have f2 : Fit (v.tmod 1000000000) := tmod_fit hfv (by decide)
      rw [e138 _ f2, hm, show IntKind.i64.wrap (v.tdiv 1000000000) = v.tdiv 1000000000 from w64_fit f1]
      refine br_must (roomOk_iff.2 (by omega)) (hag _ _ (hd.snoc ⟨by omega, by omega⟩) ?_ (fun h0 => ?_) (fun h0 => ?_) f1 (by rw [ht]; omega))
      · have := put_digit out (v.natAbs : Int)
        rw [List.length_append, ht]
        show bv (out ++ [((v.natAbs % 1000000000 : Nat) : Int)]) + pw (out.length + 1) * ((v.natAbs / 1000000000 : Nat) : Int) = _
        rw [show ((v.natAbs % 1000000000 : Nat) : Int) = (v.natAbs : Int) % 1000000000 by omega, show ((v.natAbs / 1000000000 : Nat) : Int) = (v.natAbs : Int) / 1000000000 by omega, this]
        exact hv
      · have := hp h0
        rw [Int.tdiv_eq_ediv_of_nonneg this]; omega
      · have := hn h0
        have e : v.tdiv 1000000000 = -((-v) / 1000000000) := by
          rw [← Int.tdiv_eq_ediv_of_nonneg (show 0 ≤ -v by omega), Int.neg_tdiv]; omega
        rw [e]; omega
    · have h := bne_f.1 h
      subst h
      have hv : bv out = (a0.natAbs : Int) := by simpa using hv
      rw [e155]
      show _ = wd a0
      by_cases h0 : a0 = 0
      · rw [if_pos (by omega), h0, wd_zero]
      · rw [if_neg (by omega), hv, Int.toNat_natCast]
        unfold wd
        congr 1
        rcases sg_cases a0 with q | q | q
        · rw [q.2]; exact s1 q.1
        · exact absurd q.1 h0
        · rw [q.2]; exact s2 (by omega)
  have start : bv [] + pw ([] : List Int).length * (a0.natAbs : Int) = (a0.natAbs : Int) := by simp [bv, pw]
  have I0 : Dg [] ∧ bv [] + pw ([] : List Int).length * (a0.natAbs : Int) = (a0.natAbs : Int) ∧ (0 ≤ a0 → 0 ≤ a0) ∧ (a0 < 0 → a0 ≤ 0) ∧ Fit a0 := ⟨Dg.nil, start, fun h => h, fun h => by omega, hf⟩
  refine br_if (fun h => ?_) fun h => ?_
  · refine LoopP.of (fun q : Int × List Int × Unit => Dg q.2.1 ∧ bv q.2.1 + pw q.2.1.length * (q.1.natAbs : Int) = (a0.natAbs : Int) ∧ (0 ≤ a0 → 0 ≤ q.1) ∧ (a0 < 0 → q.1 ≤ 0) ∧ Fit q.1) (fun q => q.1.natAbs) (fun again q hq hag => ?_) I0
    obtain ⟨v, out, u⟩ := q
    obtain ⟨h1, h2, h3, h4, h5⟩ := hq
    exact key (-1) (fun _ => rfl) (fun h => by omega) again v out h1 h2 h3 h4 h5 fun v' out' k1 k2 k3 k4 k5 k6 => hag _ ⟨k1, k2, k3, k4, k5⟩ k6
  · refine LoopP.of (fun q : Int × List Int × Unit => Dg q.2.1 ∧ bv q.2.1 + pw q.2.1.length * (q.1.natAbs : Int) = (a0.natAbs : Int) ∧ (0 ≤ a0 → 0 ≤ q.1) ∧ (a0 < 0 → q.1 ≤ 0) ∧ Fit q.1) (fun q => q.1.natAbs) (fun again q hq hag => ?_) I0
    obtain ⟨v, out, u⟩ := q
    obtain ⟨h1, h2, h3, h4, h5⟩ := hq
    exact key 1 (fun h => by omega) (fun _ => rfl) again v out h1 h2 h3 h4 h5 fun v' out' k1 k2 k3 k4 k5 k6 => hag _ ⟨k1, k2, k3, k4, k5⟩ k6
theorem f142_fn : f142_e.fn = f142 := rfl
theorem f142_ok : EntryOK Tryz.prog 142 f142_e := by
  refine entryF progOK (EnvOK.cons f138_ok (EnvOK.cons f155_ok (EnvOK.nil))) (A := f142_A) (d := 6) Tryz.func142 rfl rfl rfl rfl (fun h => by cases h) fun x hpre => ?_
  exact f142_t x hpre _ fun _ h => h.trans (congrFun f142_fn.symm _)
end Go.Proofs.YtglijnhkdnhofaaGreat
end

section
namespace Go.Proofs.YtglijnhkdnhofaaGreat
open Go Go.Pi Go.RowKit
set_option maxRecDepth 100000
set_option linter.unusedVariables false
set_option linter.unusedSimpArgs false

def f110 (n : Int) : (Int × List Int) × Int × List Int := (wd n, wd 1)
def f110_pre (n : Int) : Prop := Fit n
def f110_e : Entry := { doms := [(false, (.int .i64))], cods := [(true, (.pair (.pair (.int .i64) (.sl (.int .i64))) (.pair (.int .i64) (.sl (.int .i64)))))], pre := f110_pre, fn := f110, uq := false, total := false }
def f110_E : Env := [(142, f142_e)]
def f110_A : Anns := { loops := [], own := [] }
theorem f110_run (a0 : Int) (K : ((Int × List Int) × Int × List Int) → Prop) : runF Tryz.prog f110_E f110_A 6 Tryz.f110 f110_e.doms f110_e.cods a0 K =
    (f142_pre a0 ∧
    f142_pre 1 ∧
    K ((f142 a0), (f142 1))) := by kernel_rfl
theorem f110_t (a0 : Int) (hpre : f110_pre a0) (K : ((Int × List Int) × Int × List Int) → Prop) (hK : ∀ y : (Int × List Int) × Int × List Int, y = f110 a0 → K y) : RunF Tryz.prog f110_E f110_A 6 Tryz.f110 f110_e.doms f110_e.cods a0 K := by
  refine ⟨?_⟩
  rw [f110_run a0 K]
  exact ⟨hpre, show Fit 1 from ⟨by omega, by omega⟩, hK _ rfl⟩
theorem f110_fn : f110_e.fn = f110 := rfl
theorem f110_ok : EntryOK Tryz.prog 110 f110_e := by
  refine entryF progOK (EnvOK.cons f142_ok (EnvOK.nil)) (A := f110_A) (d := 6) Tryz.func110 rfl rfl rfl rfl (fun h => by cases h) fun x hpre => ?_
  exact f110_t x hpre _ fun _ h => h.trans (congrFun f110_fn.symm _)
end Go.Proofs.YtglijnhkdnhofaaGreat
end

section
namespace Go.Proofs.YtglijnhkdnhofaaGreat
open Go Go.Pi Go.RowKit
set_option maxRecDepth 100000
set_option linter.unusedVariables false
set_option linter.unusedSimpArgs false

def f156 (a : Int × List Int) : Int × List Int := wd (-(wv a))
def f156_pre (a : Int × List Int) : Prop := WC a
def f156_e : Entry := { doms := [(true, (.pair (.int .i64) (.sl (.int .i64))))], cods := [(true, (.pair (.int .i64) (.sl (.int .i64))))], pre := f156_pre, fn := f156, uq := false, total := false }
def f156_E : Env := []
def f156_A : Anns := { loops := [], own := [] }
theorem f156_run (a0 : Int × List Int) (K : (Int × List Int) → Prop) : runF Tryz.prog f156_E f156_A 6 Tryz.f156 f156_e.doms f156_e.cods a0 K =
    (K ((IntKind.i64.wrap (0 - a0.1)), a0.2)) := by kernel_rfl
theorem f156_t (a0 : Int × List Int) (hpre : f156_pre a0) (K : (Int × List Int) → Prop) (hK : ∀ y : Int × List Int, y = f156 a0 → K y) : RunF Tryz.prog f156_E f156_A 6 Tryz.f156 f156_e.doms f156_e.cods a0 K := by
  refine ⟨?_⟩
  rw [f156_run a0 K]
  have hc : WC a0 := hpre
  refine hK _ ?_
  obtain ⟨c, v, s⟩ := hc.of
  have := sg_one (wv a0)
  show _ = wd (-(wv a0))
  rw [wd_neg, s, show IntKind.i64.wrap (0 - sg (wv a0)) = -sg (wv a0) by rw [wr (by omega) (by omega)]; omega]
  congr 1
  exact congrArg Prod.snd (show a0 = wd (wv a0) from hc)
theorem f156_fn : f156_e.fn = f156 := rfl
theorem f156_ok : EntryOK Tryz.prog 156 f156_e := by
  refine entryF progOK (EnvOK.nil) (A := f156_A) (d := 6) Tryz.func156 rfl rfl rfl rfl (fun h => by cases h) fun x hpre => ?_
  exact f156_t x hpre _ fun _ h => h.trans (congrFun f156_fn.symm _)
end Go.Proofs.YtglijnhkdnhofaaGreat
end

section
namespace Go.Proofs.YtglijnhkdnhofaaGreat
open Go Go.Pi Go.RowKit
set_option maxRecDepth 100000
set_option linter.unusedVariables false
set_option linter.unusedSimpArgs false

def f157 (a : Int × List Int) : Int := a.1
def f157_e : Entry := { doms := [(true, (.pair (.int .i64) (.sl (.int .i64))))], cods := [(false, (.int .i64))], pre := fun _ => True, fn := f157, uq := false, total := true }
def f157_E : Env := []
def f157_A : Anns := { loops := [], own := [] }
theorem f157_run (a0 : Int × List Int) (K : Int → Prop) : runF Tryz.prog f157_E f157_A 6 Tryz.f157 f157_e.doms f157_e.cods a0 K =
    (K a0.1) := by kernel_rfl
theorem f157_t (a0 : Int × List Int) (K : Int → Prop) (hK : ∀ y : Int, y = f157 a0 → K y) : RunF Tryz.prog f157_E f157_A 6 Tryz.f157 f157_e.doms f157_e.cods a0 K := by
  refine ⟨?_⟩
  rw [f157_run a0 K]
  exact hK _ rfl
theorem f157_fn : f157_e.fn = f157 := rfl
theorem f157_ok : EntryOK Tryz.prog 157 f157_e := by
  refine entryF progOK (EnvOK.nil) (A := f157_A) (d := 6) Tryz.func157 rfl rfl rfl rfl (fun _ _ => trivial) fun x hpre => ?_
  exact f157_t x _ fun _ h => h.trans (congrFun f157_fn.symm _)
end Go.Proofs.YtglijnhkdnhofaaGreat
end

section
namespace Go.Proofs.YtglijnhkdnhofaaGreat
open Go Go.Pi Go.RowKit
set_option maxRecDepth 100000
set_option linter.unusedVariables false
set_option linter.unusedSimpArgs false

def f146 (x : (Int × List Int) × Int × List Int) : Int × List Int := wd (wv x.1 * wv x.2)
def f146_pre (x : (Int × List Int) × Int × List Int) : Prop := WB 400 x.1 ∧ WB 400 x.2
def f146_e : Entry := { doms := [(true, (.pair (.int .i64) (.sl (.int .i64)))), (true, (.pair (.int .i64) (.sl (.int .i64))))], cods := [(true, (.pair (.int .i64) (.sl (.int .i64))))], pre := f146_pre, fn := f146, uq := false, total := false }
def f146_E : Env := [(155, f155_e)]
def f146_A : Anns := { loops := [(1048576, { tms := [(2, .keep), (3, .keep), (4, .keep), (5, .ref 1049608), (6, .data false (.int .i64))], obs := [(1048576, .keep), (1048577, .keep), (1048578, .keep), (1049608, .arr (.uniq) (.int .i64))], fz := [] }),
  (1048578, { tms := [(2, .keep), (3, .keep), (4, .keep), (5, .ref 1049608), (6, .keep), (7, .data false (.int .i64)), (8, .data false (.int .i64))], obs := [(1048576, .keep), (1048577, .keep), (1048578, .keep), (1049608, .arr (.uniq) (.int .i64))], fz := [] })], own := [] }
theorem f146_run (a0 : Int × List Int) (a1 : Int × List Int) (K : (Int × List Int) → Prop) : runF Tryz.prog f146_E f146_A 6 Tryz.f146 f146_e.doms f146_e.cods (a0, a1) K =
    (br (lenOk (a0.2.length))
    (br (lenOk (a1.2.length))
    (br (decide (0 ≤ (IntKind.i64.wrap ((IntKind.i64.wrap (((a0.2.length) : Int) + ((a1.2.length) : Int))) + 1))) && decide ((IntKind.i64.wrap ((IntKind.i64.wrap (((a0.2.length) : Int) + ((a1.2.length) : Int))) + 1)) = (IntKind.i64.wrap ((IntKind.i64.wrap (((a0.2.length) : Int) + ((a1.2.length) : Int))) + 1))) && roomOk ((IntKind.i64.wrap ((IntKind.i64.wrap (((a0.2.length) : Int) + ((a1.2.length) : Int))) + 1)).toNat) 8)
    (LoopP (V := Int × List Int × Unit) (fun again v => (fun (again1 : Int → List Int → Prop) (v1_0 : Int) (v1_1 : List Int) =>
    br (lenOk (a0.2.length))
    (br (decide (v1_0 < ((a0.2.length) : Int)))
    (LoopP (V := Int × Int × List Int × Unit) (fun again v => (fun (again2 : Int → Int → List Int → Prop) (v2_0 : Int) (v2_1 : Int) (v2_2 : List Int) =>
    br (lenOk (a1.2.length))
    (br (decide (v2_1 < ((a1.2.length) : Int)))
    (br (decide (0 ≤ (IntKind.i64.wrap (v1_0 + v2_1))) && decide ((IntKind.i64.wrap (v1_0 + v2_1)) < ((v2_2.length) : Int)))
    (br (decide (0 ≤ v1_0) && decide (v1_0 < ((a0.2.length) : Int)))
    (br (decide (0 ≤ v2_1) && decide (v2_1 < ((a1.2.length) : Int)))
    (br (decide (0 ≤ (IntKind.i64.wrap (v1_0 + v2_1))) && decide ((IntKind.i64.wrap (v1_0 + v2_1)) < ((v2_2.length) : Int)))
    (again2 (IntKind.i64.wrap ((IntKind.i64.wrap ((IntKind.i64.wrap ((v2_2.getD ((IntKind.i64.wrap (v1_0 + v2_1)).toNat) 0) + (IntKind.i64.wrap ((a0.2.getD v1_0.toNat 0) * (a1.2.getD v2_1.toNat 0))))) + v2_0)).tdiv 1000000000)) (IntKind.i64.wrap (v2_1 + 1)) (v2_2.set ((IntKind.i64.wrap (v1_0 + v2_1)).toNat) ((IntKind.i64.wrap ((IntKind.i64.wrap ((v2_2.getD ((IntKind.i64.wrap (v1_0 + v2_1)).toNat) 0) + (IntKind.i64.wrap ((a0.2.getD v1_0.toNat 0) * (a1.2.getD v2_1.toNat 0))))) + v2_0)).tmod 1000000000)))
    False)
    False)
    False)
    False)
    (br (decide (0 ≤ (IntKind.i64.wrap (v1_0 + ((a1.2.length) : Int)))) && decide ((IntKind.i64.wrap (v1_0 + ((a1.2.length) : Int))) < ((v2_2.length) : Int)))
    (br (decide (0 ≤ (IntKind.i64.wrap (v1_0 + ((a1.2.length) : Int)))) && decide ((IntKind.i64.wrap (v1_0 + ((a1.2.length) : Int))) < ((v2_2.length) : Int)))
    (br (lenOk (a1.2.length))
    (br (lenOk (a1.2.length))
    (again1 (IntKind.i64.wrap (v1_0 + 1)) (v2_2.set ((IntKind.i64.wrap (v1_0 + ((a1.2.length) : Int))).toNat) (IntKind.i64.wrap ((v2_2.getD ((IntKind.i64.wrap (v1_0 + ((a1.2.length) : Int))).toNat) 0) + v2_0))))
    True)
    True)
    False)
    False))
    True)
    (fun v2_0 v2_1 v2_2 => again (v2_0, v2_1, v2_2, ())) v.1 v.2.1 v.2.2.1) (0, 0, v1_1, ()))
    (f155_pre ((IntKind.i64.wrap (a0.1 * a1.1)), v1_1) ∧
    K (f155 ((IntKind.i64.wrap (a0.1 * a1.1)), v1_1))))
    True)
    (fun v1_0 v1_1 => again (v1_0, v1_1, ())) v.1 v.2.1) (0, (List.replicate ((IntKind.i64.wrap ((IntKind.i64.wrap (((a0.2.length) : Int) + ((a1.2.length) : Int))) + 1)).toNat) (0 : Int)), ()))
    False)
    True)
    True) := by kernel_rfl
theorem f146_t (a0 : Int × List Int) (a1 : Int × List Int) (hpre : f146_pre (a0, a1)) (K : (Int × List Int) → Prop) (hK : ∀ y : Int × List Int, y = f146 (a0, a1) → K y) : RunF Tryz.prog f146_E f146_A 6 Tryz.f146 f146_e.doms f146_e.cods (a0, a1) K := by
  refine ⟨?_⟩
  rw [f146_run a0 a1 K]
  obtain ⟨ha, hb⟩ := hpre
  dsimp only at ha hb
  have la := ha.len
  have lb := hb.len
  obtain ⟨ca, va, sa⟩ := ha.can
  obtain ⟨cb, vb, sb⟩ := hb.can
  have e0 : f146 (a0, a1) = wd (wv a0 * wv a1) := rfl
  have e155 : ∀ (s : Int) (l : List Int), f155 (s, l) = if bv l = 0 then (0, []) else (s, digs (bv l).toNat) := fun _ _ => rfl
  have hsx := sg_one (wv a0)
  have hsy := sg_one (wv a1)
  rw [sa, sb]
  generalize wv a0 = x at *
  generalize wv a1 = y at *
  generalize a0.2 = da at *
  generalize a1.2 = db at *
  have wn : IntKind.i64.wrap (IntKind.i64.wrap ((da.length : Int) + (db.length : Int)) + 1) = ((da.length + db.length + 1 : Nat) : Int) := by
    rw [show IntKind.i64.wrap ((da.length : Int) + (db.length : Int)) = (da.length : Int) + (db.length : Int) from wr (by omega) (by omega), wr (by omega) (by omega)]; omega
  rw [wn, Int.toNat_natCast]
  generalize hN : da.length + db.length + 1 = N at *
  refine br_weak (br_weak (br_must (by simp; rw [roomOk_iff]; omega) ?_))
  refine LoopP.up (da.length : Int) (fun i v => v.1.length = N ∧ Dg v.1 ∧ bv v.1 = bv (da.take i.toNat) * bv db ∧ ∀ j, i.toNat + db.length ≤ j → v.1.getD j 0 = 0) (fun again i v hi0 hin hI hag => ?_) (by omega) ⟨by simp, rep_dg N, by rw [rep_bv]; simp [bv], fun j _ => getD_rep N j⟩
  obtain ⟨k, rfl⟩ := Int.eq_ofNat_of_zero_le hi0
  rw [Int.toNat_natCast] at hI
  obtain ⟨out, u⟩ := v
  obtain ⟨o1, o2, o3, o4⟩ := hI
  dsimp only at o1 o2 o3 o4 ⊢
  refine br_weak (br_if (fun hlt => ?_) fun hge => ⟨o2, hK _ ?_⟩)
  · have hk : k < da.length := by omega
    refine LoopP.of (fun q : Int × Int × List Int × Unit => ∃ t : Nat, q.2.1 = (t : Int) ∧ t ≤ db.length ∧ q.2.2.1.length = N ∧ Dg q.2.2.1 ∧ (0 ≤ q.1 ∧ q.1 < 1000000000) ∧ bv q.2.2.1 + pw (k + t) * q.1 = bv (da.take k) * bv db + pw k * (da.getD k 0 * bv (db.take t)) ∧ ∀ j, k + db.length ≤ j → q.2.2.1.getD j 0 = 0)
      (fun q => db.length - q.2.1.toNat) (fun again2 q hq hag2 => ?_) ⟨0, rfl, by omega, o1, o2, by simp, by simp [bv]; omega, o4⟩
    obtain ⟨c, tI, o, u⟩ := q
    obtain ⟨t, ht, htn, q1, q2, q3, q4, q5⟩ := hq
    dsimp only at ht q1 q2 q3 q4 q5
    subst ht
    dsimp only
    have wkt : IntKind.i64.wrap ((k : Int) + (t : Int)) = ((k + t : Nat) : Int) := by rw [wr (by omega) (by omega)]; omega
    have wkn : IntKind.i64.wrap ((k : Int) + (db.length : Int)) = ((k + db.length : Nat) : Int) := by rw [wr (by omega) (by omega)]; omega
    rw [wkt, wkn]
    simp only [Int.toNat_natCast]
    have i1 := inb (i := ((k + db.length : Nat) : Int)) (n := o.length) (by omega) (by omega)
    refine br_weak (br_if (fun hlt2 => ?_) fun hge2 => br_must i1 (br_must i1 (br_weak (br_weak ?_))))
    · have i2 := inb (i := ((k + t : Nat) : Int)) (n := o.length) (by omega) (by omega)
      refine br_must i2 (br_must (inb (by omega) hlt) (br_must (inb (by omega) hlt2) (br_must i2 ?_)))
      have ra := ca.dg.at k
      have rb := cb.dg.at t
      have ro := q2.at (k + t)
      have p0 := Int.mul_nonneg ra.1 rb.1
      have p1 := (mul_le (A := 999999999) (B := 999999999) (a := da.getD k 0) (b := db.getD t 0) ⟨by omega, by omega⟩ ⟨by omega, by omega⟩).2
      have hset := set_digit (l := o) (i := k + t) (by omega) (o.getD (k + t) 0 + da.getD k 0 * db.getD t 0 + c)
      have ht1 := @bv_take_succ db t
      have hl2 : (o.set (k + t) ((o.getD (k + t) 0 + da.getD k 0 * db.getD t 0 + c) % 1000000000)).length = N := by rw [List.length_set]; exact q1
      have hz : ∀ j, k + db.length ≤ j → (o.set (k + t) ((o.getD (k + t) 0 + da.getD k 0 * db.getD t 0 + c) % 1000000000)).getD j 0 = 0 := fun j hj => by
        rw [getD_set, if_neg (by omega)]; exact q5 j hj
      have hd2 : Dg (o.set (k + t) ((o.getD (k + t) 0 + da.getD k 0 * db.getD t 0 + c) % 1000000000)) := q2.set ⟨by omega, by omega⟩ _
      rw [show IntKind.i64.wrap (da.getD k 0 * db.getD t 0) = da.getD k 0 * db.getD t 0 from wr (by omega) (by omega), show IntKind.i64.wrap (o.getD (k + t) 0 + da.getD k 0 * db.getD t 0) = o.getD (k + t) 0 + da.getD k 0 * db.getD t 0 from wr (by omega) (by omega), show IntKind.i64.wrap (o.getD (k + t) 0 + da.getD k 0 * db.getD t 0 + c) = o.getD (k + t) 0 + da.getD k 0 * db.getD t 0 + c from wr (by omega) (by omega)]
      have hS : 0 ≤ o.getD (k + t) 0 + da.getD k 0 * db.getD t 0 + c ∧ o.getD (k + t) 0 + da.getD k 0 * db.getD t 0 + c < 1000000000000000000 := by omega
      rw [show (o.getD (k + t) 0 + da.getD k 0 * db.getD t 0 + c).tdiv 1000000000 = (o.getD (k + t) 0 + da.getD k 0 * db.getD t 0 + c) / 1000000000 from Int.tdiv_eq_ediv_of_nonneg hS.1, show (o.getD (k + t) 0 + da.getD k 0 * db.getD t 0 + c).tmod 1000000000 = (o.getD (k + t) 0 + da.getD k 0 * db.getD t 0 + c) % 1000000000 from Int.tmod_eq_emod_of_nonneg hS.1]
      have hv : pw (k + t) * (o.getD (k + t) 0 + da.getD k 0 * db.getD t 0 + c - o.getD (k + t) 0) = pw k * (da.getD k 0 * (pw t * db.getD t 0)) + pw (k + t) * c := by
        rw [show o.getD (k + t) 0 + da.getD k 0 * db.getD t 0 + c - o.getD (k + t) 0 = da.getD k 0 * db.getD t 0 + c by omega, Int.mul_add, pw_add, Int.mul_assoc (pw k) (pw t) (da.getD k 0 * db.getD t 0), Int.mul_left_comm (pw t)]
      have hv2 : pw k * (da.getD k 0 * bv (db.take (t + 1))) = pw k * (da.getD k 0 * bv (db.take t)) + pw k * (da.getD k 0 * (pw t * db.getD t 0)) := by
        rw [ht1, Int.mul_add, Int.mul_add]
      generalize o.getD (k + t) 0 + da.getD k 0 * db.getD t 0 + c = S at *
      rw [show IntKind.i64.wrap (S / 1000000000) = S / 1000000000 from wr (by omega) (by omega), show IntKind.i64.wrap ((t : Int) + 1) = ((t + 1 : Nat) : Int) by rw [wr (by omega) (by omega)]; omega]
      refine hag2 _ ⟨t + 1, rfl, by omega, hl2, hd2, ⟨show 0 ≤ S / 1000000000 by omega, show S / 1000000000 < 1000000000 by omega⟩, ?_, hz⟩ (by show db.length - ((t + 1 : Nat) : Int).toNat < db.length - (t : Int).toNat; omega)
      show bv (o.set (k + t) (S % 1000000000)) + pw (k + t + 1) * (S / 1000000000) = bv (da.take k) * bv db + pw k * (da.getD k 0 * bv (db.take (t + 1)))
      rw [hset, hv, hv2]
      omega
    · have htl : t = db.length := by omega
      subst htl
      rw [take_end (Nat.le_refl _)] at q4
      have z := q5 (k + db.length) (Nat.le_refl _)
      rw [z, show IntKind.i64.wrap (0 + c) = c by rw [wr (by omega) (by omega)]; omega, show IntKind.i64.wrap ((k : Int) + 1) = (k : Int) + 1 from wr (by omega) (by omega)]
      refine hag (_, ()) (by omega) ⟨by rw [List.length_set]; exact q1, q2.set q3 _, ?_, fun j hj => ?_⟩
      · show bv (o.set (k + db.length) c) = bv (da.take ((k : Int) + 1).toNat) * bv db
        rw [bv_set c (by omega), z, show ((k : Int) + 1).toNat = k + 1 by omega, bv_take_succ, Int.add_mul, Int.mul_assoc (pw k), ← q4]
        simp
      · have hj : ((k : Int) + 1).toNat + db.length ≤ j := hj
        show (o.set (k + db.length) c).getD j 0 = 0
        rw [getD_set, if_neg (by omega)]
        exact q5 j (by omega)
  · have hk : k = da.length := by omega
    subst hk
    rw [take_end (Nat.le_refl _), va, vb] at o3
    rw [e0, e155, wd_mul, o3]
    have hc : ((x.natAbs : Int) * (y.natAbs : Int) = 0) ↔ x.natAbs * y.natAbs = 0 := by
      rw [← Int.natCast_mul]; omega
    by_cases h : x.natAbs * y.natAbs = 0
    · rw [if_pos (hc.2 h), if_pos h]
    · rw [if_neg (fun q => h (hc.1 q)), if_neg h, ← Int.natCast_mul, Int.toNat_natCast]
      have : -1 ≤ sg x * sg y ∧ sg x * sg y ≤ 1 := by rw [← sg_prod]; exact sg_one _
      rw [wr (by omega) (by omega)]
theorem f146_fn : f146_e.fn = f146 := rfl
theorem f146_ok : EntryOK Tryz.prog 146 f146_e := by
  refine entryF progOK (EnvOK.cons f155_ok (EnvOK.nil)) (A := f146_A) (d := 6) Tryz.func146 rfl rfl rfl rfl (fun h => by cases h) fun x hpre => ?_
  obtain ⟨a0, a1⟩ := x
  exact f146_t a0 a1 hpre _ fun _ h => h.trans (congrFun f146_fn.symm _)
end Go.Proofs.YtglijnhkdnhofaaGreat
end

section
namespace Go.Proofs.YtglijnhkdnhofaaGreat
open Go Go.Pi Go.RowKit
set_option maxRecDepth 100000
set_option linter.unusedVariables false
set_option linter.unusedSimpArgs false

def f162 (x : List Int × List Int) : Int := if bv x.1 < bv x.2 then -1 else if bv x.2 < bv x.1 then 1 else 0
def f162_pre (x : List Int × List Int) : Prop := Cnl x.1 ∧ Cnl x.2
def f162_e : Entry := { doms := [(false, (.sl (.int .i64))), (false, (.sl (.int .i64)))], cods := [(false, (.int .i64))], pre := f162_pre, fn := f162, uq := false, total := false }
def f162_E : Env := []
def f162_A : Anns := { loops := [(1048576, { tms := [(0, .keep), (1, .keep), (5, .data false (.int .i64))], obs := [], fz := [] })], own := [] }
theorem f162_run (a0 : List Int) (a1 : List Int) (K : Int → Prop) : runF Tryz.prog f162_E f162_A 6 Tryz.f162 f162_e.doms f162_e.cods (a0, a1) K =
    (br (lenOk (a0.length))
    (br (lenOk (a1.length))
    (br (((a0.length) : Int) != ((a1.length) : Int))
    (br (lenOk (a0.length))
    (br (lenOk (a1.length))
    (br (decide (((a0.length) : Int) < ((a1.length) : Int)))
    (K (-1))
    (K 1))
    True)
    True)
    (br (lenOk (a0.length))
    (LoopP (V := Int × Unit) (fun again v => (fun (again1 : Int → Prop) (v1_0 : Int) =>
    br (decide (v1_0 ≥ 0))
    (br (decide (0 ≤ v1_0) && decide (v1_0 < ((a0.length) : Int)))
    (br (decide (0 ≤ v1_0) && decide (v1_0 < ((a1.length) : Int)))
    (br (decide ((a0.getD v1_0.toNat 0) < (a1.getD v1_0.toNat 0)))
    (K (-1))
    (br (decide (0 ≤ v1_0) && decide (v1_0 < ((a0.length) : Int)))
    (br (decide (0 ≤ v1_0) && decide (v1_0 < ((a1.length) : Int)))
    (br (decide ((a0.getD v1_0.toNat 0) > (a1.getD v1_0.toNat 0)))
    (K 1)
    (again1 (IntKind.i64.wrap (v1_0 - 1))))
    False)
    False))
    False)
    False)
    (K 0))
    (fun v1_0 => again (v1_0, ())) v.1) ((IntKind.i64.wrap (((a0.length) : Int) - 1)), ()))
    True))
    True)
    True) := by kernel_rfl
theorem f162_t (a0 : List Int) (a1 : List Int) (hpre : f162_pre (a0, a1)) (K : Int → Prop) (hK : ∀ y : Int, y = f162 (a0, a1) → K y) : RunF Tryz.prog f162_E f162_A 6 Tryz.f162 f162_e.doms f162_e.cods (a0, a1) K := by
  refine ⟨?_⟩
  rw [f162_run a0 a1 K]
  obtain ⟨ha, hb⟩ := hpre
  dsimp only at ha hb
  have lt : bv a0 < bv a1 → K (-1) := fun h => hK _ (by show _ = if bv a0 < bv a1 then (-1 : Int) else if bv a1 < bv a0 then 1 else 0; rw [if_pos h])
  have gt : bv a1 < bv a0 → K 1 := fun h => hK _ (by show _ = if bv a0 < bv a1 then (-1 : Int) else if bv a1 < bv a0 then 1 else 0; rw [if_neg (by omega), if_pos h])
  have eq : bv a0 = bv a1 → K 0 := fun h => hK _ (by show _ = if bv a0 < bv a1 then (-1 : Int) else if bv a1 < bv a0 then 1 else 0; rw [if_neg (by omega), if_neg (by omega)])
  refine br_true_.2 fun hlo => br_weak ?_
  have hlo := lenOk_iff.1 hlo
  refine br_two (fun hne => br_weak (br_weak (br_if (fun h => lt (ha.shorter hb (by omega))) fun h => gt (hb.shorter ha ?_)))) fun he => br_weak ?_
  · have := bne_iff_ne.1 hne; omega
  have hl : a0.length = a1.length := by have := bne_f.1 he; omega
  rw [show IntKind.i64.wrap ((a0.length : Int) - 1) = (a0.length : Int) - 1 from wr (by omega) (by omega)]
  refine LoopP.of (fun q : Int × Unit => -1 ≤ q.1 ∧ q.1 < (a0.length : Int) ∧ a0.drop (q.1 + 1).toNat = a1.drop (q.1 + 1).toNat) (fun q => (q.1 + 1).toNat) (fun again q hq hag => ?_) ⟨by simp; omega, by simp; omega, ?_⟩
  rotate_left
  · show a0.drop ((a0.length : Int) - 1 + 1).toNat = a1.drop ((a0.length : Int) - 1 + 1).toNat
    rw [List.drop_of_length_le (by omega), List.drop_of_length_le (by omega)]
  obtain ⟨v, u⟩ := q
  obtain ⟨h0, hn, hz⟩ := hq
  dsimp only at h0 hn hz ⊢
  refine br_if (fun hv => ?_) fun hv => eq ?_
  · obtain ⟨i, rfl⟩ := Int.eq_ofNat_of_zero_le hv
    rw [show ((i : Int) + 1).toNat = i + 1 by omega] at hz
    rw [Int.toNat_natCast]
    have b0 := inb (i := (i : Int)) (n := a0.length) (by omega) hn
    have b1 := inb (i := (i : Int)) (n := a1.length) (by omega) (by omega)
    refine br_must b0 (br_must b1 (br_if (fun h => lt (bv_lt_at ha.dg hb.dg hl (by omega) hz h)) fun h => br_must b0 (br_must b1 (br_if (fun h' => gt (bv_lt_at hb.dg ha.dg hl.symm (by omega) hz.symm h')) fun h' => ?_))))
    rw [wr (by omega) (by omega)]
    refine hag _ ⟨by simp; omega, by simp; omega, ?_⟩ (by show ((i : Int) - 1 + 1).toNat < ((i : Int) + 1).toNat; omega)
    show a0.drop ((i : Int) - 1 + 1).toNat = a1.drop ((i : Int) - 1 + 1).toNat
    rw [show ((i : Int) - 1 + 1).toNat = i by omega]
    exact drop_step hl (by omega) hz (by omega)
  · rw [show (v + 1).toNat = 0 by omega] at hz
    simp only [List.drop_zero] at hz
    rw [hz]
theorem f162_fn : f162_e.fn = f162 := rfl
theorem f162_ok : EntryOK Tryz.prog 162 f162_e := by
  refine entryF progOK (EnvOK.nil) (A := f162_A) (d := 6) Tryz.func162 rfl rfl rfl rfl (fun h => by cases h) fun x hpre => ?_
  obtain ⟨a0, a1⟩ := x
  exact f162_t a0 a1 hpre _ fun _ h => h.trans (congrFun f162_fn.symm _)
end Go.Proofs.YtglijnhkdnhofaaGreat
end

section
namespace Go.Proofs.YtglijnhkdnhofaaGreat
open Go Go.Pi Go.RowKit
set_option maxRecDepth 100000
set_option linter.unusedVariables false
set_option linter.unusedSimpArgs false

def f177 (x : List Int × Int) : Int := x.1.getD x.2.toNat 0
def f177_pre (x : List Int × Int) : Prop := 0 ≤ x.2
def f177_e : Entry := { doms := [(false, (.sl (.int .i64))), (false, (.int .i64))], cods := [(false, (.int .i64))], pre := f177_pre, fn := f177, uq := false, total := false }
def f177_E : Env := []
def f177_A : Anns := { loops := [], own := [] }
theorem f177_run (a0 : List Int) (a1 : Int) (K : Int → Prop) : runF Tryz.prog f177_E f177_A 6 Tryz.f177 f177_e.doms f177_e.cods (a0, a1) K =
    (br (lenOk (a0.length))
    (br (decide (a1 < ((a0.length) : Int)))
    (br (decide (0 ≤ a1) && decide (a1 < ((a0.length) : Int)))
    (K (a0.getD a1.toNat 0))
    False)
    (K 0))
    True) := by kernel_rfl
theorem f177_t (a0 : List Int) (a1 : Int) (hpre : f177_pre (a0, a1)) (K : Int → Prop) (hK : ∀ y : Int, y = f177 (a0, a1) → K y) : RunF Tryz.prog f177_E f177_A 6 Tryz.f177 f177_e.doms f177_e.cods (a0, a1) K := by
  refine ⟨?_⟩
  rw [f177_run a0 a1 K]
  have h0 : 0 ≤ a1 := hpre
  exact br_weak (br_if (fun h => br_must (inb h0 h) (hK _ rfl)) fun h => hK _ (getD_ge (l := a0) (by omega)).symm)
theorem f177_fn : f177_e.fn = f177 := rfl
theorem f177_ok : EntryOK Tryz.prog 177 f177_e := by
  refine entryF progOK (EnvOK.nil) (A := f177_A) (d := 6) Tryz.func177 rfl rfl rfl rfl (fun h => by cases h) fun x hpre => ?_
  obtain ⟨a0, a1⟩ := x
  exact f177_t a0 a1 hpre _ fun _ h => h.trans (congrFun f177_fn.symm _)
end Go.Proofs.YtglijnhkdnhofaaGreat
end
