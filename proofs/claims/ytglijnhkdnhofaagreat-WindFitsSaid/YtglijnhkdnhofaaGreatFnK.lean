/- What functions of the program compute, each proved once, part 11. -/
import Derived.Test.YtglijnhkdnhofaaGreatFnJ
import Derived.Test.YtglijnhkdnhofaaGreatPiD
import Derived.Test.YtglijnhkdnhofaaGreatFnA
import Derived.Test.YtglijnhkdnhofaaGreatFnC

section
namespace Go.Pi
set_option linter.unusedVariables false
def sm (f : Rd → Int) : List Rd → Int
  | [] => 0
  | r :: l => f r + sm f l
theorem sm_app (f : Rd → Int) : ∀ a b : List Rd, sm f (a ++ b) = sm f a + sm f b
  | [], b => by simp [sm]
  | r :: a, b => by rw [List.cons_append, sm, sm, sm_app f a b]; omega
theorem sm_take (f : Rd → Int) {l : List Rd} {i : Nat} (h : i < l.length) : sm f (l.take (i + 1)) = sm f (l.take i) + f (l.getD i rd0) := by
  have e : l.take (i + 1) = l.take i ++ [l.getD i rd0] := by
    rw [List.take_add_one, List.getElem?_eq_getElem h, getD_lt h]; rfl
  rw [e, sm_app]; simp [sm]
theorem sm_congr {f g : Rd → Int} : ∀ {l : List Rd}, (∀ r ∈ l, f r = g r) → sm f l = sm g l
  | [], _ => rfl
  | r :: l, h => by rw [sm, sm, h r (.head _), sm_congr fun s hs => h s (.tail _ hs)]
theorem sm_le {f : Rd → Int} {m : Int} : ∀ {l : List Rd}, (∀ r ∈ l, -m ≤ f r ∧ f r ≤ m) → -(m * l.length) ≤ sm f l ∧ sm f l ≤ m * l.length
  | [], _ => by simp [sm]
  | r :: l, h => by
    have h1 := h r (.head _)
    have h2 := sm_le (l := l) fun s hs => h s (.tail _ hs)
    have e : m * ((r :: l).length : Int) = m * l.length + m := by rw [List.length_cons]; push_cast; grind
    rw [sm]
    omega
theorem sm_nonneg {f : Rd → Int} : ∀ {l : List Rd}, (∀ r ∈ l, 0 ≤ f r) → 0 ≤ sm f l
  | [], _ => by simp [sm]
  | r :: l, h => by
    have h1 := h r (.head _)
    have h2 := sm_nonneg (l := l) fun s hs => h s (.tail _ hs)
    rw [sm]; omega
theorem sm_ge {f : Rd → Int} (h : ∀ r, 0 ≤ f r) : ∀ {l : List Rd} {r : Rd}, r ∈ l → f r ≤ sm f l
  | a :: l, r, hr => by
    rw [sm]
    rcases List.mem_cons.1 hr with rfl | hr
    · have := sm_nonneg (f := f) (l := l) fun s _ => h s
      omega
    · have := sm_ge h hr
      have := h a
      omega
def dx (r : Rd) : Int := r.1.1
def dy (r : Rd) : Int := r.1.2.1
def dz (r : Rd) : Int := r.1.2.2
def mid (r : Rd) : Int := r.2.1 + r.2.2
def sxx := sm fun r => dx r * dx r
def sxy := sm fun r => dx r * dy r
def sxz := sm fun r => dx r * dz r
def syy := sm fun r => dy r * dy r
def syz := sm fun r => dy r * dz r
def szz := sm fun r => dz r * dz r
def svx := sm fun r => dx r * mid r
def svy := sm fun r => dy r * mid r
def svz := sm fun r => dz r * mid r
def svv := sm fun r => mid r * mid r
def gram (l : List Rd) : M3 := ((sxx l, sxy l, sxz l), (sxy l, syy l, syz l), sxz l, syz l, szz l)
def vals (l : List Rd) : V3 := (svx l, svy l, svz l)
def gD (l : List Rd) : Int := det3 (gram l)
def gP (l : List Rd) : V3 := (det3 (c0 (gram l) (vals l)), det3 (c1 (gram l) (vals l)), det3 (c2 (gram l) (vals l)))
def sq (n : Int) : Int := n * n
theorem sq_nonneg (n : Int) : 0 ≤ sq n := by
  unfold sq
  rcases Int.le_total 0 n with h | h
  · exact Int.mul_nonneg h h
  · exact Int.mul_nonneg_of_nonpos_of_nonpos h h
/-- The squares of the products with a vector. -/
def q1 (l : List Rd) (y : V3) : Int := sm (fun r => sq (dot r.1 y)) l
def q1P (g : M3) (y : V3) : Int := dot y (dot g.1 y, dot g.2.1 y, dot g.2.2 y)
theorem q1_eq (y : V3) : ∀ l : List Rd, q1 l y = q1P (gram l) y
  | [] => by simp [q1, sm, q1P, gram, sxx, sxy, sxz, syy, syz, szz, dot]
  | r :: l => by
    have ih := q1_eq y l
    unfold q1 at ih ⊢
    rw [sm, ih]
    simp only [q1P, gram, sxx, sxy, sxz, syy, syz, szz, sm, dot, sq, dx, dy, dz]
    generalize sm _ l = a1
    generalize sm _ l = a2
    generalize sm _ l = a3
    generalize sm _ l = a4
    generalize sm _ l = a5
    generalize sm _ l = a6
    grind
theorem q1_nonneg (l : List Rd) (y : V3) : 0 ≤ q1 l y := sm_nonneg fun r _ => sq_nonneg _
theorem q1_ge {l : List Rd} (y : V3) {r : Rd} (hr : r ∈ l) : sq (dot r.1 y) ≤ q1 l y := sm_ge (fun r => sq_nonneg _) hr
/-- The quadratic form of the cofactors. -/
def q2 (g : M3) (x : V3) : Int := dot x (dot (cross g.2.1 g.2.2) x, dot (cross g.2.2 g.1) x, dot (cross g.1 g.2.1) x)
theorem q2_cons (r : Rd) (l : List Rd) (x : V3) : q2 (gram (r :: l)) x = q2 (gram l) x + q1P (gram l) (cross r.1 x) := by
  obtain ⟨⟨d1, d2, d3⟩, lo, hi⟩ := r
  obtain ⟨x1, x2, x3⟩ := x
  simp only [q2, q1P, gram, sxx, sxy, sxz, syy, syz, szz, sm, dot, cross, dx, dy, dz]
  generalize sm _ l = a1
  generalize sm _ l = a2
  generalize sm _ l = a3
  generalize sm _ l = a4
  generalize sm _ l = a5
  generalize sm _ l = a6
  grind
theorem q3_cons (r : Rd) (l : List Rd) : gD (r :: l) = gD l + q2 (gram l) r.1 := by
  obtain ⟨⟨d1, d2, d3⟩, lo, hi⟩ := r
  simp only [gD, det3, det, q2, gram, sxx, sxy, sxz, syy, syz, szz, sm, dot, cross, dx, dy, dz]
  generalize sm _ l = a1
  generalize sm _ l = a2
  generalize sm _ l = a3
  generalize sm _ l = a4
  generalize sm _ l = a5
  generalize sm _ l = a6
  grind
theorem q2_nonneg (x : V3) : ∀ l : List Rd, 0 ≤ q2 (gram l) x
  | [] => by simp [q2, gram, sxx, sxy, sxz, syy, syz, szz, sm, dot, cross]
  | r :: l => by
    have h1 := q2_nonneg x l
    have h2 := q1_nonneg l (cross r.1 x)
    rw [q1_eq] at h2
    rw [q2_cons]; omega
theorem gD_nonneg : ∀ l : List Rd, 0 ≤ gD l
  | [] => by simp [gD, det3, det, gram, sxx, sxy, sxz, syy, syz, szz, sm, dot, cross]
  | r :: l => by
    have h1 := gD_nonneg l
    have h2 := q2_nonneg r.1 l
    rw [q3_cons]; omega
theorem sq_neg (n : Int) : sq (-n) = sq n := by unfold sq; grind
theorem q2_ge (x : V3) {a b : Rd} : ∀ l : List Rd, a ∈ l → b ∈ l → sq (det a.1 b.1 x) ≤ q2 (gram l) x := by
  intro l
  induction l with
  | nil => intro ha; cases ha
  | cons r l ih =>
    intro ha hb
    rw [q2_cons]
    have h0 := q2_nonneg x l
    have h1 := q1_nonneg l (cross r.1 x)
    rw [q1_eq] at h1
    rcases List.mem_cons.1 ha with ea | ha'
    · rcases List.mem_cons.1 hb with eb | hb'
      · have e : det a.1 b.1 x = 0 := by rw [ea, eb]; exact (det_same _ _).1
        have e2 : sq (det a.1 b.1 x) = 0 := by rw [e]; rfl
        omega
      · have h2 := q1_ge (cross r.1 x) hb'
        rw [q1_eq, ← ea] at h2
        have e : dot b.1 (cross a.1 x) = -det a.1 b.1 x := by simp only [det, dot, cross]; grind
        rw [e, sq_neg] at h2
        rw [← ea]
        omega
    · rcases List.mem_cons.1 hb with eb | hb'
      · have h2 := q1_ge (cross r.1 x) ha'
        rw [q1_eq, ← eb] at h2
        have e : dot a.1 (cross b.1 x) = det a.1 b.1 x := rfl
        rw [e] at h2
        rw [← eb]
        omega
      · have h2 := ih ha' hb'
        omega
theorem gD_ge {a b c : Rd} : ∀ l : List Rd, a ∈ l → b ∈ l → c ∈ l → sq (det a.1 b.1 c.1) ≤ gD l := by
  intro l
  induction l with
  | nil => intro ha; cases ha
  | cons r l ih =>
    intro ha hb hc
    rw [q3_cons]
    have h0 := gD_nonneg l
    have h1 := q2_nonneg r.1 l
    have z : det a.1 b.1 c.1 = 0 → sq (det a.1 b.1 c.1) ≤ gD l + q2 (gram l) r.1 := fun hn => by
      have e : sq (det a.1 b.1 c.1) = 0 := by rw [hn]; rfl
      omega
    obtain ⟨p1, p2, p3, p4, p5⟩ := det_perm a.1 b.1 c.1
    rcases List.mem_cons.1 ha with ea | ha'
    · rcases List.mem_cons.1 hb with eb | hb'
      · exact z (by rw [ea, eb]; exact (det_same _ _).1)
      · rcases List.mem_cons.1 hc with ec | hc'
        · exact z (by rw [ea, ec]; exact (det_same _ _).2.1)
        · have h2 := q2_ge r.1 l hb' hc'
          rw [← ea, p4] at h2
          rw [← ea]
          omega
    · rcases List.mem_cons.1 hb with eb | hb'
      · rcases List.mem_cons.1 hc with ec | hc'
        · exact z (by rw [eb, ec]; exact (det_same _ _).2.2)
        · have h2 := q2_ge r.1 l ha' hc'
          rw [← eb, p2, sq_neg] at h2
          rw [← eb]
          omega
      · rcases List.mem_cons.1 hc with ec | hc'
        · have h2 := q2_ge r.1 l ha' hb'
          rw [← ec] at h2 ⊢
          omega
        · have h2 := ih ha' hb' hc'
          omega
theorem gD_pos {l : List Rd} (h : RdOK l) (h3 : (rkOwn (l.map (·.1))).length = 3) : 0 < gD l := by
  have hd : Dirs (l.map (·.1)) := ⟨fun d hd => by obtain ⟨r, hr, rfl⟩ := List.mem_map.1 hd; exact (h.dir r hr).1, fun d hd => by obtain ⟨r, hr, rfl⟩ := List.mem_map.1 hd; exact (h.dir r hr).2⟩
  have hi := rkOwn_inv hd
  generalize rkOwn (l.map (·.1)) = own at hi h3
  match own, hi, h3 with
  | [a, b, c], ⟨ha, hb, hc, hn⟩, _ =>
    obtain ⟨ra, ma, rfl⟩ := List.mem_map.1 ha
    obtain ⟨rb, mb, rfl⟩ := List.mem_map.1 hb
    obtain ⟨rc, mc, rfl⟩ := List.mem_map.1 hc
    have := gD_ge l ma mb mc
    have h2 : 0 < sq (det ra.1 rb.1 rc.1) := by
      unfold sq
      rcases Int.lt_or_gt_of_ne hn with h | h
      · exact Int.mul_pos_of_neg_of_neg h h
      · exact Int.mul_pos h h
    omega

/-! ### sizes -/
theorem sq_abs_le {n m : Int} (hm : 0 ≤ m) (h : n * n ≤ m * m) : -m ≤ n ∧ n ≤ m := by
  constructor
  · refine Classical.byContradiction fun hn => ?_
    have : (m + 1) * (m + 1) ≤ -n * -n := Int.mul_le_mul (by omega) (by omega) (by omega) (by omega)
    have e1 : (m + 1) * (m + 1) = m * m + 2 * m + 1 := by grind
    have e2 : -n * -n = n * n := by grind
    omega
  · refine Classical.byContradiction fun hn => ?_
    have : (m + 1) * (m + 1) ≤ n * n := Int.mul_le_mul (by omega) (by omega) (by omega) (by omega)
    have e1 : (m + 1) * (m + 1) = m * m + 2 * m + 1 := by grind
    omega
theorem six_le {f : Rd → Int} {l : List Rd} {m : Int} (h : l.length ≤ 6) (hm : 0 ≤ m) (hf : ∀ r ∈ l, -m ≤ f r ∧ f r ≤ m) : -(6 * m) ≤ sm f l ∧ sm f l ≤ 6 * m := by
  have h1 := sm_le hf
  have h2 : m * (l.length : Int) ≤ m * 6 := Int.mul_le_mul_of_nonneg_left (by omega) hm
  omega
structure Sz (l : List Rd) : Prop where
  xx : 0 ≤ sxx l ∧ sxx l ≤ 486
  yy : 0 ≤ syy l ∧ syy l ≤ 486
  zz : 0 ≤ szz l ∧ szz l ≤ 486
  xy : -486 ≤ sxy l ∧ sxy l ≤ 486
  xz : -486 ≤ sxz l ∧ sxz l ≤ 486
  yz : -486 ≤ syz l ∧ syz l ≤ 486
  v : V3.le (vals l) 1080000
  vv : 0 ≤ svv l ∧ svv l ≤ 2400000000
theorem RdOK.mid {l : List Rd} (h : RdOK l) : ∀ r ∈ l, -20000 ≤ mid r ∧ mid r ≤ 20000 := fun r hr => by
  have := h.rng r hr
  unfold Go.Pi.mid
  omega
theorem RdOK.sz {l : List Rd} (h : RdOK l) : Sz l := by
  have ex : ∀ r ∈ l, -9 ≤ dx r ∧ dx r ≤ 9 := fun r hr => (h.dir r hr).1.1
  have ey : ∀ r ∈ l, -9 ≤ dy r ∧ dy r ≤ 9 := fun r hr => (h.dir r hr).1.2.1
  have ez : ∀ r ∈ l, -9 ≤ dz r ∧ dz r ≤ 9 := fun r hr => (h.dir r hr).1.2.2
  have em := h.mid
  have two : ∀ {f g : Rd → Int} {a b : Int}, 0 ≤ a * b → (∀ r ∈ l, -a ≤ f r ∧ f r ≤ a) → (∀ r ∈ l, -b ≤ g r ∧ g r ≤ b) → -(6 * (a * b)) ≤ sm (fun r => f r * g r) l ∧ sm (fun r => f r * g r) l ≤ 6 * (a * b) := fun h0 h1 h2 =>
    six_le h.six h0 fun r hr => mul_le (h1 r hr) (h2 r hr)
  have nn : ∀ f : Rd → Int, 0 ≤ sm (fun r => f r * f r) l := fun f => sm_nonneg fun r _ => sq_nonneg (f r)
  have k1 := two (by decide) ex ex
  have k2 := two (by decide) ey ey
  have k3 := two (by decide) ez ez
  have k4 := two (by decide) em em
  have k5 := two (by decide) ex em
  have k6 := two (by decide) ey em
  have k7 := two (by decide) ez em
  exact ⟨⟨nn dx, by unfold sxx; omega⟩, ⟨nn dy, by unfold syy; omega⟩, ⟨nn dz, by unfold szz; omega⟩, two (by decide) ex ey, two (by decide) ex ez, two (by decide) ey ez, ⟨by unfold vals svx; dsimp only; omega, by unfold vals svy; dsimp only; omega, by unfold vals svz; dsimp only; omega⟩, ⟨nn _, by unfold svv; omega⟩⟩
def cxx (l : List Rd) : Int := syy l * szz l - syz l * syz l
def cyy (l : List Rd) : Int := sxx l * szz l - sxz l * sxz l
def czz (l : List Rd) : Int := sxx l * syy l - sxy l * sxy l
def cxy (l : List Rd) : Int := syz l * sxz l - sxy l * szz l
def cxz (l : List Rd) : Int := sxy l * syz l - syy l * sxz l
def cyz (l : List Rd) : Int := sxy l * sxz l - sxx l * syz l
theorem c_of {l : List Rd} (h : Sz l) : (0 ≤ cxx l ∧ cxx l ≤ 236196) ∧ (0 ≤ cyy l ∧ cyy l ≤ 236196) ∧ 0 ≤ czz l ∧ czz l ≤ 236196 := by
  have e1 : q2 (gram l) (1, 0, 0) = cxx l := by simp [q2, gram, dot, cross, cxx]
  have e2 : q2 (gram l) (0, 1, 0) = cyy l := by simp only [q2, gram, dot, cross, cyy]; grind
  have e3 : q2 (gram l) (0, 0, 1) = czz l := by simp [q2, gram, dot, cross, czz]
  have n1 := q2_nonneg (1, 0, 0) l
  have n2 := q2_nonneg (0, 1, 0) l
  have n3 := q2_nonneg (0, 0, 1) l
  rw [e1] at n1
  rw [e2] at n2
  rw [e3] at n3
  have p1 : syy l * szz l ≤ 486 * 486 := Int.mul_le_mul h.yy.2 h.zz.2 h.zz.1 (by omega)
  have p2 : sxx l * szz l ≤ 486 * 486 := Int.mul_le_mul h.xx.2 h.zz.2 h.zz.1 (by omega)
  have p3 : sxx l * syy l ≤ 486 * 486 := Int.mul_le_mul h.xx.2 h.yy.2 h.yy.1 (by omega)
  have s1 := sq_nonneg (syz l)
  have s2 := sq_nonneg (sxz l)
  have s3 := sq_nonneg (sxy l)
  unfold sq at s1 s2 s3
  unfold cxx cyy czz at *
  omega
theorem gD_c (l : List Rd) : gD l = sxx l * cxx l + sxy l * cxy l + sxz l * cxz l := by simp only [gD, det3, det, gram, dot, cross, cxx, cxy, cxz]
theorem gP_c (l : List Rd) : gP l = (svx l * cxx l + svy l * cxy l + svz l * cxz l, svx l * cxy l + svy l * cyy l + svz l * cyz l, svx l * cxz l + svy l * cyz l + svz l * czz l) := by
  simp only [gP, det3, det, gram, vals, c0, c1, c2, dot, cross, cxx, cxy, cxz, cyy, cyz, czz, Prod.mk.injEq]
  refine ⟨by grind, by grind, by grind⟩
theorem off_le {l : List Rd} (h : Sz l) : (-236196 ≤ cxy l ∧ cxy l ≤ 236196) ∧ (-236196 ≤ cxz l ∧ cxz l ≤ 236196) ∧ -236196 ≤ cyz l ∧ cyz l ≤ 236196 := by
  obtain ⟨k1, k2, k3⟩ := c_of h
  have hD := gD_nonneg l
  have m : ∀ {a b c d s : Int}, (0 ≤ a ∧ a ≤ 236196) → (0 ≤ b ∧ b ≤ 236196) → 0 ≤ s → a * b - c * c = gD l * s → -236196 ≤ c ∧ c ≤ 236196 := fun {a b c d s} ha hb hs e => by
    have h1 : 0 ≤ gD l * s := Int.mul_nonneg hD hs
    have h2 : a * b ≤ 236196 * 236196 := Int.mul_le_mul ha.2 hb.2 hb.1 (by omega)
    exact sq_abs_le (by omega) (by omega)
  refine ⟨m (d := 0) k1 k2 h.zz.1 ?_, m (d := 0) k1 k3 h.yy.1 ?_, m (d := 0) k2 k3 h.xx.1 ?_⟩
  · rw [gD_c]; unfold cxx cyy cxy cxz; grind
  · rw [gD_c]; unfold cxx czz cxz cxy; grind
  · rw [gD_c]; unfold cxx cyy czz cyz cxy cxz; grind
theorem gP_le {l : List Rd} (h : Sz l) : V3.le (gP l) 1000000000000 := by
  obtain ⟨k1, k2, k3⟩ := c_of h
  obtain ⟨k4, k5, k6⟩ := off_le h
  have b1 := h.v.1
  have b2 := h.v.2.1
  have b3 := h.v.2.2
  have w : ∀ {a b : Int}, (-1080000 ≤ a ∧ a ≤ 1080000) → (-236196 ≤ b ∧ b ≤ 236196) → -(1080000 * 236196) ≤ a * b ∧ a * b ≤ 1080000 * 236196 := fun ha hb => mul_le ha hb
  have k1 : -236196 ≤ cxx l ∧ cxx l ≤ 236196 := by omega
  have k2 : -236196 ≤ cyy l ∧ cyy l ≤ 236196 := by omega
  have k3 : -236196 ≤ czz l ∧ czz l ≤ 236196 := by omega
  have a1 := w b1 k1
  have a2 := w b2 k4
  have a3 := w b3 k5
  have a4 := w b1 k4
  have a5 := w b2 k2
  have a6 := w b3 k6
  have a7 := w b1 k5
  have a8 := w b2 k6
  have a9 := w b3 k3
  rw [gP_c]
  unfold vals at *
  dsimp only at *
  exact ⟨by dsimp only; omega, by dsimp only; omega, by dsimp only; omega⟩
theorem gD_le {l : List Rd} (h : Sz l) : gD l ≤ 114791256 := by
  obtain ⟨k1, k2, k3⟩ := c_of h
  have e : gD l = sxx l * cxx l - q1 l (0, -sxz l, sxy l) := by
    rw [gD_c, q1_eq]
    simp only [q1P, gram, dot, cxx, cxy, cxz]; grind
  have n := q1_nonneg l (0, -sxz l, sxy l)
  have p : sxx l * cxx l ≤ 486 * 236196 := Int.mul_le_mul h.xx.2 k1.2 k1.1 (by omega)
  omega

/-! ### the equations -/
/-- Cramer's rule. -/
theorem gP_rows (l : List Rd) : dot (gram l).1 (gP l) = gD l * svx l ∧ dot (gram l).2.1 (gP l) = gD l * svy l ∧ dot (gram l).2.2 (gP l) = gD l * svz l := by
  rw [gP_c, gD_c]
  simp only [gram, dot, cxx, cxy, cxz, cyy, cyz, czz]
  refine ⟨by grind, by grind, by grind⟩
/-- What solves them is that. -/
theorem gP_only {l : List Rd} {p : V3} {q : Int} (h1 : dot (gram l).1 p = q * svx l) (h2 : dot (gram l).2.1 p = q * svy l) (h3 : dot (gram l).2.2 p = q * svz l) :
    gD l * p.1 = q * (gP l).1 ∧ gD l * p.2.1 = q * (gP l).2.1 ∧ gD l * p.2.2 = q * (gP l).2.2 := by
  obtain ⟨p1, p2, p3⟩ := p
  rw [gP_c, gD_c]
  simp only [gram, dot, cxx, cxy, cxz, cyy, cyz, czz] at h1 h2 h3 ⊢
  refine ⟨by grind, by grind, by grind⟩
/-- The sum of squares of a wind. -/
def sumQ (l : List Rd) (w : V3) : Int := sm (fun r => sq (mid r - 2 * dot r.1 w)) l
theorem sumQ_eq (w : V3) : ∀ l : List Rd, sumQ l w = svv l - 4 * dot w (vals l) + 4 * q1P (gram l) w
  | [] => by simp [sumQ, sm, svv, vals, svx, svy, svz, q1P, gram, sxx, sxy, sxz, syy, syz, szz, dot]
  | r :: l => by
    have ih := sumQ_eq w l
    unfold sumQ at ih ⊢
    rw [sm, ih]
    simp only [q1P, gram, vals, svv, svx, svy, svz, sxx, sxy, sxz, syy, syz, szz, sm, dot, sq, dx, dy, dz, mid]
    generalize sm _ l = a1
    generalize sm _ l = a2
    generalize sm _ l = a3
    generalize sm _ l = a4
    generalize sm _ l = a5
    generalize sm _ l = a6
    generalize sm _ l = a7
    generalize sm _ l = a8
    generalize sm _ l = a9
    generalize sm _ l = a10
    grind
/-- 4 times the determinant times the residual. -/
def gR (l : List Rd) : Int := svv l * gD l - dot (vals l) (gP l)
theorem q1_lin (g : M3) (p w : V3) (D : Int) (b : V3) (h1 : dot g.1 p = D * b.1) (h2 : dot g.2.1 p = D * b.2.1) (h3 : dot g.2.2 p = D * b.2.2) (hs : g.1.2.1 = g.2.1.1 ∧ g.1.2.2 = g.2.2.1 ∧ g.2.1.2.2 = g.2.2.2.1) (x : Int) :
    q1P g (x * w.1 - p.1, x * w.2.1 - p.2.1, x * w.2.2 - p.2.2) = x * x * q1P g w - 2 * x * D * dot w b + D * dot b p := by
  obtain ⟨⟨g1, g2, g3⟩, ⟨g4, g5, g6⟩, g7, g8, g9⟩ := g
  obtain ⟨p1, p2, p3⟩ := p
  obtain ⟨w1, w2, w3⟩ := w
  obtain ⟨b1, b2, b3⟩ := b
  simp only [q1P, dot] at *
  obtain ⟨rfl, rfl, rfl⟩ := hs
  grind
theorem gR_le {l : List Rd} (hD : 0 < gD l) (w : V3) : gR l ≤ sumQ l w * gD l := by
  obtain ⟨r1, r2, r3⟩ := gP_rows l
  have e := q1_lin (gram l) (gP l) w (gD l) (vals l) r1 r2 r3 ⟨rfl, rfl, rfl⟩ (2 * gD l)
  have n := q1_nonneg l (2 * gD l * w.1 - (gP l).1, 2 * gD l * w.2.1 - (gP l).2.1, 2 * gD l * w.2.2 - (gP l).2.2)
  rw [q1_eq, e] at n
  refine Int.le_of_mul_le_mul_right (a := gD l) ?_ hD
  rw [sumQ_eq, gR]
  generalize q1P (gram l) w = a at *
  generalize dot w (vals l) = b at *
  generalize dot (vals l) (gP l) = c at *
  generalize svv l = s at *
  generalize gD l = d at *
  have e2 : (s - 4 * b + 4 * a) * d * d - (s * d - c) * d = 2 * d * (2 * d) * a - 2 * (2 * d) * d * b + d * c := by grind
  omega
theorem gR_nonneg {l : List Rd} (hD : 0 < gD l) : 0 ≤ gR l := by
  have key : ∀ m : List Rd, sm (fun r => sq (gD l * mid r - dot r.1 (gP l))) m = gD l * gD l * svv m - 2 * gD l * dot (vals m) (gP l) + q1P (gram m) (gP l) := by
    intro m
    induction m with
    | nil => simp [sm, svv, vals, svx, svy, svz, q1P, gram, sxx, sxy, sxz, syy, syz, szz, dot]
    | cons r m ih =>
      rw [sm, ih]
      generalize gP l = p
      generalize gD l = d
      simp only [q1P, gram, vals, svv, svx, svy, svz, sxx, sxy, sxz, syy, syz, szz, sm, dot, sq, dx, dy, dz, mid]
      generalize sm _ m = a1
      generalize sm _ m = a2
      generalize sm _ m = a3
      generalize sm _ m = a4
      generalize sm _ m = a5
      generalize sm _ m = a6
      generalize sm _ m = a7
      generalize sm _ m = a8
      generalize sm _ m = a9
      generalize sm _ m = a10
      grind
  have n : 0 ≤ sm (fun r => sq (gD l * mid r - dot r.1 (gP l))) l := sm_nonneg fun r _ => sq_nonneg _
  rw [key] at n
  obtain ⟨r1, r2, r3⟩ := gP_rows l
  have e : q1P (gram l) (gP l) = gD l * dot (vals l) (gP l) := by
    unfold q1P
    rw [r1, r2, r3]
    simp only [dot, vals]; grind
  rw [e] at n
  have e2 : gD l * gD l * svv l - 2 * gD l * dot (vals l) (gP l) + gD l * dot (vals l) (gP l) = gD l * gR l := by unfold gR; grind
  rw [e2] at n
  exact Classical.byContradiction fun hh => by
    have : gD l * gR l < 0 := Int.mul_neg_of_pos_of_neg hD (by omega)
    omega

/-! ### as the machine adds -/
theorem wi_al (a b : Int) : IntKind.i64.wrap (IntKind.i64.wrap a + b) = IntKind.i64.wrap (a + b) := by
  obtain ⟨k, h⟩ := wrap_is a
  exact w64_congr ⟨k, by rw [h]; omega⟩
theorem wi_ar (a b : Int) : IntKind.i64.wrap (a + IntKind.i64.wrap b) = IntKind.i64.wrap (a + b) := by
  obtain ⟨k, h⟩ := wrap_is b
  exact w64_congr ⟨k, by rw [h]; omega⟩
theorem wi_sl (a b : Int) : IntKind.i64.wrap (IntKind.i64.wrap a - b) = IntKind.i64.wrap (a - b) := by
  obtain ⟨k, h⟩ := wrap_is a
  exact w64_congr ⟨k, by rw [h]; omega⟩
theorem wi_sr (a b : Int) : IntKind.i64.wrap (a - IntKind.i64.wrap b) = IntKind.i64.wrap (a - b) := by
  obtain ⟨k, h⟩ := wrap_is b
  exact w64_congr ⟨-k, by rw [h]; omega⟩
theorem wi_ml (a b : Int) : IntKind.i64.wrap (IntKind.i64.wrap a * b) = IntKind.i64.wrap (a * b) := by
  obtain ⟨k, h⟩ := wrap_is a
  exact w64_congr ⟨k * b, by rw [h]; grind⟩
theorem wi_mr (a b : Int) : IntKind.i64.wrap (a * IntKind.i64.wrap b) = IntKind.i64.wrap (a * b) := by
  obtain ⟨k, h⟩ := wrap_is b
  exact w64_congr ⟨k * a, by rw [h]; grind⟩
theorem wi_w (a : Int) : IntKind.i64.wrap (IntKind.i64.wrap a) = IntKind.i64.wrap a := by
  obtain ⟨k, h⟩ := wrap_is a
  exact w64_congr ⟨k, h⟩
theorem sm_step (f : Rd → Int) {l : List Rd} {k : Nat} (h : k < l.length) {n : Int} (hn : n = f (l.getD k rd0)) : IntKind.i64.wrap (w64 (sm f (l.take k)) + n) = w64 (sm f (l.take (k + 1))) := by
  rw [sm_take f h, hn]
  exact wi_al _ _
/-- Errors of readings that are to be of the rank 3. -/
def openE (l : List Rd) : Int := if (rdOf l).2 ≠ 0 then (rdOf l).2 else if (rkOwn (l.map (·.1))).length = 3 then 0 else 19
theorem openE_zero {l : List Rd} (h : openE l = 0) : (rdOf l).2 = 0 ∧ (rkOwn (l.map (·.1))).length = 3 := by
  unfold openE at h
  by_cases h1 : (rdOf l).2 = 0
  · rw [if_neg (fun hh => hh h1)] at h
    by_cases h2 : (rkOwn (l.map (·.1))).length = 3
    · exact ⟨h1, h2⟩
    · rw [if_neg h2] at h; cases h
  · rw [if_pos h1] at h; exact absurd h h1
theorem openE_of {l : List Rd} (h1 : (rdOf l).2 = 0) (h2 : (rkOwn (l.map (·.1))).length = 3) : openE l = 0 := by
  unfold openE; rw [if_neg (fun hh => hh h1), if_pos h2]
def fitW (l : List Rd) : WV × Int := if openE l ≠ 0 then ((0, 0, 0, 0), openE l) else (lowV (gP l) (2 * gD l), 0)
def ckS (f : Rd → Int) (v : WV) (l : List Rd) : Int := sm (fun r => f r * (mid r * v.2.2.2 - 2 * dot (wpt v) r.1)) l
def ckW (l : List Rd) (v : WV) : Int × Int := if openE l ≠ 0 then (0, openE l) else if windE v ≠ 0 then (0, windE v) else
  if w64 (ckS dx v l) ≠ 0 then (0, 17) else if w64 (ckS dy v l) ≠ 0 then (1, 17) else if w64 (ckS dz v l) ≠ 0 then (2, 17) else (0, 0)
def resW (l : List Rd) : (Int × Int) × Int := if openE l ≠ 0 then ((0, 0), openE l) else if (low (gR l) (4 * gD l)).1 > 1000000000 ∨ (low (gR l) (4 * gD l)).2 > 1000000000 then ((0, 0), 8) else (low (gR l) (4 * gD l), 0)
theorem Sz.fitG {l : List Rd} (h : Sz l) : (Fit (sxx l) ∧ Fit (sxy l) ∧ Fit (sxz l) ∧ Fit (syy l) ∧ Fit (syz l) ∧ Fit (szz l)) ∧ Fit (svx l) ∧ Fit (svy l) ∧ Fit (svz l) ∧ Fit (svv l) := by
  have h1 := h.v.1
  have h2 := h.v.2.1
  have h3 := h.v.2.2
  unfold vals at h1 h2 h3
  dsimp only at h1 h2 h3
  exact ⟨⟨fit_le (b := 486) ⟨by have := h.xx; omega, h.xx.2⟩ (by omega), fit_le h.xy (by omega), fit_le h.xz (by omega), fit_le (b := 486) ⟨by have := h.yy; omega, h.yy.2⟩ (by omega), fit_le h.yz (by omega), fit_le (b := 486) ⟨by have := h.zz; omega, h.zz.2⟩ (by omega)⟩, fit_le h1 (by omega), fit_le h2 (by omega), fit_le h3 (by omega), fit_le (b := 2400000000) ⟨by have := h.vv; omega, h.vv.2⟩ (by omega)⟩
theorem gR_sz {l : List Rd} (h : Sz l) (hD : 0 < gD l) : 0 ≤ gR l ∧ gR l ≤ 275499014400000000 := by
  have h1 := gR_le hD (0, 0, 0)
  have e : sumQ l (0, 0, 0) = svv l := by
    unfold sumQ svv
    refine sm_congr fun r _ => ?_
    simp [dot, sq]
  rw [e] at h1
  have h2 := gD_le h
  have h3 : svv l * gD l ≤ 2400000000 * 114791256 := Int.mul_le_mul h.vv.2 h2 (by omega) (by omega)
  exact ⟨gR_nonneg hD, by omega⟩
theorem ck_x (v : WV) : ∀ l : List Rd, ckS dx v l = v.2.2.2 * svx l - 2 * dot (gram l).1 (wpt v)
  | [] => by simp [ckS, sm, svx, gram, sxx, sxy, sxz, dot]
  | r :: l => by
    have ih := ck_x v l
    unfold ckS at ih ⊢
    rw [sm, ih]
    simp only [gram, svx, sxx, sxy, sxz, sm, dot, wpt, dx, dy, dz]
    generalize sm _ l = a1
    generalize sm _ l = a2
    generalize sm _ l = a3
    generalize sm _ l = a4
    grind
theorem ck_y (v : WV) : ∀ l : List Rd, ckS dy v l = v.2.2.2 * svy l - 2 * dot (gram l).2.1 (wpt v)
  | [] => by simp [ckS, sm, svy, gram, sxy, syy, syz, dot]
  | r :: l => by
    have ih := ck_y v l
    unfold ckS at ih ⊢
    rw [sm, ih]
    simp only [gram, svy, sxy, syy, syz, sm, dot, wpt, dx, dy, dz]
    generalize sm _ l = a1
    generalize sm _ l = a2
    generalize sm _ l = a3
    generalize sm _ l = a4
    grind
theorem ck_z (v : WV) : ∀ l : List Rd, ckS dz v l = v.2.2.2 * svz l - 2 * dot (gram l).2.2 (wpt v)
  | [] => by simp [ckS, sm, svz, gram, sxz, syz, szz, dot]
  | r :: l => by
    have ih := ck_z v l
    unfold ckS at ih ⊢
    rw [sm, ih]
    simp only [gram, svz, sxz, syz, szz, sm, dot, wpt, dx, dy, dz]
    generalize sm _ l = a1
    generalize sm _ l = a2
    generalize sm _ l = a3
    generalize sm _ l = a4
    grind
/-- The fit solves the equations. -/
theorem fit_solves {l : List Rd} (hD : 0 < gD l) {v : WV} (hv : v = lowV (gP l) (2 * gD l)) : ckS dx v l = 0 ∧ ckS dy v l = 0 ∧ ckS dz v l = 0 := by
  obtain ⟨r1, r2, r3⟩ := gP_rows l
  obtain ⟨m1, m2, m3⟩ := lowV_mul (gP l) (2 * gD l) (by omega)
  rw [← hv] at m1 m2 m3
  rw [ck_x, ck_y, ck_z]
  have key : ∀ (g : V3) (b : Int), dot g (gP l) = gD l * b → v.2.2.2 * b - 2 * dot g (wpt v) = 0 := fun g b h => by
    have e : dot g (gP l) * v.2.2.2 = dot g (wpt v) * (2 * gD l) := dot_par (w := gP l) (p := wpt v) m1 m2 m3
    rw [h] at e
    have e2 : (v.2.2.2 * b - 2 * dot g (wpt v)) * gD l = 0 := by grind
    exact (Int.mul_eq_zero.1 e2).resolve_right (by omega)
  exact ⟨key _ _ r1, key _ _ r2, key _ _ r3⟩
theorem fit_only {l : List Rd} (hD : 0 < gD l) {v : WV} (hv : WOK v) (h1 : ckS dx v l = 0) (h2 : ckS dy v l = 0) (h3 : ckS dz v l = 0) : v = lowV (gP l) (2 * gD l) := by
  rw [ck_x] at h1
  rw [ck_y] at h2
  rw [ck_z] at h3
  have dd : ∀ g : V3, dot g (2 * v.1, 2 * v.2.1, 2 * v.2.2.1) = 2 * dot g (wpt v) := fun g => by simp only [dot, wpt]; grind
  obtain ⟨p1, p2, p3⟩ := gP_only (l := l) (p := (2 * v.1, 2 * v.2.1, 2 * v.2.2.1)) (q := v.2.2.2) (by rw [dd]; omega) (by rw [dd]; omega) (by rw [dd]; omega)
  obtain ⟨m1, m2, m3⟩ := lowV_mul (gP l) (2 * gD l) (by omega)
  have hF := lowV_ok (p := gP l) (d := 2 * gD l) (by omega)
  generalize lowV (gP l) (2 * gD l) = F at *
  dsimp only at p1 p2 p3
  have key : ∀ {x P y : Int}, gD l * (2 * x) = v.2.2.2 * P → P * F.2.2.2 = y * (2 * gD l) → x * F.2.2.2 = y * v.2.2.2 := fun {x P y} e1 e2 => by
    refine Int.eq_of_mul_eq_mul_right (show gD l ≠ 0 by omega) ?_
    grind
  exact hv.eq hF (key p1 m1) (key p2 m2) (key p3 m3)
theorem ck_size {l : List Rd} (h : RdOK l) {v : WV} (hw : windE v = 0) : ∀ f : Rd → Int, (∀ r ∈ l, -9 ≤ f r ∧ f r ≤ 9) → w64 (ckS f v l) = ckS f v l := fun f hf => by
  obtain ⟨w1, w2, w3⟩ := windE_zero hw
  have := six_le (f := fun r => f r * (mid r * v.2.2.2 - 2 * dot (wpt v) r.1)) (m := 9 * 74000000000000) h.six (by decide) fun r hr => by
    have a1 := mul_le (h.mid r hr) (show -1000000000 ≤ v.2.2.2 ∧ v.2.2.2 ≤ 1000000000 by omega)
    have a2 := dot_le w2 (h.dir r hr).1
    exact mul_le (hf r hr) (by omega)
  exact w64_in (by unfold ckS; omega) (by unfold ckS; omega)
/-- The check of a fit. -/
theorem ckW_is {l : List Rd} (h : openE l = 0) {v : WV} (hw : windE v = 0) : (ckW l v).2 = 0 ↔ v = (fitW l).1 := by
  obtain ⟨h1, h3⟩ := openE_zero h
  have rok := rdOf_ok h1
  have hD := gD_pos rok h3
  have ef : (fitW l).1 = lowV (gP l) (2 * gD l) := by unfold fitW; rw [if_neg (fun hh => hh h)]
  obtain ⟨w1, w2, w3⟩ := windE_zero hw
  have ex := ck_size rok hw dx fun r hr => (rok.dir r hr).1.1
  have ey := ck_size rok hw dy fun r hr => (rok.dir r hr).1.2.1
  have ez := ck_size rok hw dz fun r hr => (rok.dir r hr).1.2.2
  unfold ckW
  rw [if_neg (fun hh => hh h), if_neg (fun hh => hh hw), ex, ey, ez, ef]
  constructor
  · intro hc
    by_cases c1 : ckS dx v l ≠ 0
    · rw [if_pos c1] at hc; cases hc
    · by_cases c2 : ckS dy v l ≠ 0
      · rw [if_neg c1, if_pos c2] at hc; cases hc
      · by_cases c3 : ckS dz v l ≠ 0
        · rw [if_neg c1, if_neg c2, if_pos c3] at hc; cases hc
        · exact fit_only hD ⟨by omega, w3⟩ (by omega) (by omega) (by omega)
  · intro hv
    obtain ⟨k1, k2, k3⟩ := fit_solves hD hv
    rw [if_neg (by omega), if_neg (by omega), if_neg (by omega)]
theorem ckW_zero {l : List Rd} {v : WV} (h : (ckW l v).2 = 0) : (ckW l v).1 = 0 := by
  unfold ckW at h ⊢
  by_cases c0 : openE l ≠ 0
  · rw [if_pos c0]
  · by_cases c1 : windE v ≠ 0
    · rw [if_neg c0, if_pos c1]
    · rw [if_neg c0, if_neg c1] at h ⊢
      by_cases c2 : w64 (ckS dx v l) ≠ 0
      · rw [if_pos c2]
      · rw [if_neg c2] at h ⊢
        by_cases c3 : w64 (ckS dy v l) ≠ 0
        · rw [if_pos c3] at h; cases h
        · rw [if_neg c3] at h ⊢
          by_cases c4 : w64 (ckS dz v l) ≠ 0
          · rw [if_pos c4] at h; cases h
          · rw [if_neg c4]
/-- The fit is a wind. -/
theorem fit_wind {l : List Rd} (h : openE l = 0) : windE (fitW l).1 = 0 := by
  obtain ⟨h1, h3⟩ := openE_zero h
  have rok := rdOf_ok h1
  have hD := gD_pos rok h3
  have ef : (fitW l).1 = lowV (gP l) (2 * gD l) := by unfold fitW; rw [if_neg (fun hh => hh h)]
  rw [ef]
  have hF := lowV_ok (p := gP l) (d := 2 * gD l) (by omega)
  have hl := lowV_le (D := 229582512) (gP_le rok.sz) (d := 2 * gD l) (by have := gD_le rok.sz; omega)
  exact windE_of ⟨hF.den, by omega⟩ hl.1 hF.low

/-! ### exact readings -/
def exactL (l : List Rd) (w : V3) : List Rd := l.map fun r => (r.1, dot r.1 w, dot r.1 w)
theorem sm_map (f : Rd → Int) (g : Rd → Rd) : ∀ l : List Rd, sm f (l.map g) = sm (fun r => f (g r)) l
  | [] => rfl
  | r :: l => by rw [List.map_cons, sm, sm, sm_map f g l]
theorem exact_gram (l : List Rd) (w : V3) : gram (exactL l w) = gram l := by
  unfold gram sxx sxy sxz syy syz szz exactL
  simp only [sm_map]
  rfl
theorem exact_D (l : List Rd) (w : V3) : gD (exactL l w) = gD l := by unfold gD; rw [exact_gram]
theorem exact_vals (w : V3) : ∀ l : List Rd, vals (exactL l w) = (2 * dot (gram l).1 w, 2 * dot (gram l).2.1 w, 2 * dot (gram l).2.2 w)
  | [] => by simp [vals, svx, svy, svz, exactL, sm, gram, sxx, sxy, sxz, syy, syz, szz, dot]
  | r :: l => by
    have ih := exact_vals w l
    unfold vals at ih ⊢
    simp only [Prod.mk.injEq] at ih ⊢
    obtain ⟨i1, i2, i3⟩ := ih
    have e : exactL (r :: l) w = (r.1, dot r.1 w, dot r.1 w) :: exactL l w := rfl
    rw [e]
    simp only [svx, svy, svz] at i1 i2 i3 ⊢
    rw [sm, sm, sm, i1, i2, i3]
    simp only [gram, sxx, sxy, sxz, syy, syz, szz, sm, dot, mid, dx, dy, dz]
    generalize sm _ l = a1
    generalize sm _ l = a2
    generalize sm _ l = a3
    generalize sm _ l = a4
    generalize sm _ l = a5
    generalize sm _ l = a6
    refine ⟨by grind, by grind, by grind⟩
theorem exact_vv (w : V3) : ∀ l : List Rd, svv (exactL l w) = 4 * q1P (gram l) w := fun l => by
  rw [← q1_eq]
  induction l with
  | nil => rfl
  | cons r l ih =>
    have e : exactL (r :: l) w = (r.1, dot r.1 w, dot r.1 w) :: exactL l w := rfl
    rw [e]
    unfold svv q1 at ih ⊢
    rw [sm, sm, ih]
    simp only [mid, sq]
    grind
theorem exact_P {l : List Rd} (hD : 0 < gD l) (w : V3) : gP (exactL l w) = (2 * gD l * w.1, 2 * gD l * w.2.1, 2 * gD l * w.2.2) := by
  have ev := exact_vals w l
  have e1 : svx (exactL l w) = 2 * dot (gram l).1 w := by have := congrArg (·.1) ev; exact this
  have e2 : svy (exactL l w) = 2 * dot (gram l).2.1 w := by have := congrArg (·.2.1) ev; exact this
  have e3 : svz (exactL l w) = 2 * dot (gram l).2.2 w := by have := congrArg (·.2.2) ev; exact this
  have dd : ∀ g : V3, dot g (2 * w.1, 2 * w.2.1, 2 * w.2.2) = 2 * dot g w := fun g => by simp only [dot]; grind
  obtain ⟨p1, p2, p3⟩ := gP_only (l := exactL l w) (p := (2 * w.1, 2 * w.2.1, 2 * w.2.2)) (q := 1) (by rw [exact_gram, dd, e1]; omega) (by rw [exact_gram, dd, e2]; omega) (by rw [exact_gram, dd, e3]; omega)
  rw [exact_D] at p1 p2 p3
  generalize gP (exactL l w) = P at *
  obtain ⟨x, y, z⟩ := P
  dsimp only at p1 p2 p3
  rw [Prod.mk.injEq, Prod.mk.injEq]
  exact ⟨by grind, by grind, by grind⟩
theorem exact_fit {l : List Rd} (hD : 0 < gD l) (w : V3) : lowV (gP (exactL l w)) (2 * gD (exactL l w)) = (w.1, w.2.1, w.2.2, 1) := by
  rw [exact_P hD, exact_D]
  obtain ⟨m1, m2, m3⟩ := lowV_mul (2 * gD l * w.1, 2 * gD l * w.2.1, 2 * gD l * w.2.2) (2 * gD l) (by omega)
  have hF := lowV_ok (p := (2 * gD l * w.1, 2 * gD l * w.2.1, 2 * gD l * w.2.2)) (d := 2 * gD l) (by omega)
  generalize lowV (2 * gD l * w.1, 2 * gD l * w.2.1, 2 * gD l * w.2.2) (2 * gD l) = F at *
  dsimp only at m1 m2 m3
  have hw : WOK (w.1, w.2.1, w.2.2, 1) := ⟨Int.zero_lt_one, by rw [gcdL_four]; exact Nat.gcd_one_left _⟩
  have key : ∀ {x y : Int}, 2 * gD l * x * F.2.2.2 = y * (2 * gD l) → y * 1 = x * F.2.2.2 := fun {x y} e => by
    refine Int.eq_of_mul_eq_mul_right (show 2 * gD l ≠ 0 by omega) ?_
    grind
  exact hF.eq hw (key m1) (key m2) (key m3)
theorem exact_R {l : List Rd} (hD : 0 < gD l) (w : V3) : gR (exactL l w) = 0 := by
  unfold gR
  rw [exact_P hD, exact_D, exact_vv, exact_vals]
  simp only [q1P, dot]
  grind
theorem low_zero {d : Int} (h : 0 < d) : low 0 d = (0, 1) := by
  unfold low
  rw [if_neg (by omega)]
  have e : ((Nat.gcd (0 : Int).natAbs d.natAbs : Nat) : Int) = d := by
    rw [Int.natAbs_zero, Nat.gcd_zero_left]; omega
  rw [e, Int.zero_tdiv, Int.tdiv_self (by omega)]
theorem exact_ok {l : List Rd} (h : RdOK l) {w : V3} (hw : V3.le w 300) : rdOf (exactL l w) = (0, 0) ∧ (exactL l w).map (·.1) = l.map (·.1) := by
  constructor
  · refine rdOf_none (by unfold exactL; rw [List.length_map]; exact h.pos) (by unfold exactL; rw [List.length_map]; exact h.six) fun r hr => ?_
    obtain ⟨s, hs, rfl⟩ := List.mem_map.1 hr
    have hd := h.dir s hs
    have hn := dot_le hd.1 hw
    unfold rdE dirE rngE
    rw [if_neg, if_neg, if_pos (Int.le_refl _)]
    · dsimp only; omega
    · rw [if_neg (fun hh => hh hd.1), if_neg hd.2]; exact fun hh => hh rfl
  · unfold exactL; rw [List.map_map]; rfl
/-- Four times the residual is at most the sum of squares times 4. -/
theorem res_le {l : List Rd} (hD : 0 < gD l) (w : V3) : 0 ≤ (low (gR l) (4 * gD l)).1 ∧ 4 * (low (gR l) (4 * gD l)).1 ≤ sumQ l w * (low (gR l) (4 * gD l)).2 := by
  have hm := low_mul (n := gR l) (d := 4 * gD l) (by omega)
  have hp := (low_pos (n := gR l) (d := 4 * gD l) (by omega)).1
  have h1 := gR_le hD w
  have h0 := gR_nonneg hD
  generalize low (gR l) (4 * gD l) = f at *
  constructor
  · refine Classical.byContradiction fun hh => ?_
    have k1 : f.1 * (4 * gD l) < 0 := Int.mul_neg_of_neg_of_pos (by omega) (by omega)
    have k2 : 0 ≤ gR l * f.2 := Int.mul_nonneg h0 (by omega)
    omega
  · refine Int.le_of_mul_le_mul_right (a := gD l) ?_ hD
    have e1 : 4 * f.1 * gD l = f.1 * (4 * gD l) := by grind
    have k2 : gR l * f.2 ≤ sumQ l w * gD l * f.2 := Int.mul_le_mul_of_nonneg_right h1 (by omega)
    have e2 : sumQ l w * f.2 * gD l = sumQ l w * gD l * f.2 := by grind
    omega
theorem sumQ_le {l : List Rd} (h : RdOK l) {w : V3} (hw : V3.le w 300) : 0 ≤ sumQ l w ∧ sumQ l w ≤ 7862640000 := by
  constructor
  · exact sm_nonneg fun r _ => sq_nonneg _
  · have := six_le (f := fun r => sq (mid r - 2 * dot r.1 w)) (m := 36200 * 36200) h.six (by decide) fun r hr => by
      have a1 := h.mid r hr
      have a2 := dot_le (h.dir r hr).1 hw
      exact mul_le (by omega) (by omega)
    unfold sumQ
    omega
end Go.Pi
end

section
namespace Go.Proofs.YtglijnhkdnhofaaGreat
open Go Go.Pi Go.RowKit
set_option maxRecDepth 100000
set_option linter.unusedVariables false
set_option linter.unusedSimpArgs false

def f58 (l : List ((Int × Int × Int) × Int × Int)) : List ((Int × Int × Int) × Int × Int) × Int := (l, openE l)
def f58_e : Entry := { doms := [(false, (.sl (.pair (.pair (.int .i64) (.pair (.int .i64) (.int .i64))) (.pair (.int .i64) (.int .i64)))))], cods := [(false, (.sl (.pair (.pair (.int .i64) (.pair (.int .i64) (.int .i64))) (.pair (.int .i64) (.int .i64))))), (false, (.int .i64))], pre := fun _ => True, fn := f58, uq := false, total := true }
def f58_E : Env := [(60, f60_e), (63, f63_e)]
def f58_A : Anns := { loops := [], own := [] }
theorem f58_run (a0 : List ((Int × Int × Int) × Int × Int)) (K : (List ((Int × Int × Int) × Int × Int) × Int) → Prop) : runF Tryz.prog f58_E f58_A 6 Tryz.f58 f58_e.doms f58_e.cods a0 K =
    (br ((f60 a0).2 == 0)
    (K ((f60 a0).1, (f63 ((f60 a0).1))))
    (K (f60 a0))) := by kernel_rfl
theorem f58_t (a0 : List ((Int × Int × Int) × Int × Int)) (K : (List ((Int × Int × Int) × Int × Int) × Int) → Prop) (hK : ∀ y : List ((Int × Int × Int) × Int × Int) × Int, y = f58 a0 → K y) : RunF Tryz.prog f58_E f58_A 6 Tryz.f58 f58_e.doms f58_e.cods a0 K := by
  refine ⟨?_⟩
  rw [f58_run a0 K]
  have e0 : f58 a0 = (a0, openE a0) := rfl
  have e71 : f60 a0 = (a0, (rdOf a0).2) := rfl
  have e127 : f63 a0 = if (rkOwn (a0.map (·.1))).length = 3 then 0 else 19 := rfl
  rw [e71]
  dsimp only
  refine br_two (fun h => hK _ ?_) fun h => hK _ ?_
  · have h : (rdOf a0).2 = 0 := beq_iff_eq.1 h
    rw [e0, e127, openE, if_neg (show ¬ (rdOf a0).2 ≠ 0 from fun hh => hh h)]
  · have h : (rdOf a0).2 ≠ 0 := fun hh => by rw [hh] at h; cases h
    rw [e0, openE, if_pos h]
theorem f58_fn : f58_e.fn = f58 := rfl
theorem f58_ok : EntryOK Tryz.prog 58 f58_e := by
  refine entryF progOK (EnvOK.cons f60_ok (EnvOK.cons f63_ok (EnvOK.nil))) (A := f58_A) (d := 6) Tryz.func58 rfl rfl rfl rfl (fun _ _ => trivial) fun x hpre => ?_
  exact f58_t x _ fun _ h => h.trans (congrFun f58_fn.symm _)
end Go.Proofs.YtglijnhkdnhofaaGreat
end

section
namespace Go.Proofs.YtglijnhkdnhofaaGreat
open Go Go.Pi Go.RowKit
set_option maxRecDepth 100000
set_option linter.unusedVariables false
set_option linter.unusedSimpArgs false

def gw (l : List Rd) : Int × Int × Int × Int × Int × Int × Int × Int × Int × Int × Int × Int × Unit :=
  (w64 (sxx l), w64 (sxy l), w64 (sxz l), w64 (sxy l), w64 (syy l), w64 (syz l), w64 (sxz l), w64 (syz l), w64 (szz l), w64 (svx l), w64 (svy l), w64 (svz l), ())
def f107 (l : List ((Int × Int × Int) × Int × Int)) : ((Int × Int × Int) × (Int × Int × Int) × Int × Int × Int) × Int × Int × Int :=
  (((w64 (sxx l), w64 (sxy l), w64 (sxz l)), (w64 (sxy l), w64 (syy l), w64 (syz l)), w64 (sxz l), w64 (syz l), w64 (szz l)), w64 (svx l), w64 (svy l), w64 (svz l))
def f107_e : Entry := { doms := [(false, (.sl (.pair (.pair (.int .i64) (.pair (.int .i64) (.int .i64))) (.pair (.int .i64) (.int .i64)))))], cods := [(true, (.pair (.pair (.pair (.int .i64) (.pair (.int .i64) (.int .i64))) (.pair (.pair (.int .i64) (.pair (.int .i64) (.int .i64))) (.pair (.int .i64) (.pair (.int .i64) (.int .i64))))) (.pair (.int .i64) (.pair (.int .i64) (.int .i64)))))], pre := fun _ => True, fn := f107, uq := false, total := true }
def f107_E : Env := []
def f107_A : Anns := { loops := [(1048576, { tms := [(2, .keep), (3, .keep), (9, .keep), (10, .keep), (11, .data false (.int .i64))], obs := [(1048576, .keep), (1049600, .cells [.data (.int .i64), .data (.int .i64), .data (.int .i64), .data (.int .i64), .data (.int .i64), .data (.int .i64), .data (.int .i64), .data (.int .i64), .data (.int .i64), .data (.int .i64), .data (.int .i64), .data (.int .i64)])], fz := [] })], own := [], unroll := 4 }
theorem f107_run (a0 : List ((Int × Int × Int) × Int × Int)) (K : (((Int × Int × Int) × (Int × Int × Int) × Int × Int × Int) × Int × Int × Int) → Prop) : runF Tryz.prog f107_E f107_A 6 Tryz.f107 f107_e.doms f107_e.cods a0 K =
    (br (lenOk (a0.length))
    (LoopP (V := Int × Int × Int × Int × Int × Int × Int × Int × Int × Int × Int × Int × Int × Unit) (fun again v => (fun (again1 : Int → Int → Int → Int → Int → Int → Int → Int → Int → Int → Int → Int → Int → Prop) (v1_0 : Int) (v1_1 : Int) (v1_2 : Int) (v1_3 : Int) (v1_4 : Int) (v1_5 : Int) (v1_6 : Int) (v1_7 : Int) (v1_8 : Int) (v1_9 : Int) (v1_10 : Int) (v1_11 : Int) (v1_12 : Int) =>
    br (decide (v1_0 < ((a0.length) : Int)))
    (br (decide (0 ≤ v1_0) && decide (v1_0 < ((a0.length) : Int)))
    (again1 (IntKind.i64.wrap (v1_0 + 1)) (IntKind.i64.wrap (v1_1 + (IntKind.i64.wrap (((a0.getD v1_0.toNat ((0, (0, 0)), (0, 0))).1).1 * ((a0.getD v1_0.toNat ((0, (0, 0)), (0, 0))).1).1)))) (IntKind.i64.wrap (v1_2 + (IntKind.i64.wrap (((a0.getD v1_0.toNat ((0, (0, 0)), (0, 0))).1).1 * (((a0.getD v1_0.toNat ((0, (0, 0)), (0, 0))).1).2).1)))) (IntKind.i64.wrap (v1_3 + (IntKind.i64.wrap (((a0.getD v1_0.toNat ((0, (0, 0)), (0, 0))).1).1 * (((a0.getD v1_0.toNat ((0, (0, 0)), (0, 0))).1).2).2)))) (IntKind.i64.wrap (v1_4 + (IntKind.i64.wrap ((((a0.getD v1_0.toNat ((0, (0, 0)), (0, 0))).1).2).1 * ((a0.getD v1_0.toNat ((0, (0, 0)), (0, 0))).1).1)))) (IntKind.i64.wrap (v1_5 + (IntKind.i64.wrap ((((a0.getD v1_0.toNat ((0, (0, 0)), (0, 0))).1).2).1 * (((a0.getD v1_0.toNat ((0, (0, 0)), (0, 0))).1).2).1)))) (IntKind.i64.wrap (v1_6 + (IntKind.i64.wrap ((((a0.getD v1_0.toNat ((0, (0, 0)), (0, 0))).1).2).1 * (((a0.getD v1_0.toNat ((0, (0, 0)), (0, 0))).1).2).2)))) (IntKind.i64.wrap (v1_7 + (IntKind.i64.wrap ((((a0.getD v1_0.toNat ((0, (0, 0)), (0, 0))).1).2).2 * ((a0.getD v1_0.toNat ((0, (0, 0)), (0, 0))).1).1)))) (IntKind.i64.wrap (v1_8 + (IntKind.i64.wrap ((((a0.getD v1_0.toNat ((0, (0, 0)), (0, 0))).1).2).2 * (((a0.getD v1_0.toNat ((0, (0, 0)), (0, 0))).1).2).1)))) (IntKind.i64.wrap (v1_9 + (IntKind.i64.wrap ((((a0.getD v1_0.toNat ((0, (0, 0)), (0, 0))).1).2).2 * (((a0.getD v1_0.toNat ((0, (0, 0)), (0, 0))).1).2).2)))) (IntKind.i64.wrap (v1_10 + (IntKind.i64.wrap (((a0.getD v1_0.toNat ((0, (0, 0)), (0, 0))).1).1 * (IntKind.i64.wrap (((a0.getD v1_0.toNat ((0, (0, 0)), (0, 0))).2).1 + ((a0.getD v1_0.toNat ((0, (0, 0)), (0, 0))).2).2)))))) (IntKind.i64.wrap (v1_11 + (IntKind.i64.wrap ((((a0.getD v1_0.toNat ((0, (0, 0)), (0, 0))).1).2).1 * (IntKind.i64.wrap (((a0.getD v1_0.toNat ((0, (0, 0)), (0, 0))).2).1 + ((a0.getD v1_0.toNat ((0, (0, 0)), (0, 0))).2).2)))))) (IntKind.i64.wrap (v1_12 + (IntKind.i64.wrap ((((a0.getD v1_0.toNat ((0, (0, 0)), (0, 0))).1).2).2 * (IntKind.i64.wrap (((a0.getD v1_0.toNat ((0, (0, 0)), (0, 0))).2).1 + ((a0.getD v1_0.toNat ((0, (0, 0)), (0, 0))).2).2)))))))
    False)
    (K (((v1_1, (v1_2, v1_3)), ((v1_4, (v1_5, v1_6)), (v1_7, (v1_8, v1_9)))), (v1_10, (v1_11, v1_12)))))
    (fun v1_0 v1_1 v1_2 v1_3 v1_4 v1_5 v1_6 v1_7 v1_8 v1_9 v1_10 v1_11 v1_12 => again (v1_0, v1_1, v1_2, v1_3, v1_4, v1_5, v1_6, v1_7, v1_8, v1_9, v1_10, v1_11, v1_12, ())) v.1 v.2.1 v.2.2.1 v.2.2.2.1 v.2.2.2.2.1 v.2.2.2.2.2.1 v.2.2.2.2.2.2.1 v.2.2.2.2.2.2.2.1 v.2.2.2.2.2.2.2.2.1 v.2.2.2.2.2.2.2.2.2.1 v.2.2.2.2.2.2.2.2.2.2.1 v.2.2.2.2.2.2.2.2.2.2.2.1 v.2.2.2.2.2.2.2.2.2.2.2.2.1) (0, 0, 0, 0, 0, 0, 0, 0, 0, 0, 0, 0, 0, ()))
    True) := by kernel_rfl
theorem f107_t (a0 : List ((Int × Int × Int) × Int × Int)) (K : (((Int × Int × Int) × (Int × Int × Int) × Int × Int × Int) × Int × Int × Int) → Prop) (hK : ∀ y : ((Int × Int × Int) × (Int × Int × Int) × Int × Int × Int) × Int × Int × Int, y = f107 a0 → K y) : RunF Tryz.prog f107_E f107_A 6 Tryz.f107 f107_e.doms f107_e.cods a0 K := by
  refine ⟨?_⟩
  rw [f107_run a0 K]
  have e0 : f107 a0 = (((w64 (sxx a0), w64 (sxy a0), w64 (sxz a0)), (w64 (sxy a0), w64 (syy a0), w64 (syz a0)), w64 (sxz a0), w64 (syz a0), w64 (szz a0)), w64 (svx a0), w64 (svy a0), w64 (svz a0)) := rfl
  refine br_true_.2 fun hlen => ?_
  have hlen := lenOk_iff.1 hlen
  refine (LoopP.up (a0.length : Int) (fun i v => v = gw (a0.take i.toNat)) (fun again i v hi0 hin hI hag => ?_) (by omega) rfl)
  subst hI
  obtain ⟨k, rfl⟩ := Int.eq_ofNat_of_zero_le hi0
  rw [Int.toNat_natCast]
  dsimp only [gw]
  refine br_if (fun hlt => br_must (inb (by omega) (by omega)) ?_) fun hge => hK _ ?_
  · have hk : k < a0.length := by omega
    have hh := hag _ hlt rfl
    rw [show ((k : Int) + 1).toNat = k + 1 by omega] at hh
    rw [wr (n := (k : Int) + 1) (by omega) (by omega)]
    simp only [wi_ar, wi_mr]
    have c0 : IntKind.i64.wrap (w64 (sxx (a0.take k)) + (a0.getD k ((0, 0, 0), 0, 0)).1.1 * (a0.getD k ((0, 0, 0), 0, 0)).1.1) = w64 (sxx (a0.take (k + 1))) := sm_step (fun r => dx r * dx r) hk rfl
    have c1 : IntKind.i64.wrap (w64 (sxy (a0.take k)) + (a0.getD k ((0, 0, 0), 0, 0)).1.1 * (a0.getD k ((0, 0, 0), 0, 0)).1.2.1) = w64 (sxy (a0.take (k + 1))) := sm_step (fun r => dx r * dy r) hk rfl
    have c2 : IntKind.i64.wrap (w64 (sxz (a0.take k)) + (a0.getD k ((0, 0, 0), 0, 0)).1.1 * (a0.getD k ((0, 0, 0), 0, 0)).1.2.2) = w64 (sxz (a0.take (k + 1))) := sm_step (fun r => dx r * dz r) hk rfl
    have c3 : IntKind.i64.wrap (w64 (sxy (a0.take k)) + (a0.getD k ((0, 0, 0), 0, 0)).1.2.1 * (a0.getD k ((0, 0, 0), 0, 0)).1.1) = w64 (sxy (a0.take (k + 1))) := sm_step (fun r => dx r * dy r) hk (Int.mul_comm _ _)
    have c4 : IntKind.i64.wrap (w64 (syy (a0.take k)) + (a0.getD k ((0, 0, 0), 0, 0)).1.2.1 * (a0.getD k ((0, 0, 0), 0, 0)).1.2.1) = w64 (syy (a0.take (k + 1))) := sm_step (fun r => dy r * dy r) hk rfl
    have c5 : IntKind.i64.wrap (w64 (syz (a0.take k)) + (a0.getD k ((0, 0, 0), 0, 0)).1.2.1 * (a0.getD k ((0, 0, 0), 0, 0)).1.2.2) = w64 (syz (a0.take (k + 1))) := sm_step (fun r => dy r * dz r) hk rfl
    have c6 : IntKind.i64.wrap (w64 (sxz (a0.take k)) + (a0.getD k ((0, 0, 0), 0, 0)).1.2.2 * (a0.getD k ((0, 0, 0), 0, 0)).1.1) = w64 (sxz (a0.take (k + 1))) := sm_step (fun r => dx r * dz r) hk (Int.mul_comm _ _)
    have c7 : IntKind.i64.wrap (w64 (syz (a0.take k)) + (a0.getD k ((0, 0, 0), 0, 0)).1.2.2 * (a0.getD k ((0, 0, 0), 0, 0)).1.2.1) = w64 (syz (a0.take (k + 1))) := sm_step (fun r => dy r * dz r) hk (Int.mul_comm _ _)
    have c8 : IntKind.i64.wrap (w64 (szz (a0.take k)) + (a0.getD k ((0, 0, 0), 0, 0)).1.2.2 * (a0.getD k ((0, 0, 0), 0, 0)).1.2.2) = w64 (szz (a0.take (k + 1))) := sm_step (fun r => dz r * dz r) hk rfl
    have e1 : IntKind.i64.wrap (w64 (svx (a0.take k)) + (a0.getD k ((0, 0, 0), 0, 0)).1.1 * ((a0.getD k ((0, 0, 0), 0, 0)).2.1 + (a0.getD k ((0, 0, 0), 0, 0)).2.2)) = w64 (svx (a0.take (k + 1))) := sm_step (fun r => dx r * mid r) hk rfl
    have e2 : IntKind.i64.wrap (w64 (svy (a0.take k)) + (a0.getD k ((0, 0, 0), 0, 0)).1.2.1 * ((a0.getD k ((0, 0, 0), 0, 0)).2.1 + (a0.getD k ((0, 0, 0), 0, 0)).2.2)) = w64 (svy (a0.take (k + 1))) := sm_step (fun r => dy r * mid r) hk rfl
    have e3 : IntKind.i64.wrap (w64 (svz (a0.take k)) + (a0.getD k ((0, 0, 0), 0, 0)).1.2.2 * ((a0.getD k ((0, 0, 0), 0, 0)).2.1 + (a0.getD k ((0, 0, 0), 0, 0)).2.2)) = w64 (svz (a0.take (k + 1))) := sm_step (fun r => dz r * mid r) hk rfl
    rw [c0, c1, c2, c3, c4, c5, c6, c7, c8, e1, e2, e3]
    exact hh
  · have : k = a0.length := by omega
    subst this
    rw [e0, List.take_of_length_le (Nat.le_refl _)]
theorem f107_fn : f107_e.fn = f107 := rfl
theorem f107_ok : EntryOK Tryz.prog 107 f107_e := by
  refine entryF progOK (EnvOK.nil) (A := f107_A) (d := 6) Tryz.func107 rfl rfl rfl rfl (fun _ _ => trivial) fun x hpre => ?_
  exact f107_t x _ fun _ h => h.trans (congrFun f107_fn.symm _)
theorem gram_ok {l : List Rd} (h : RdOK l) : f107 l = (gram l, vals l) := by
  obtain ⟨⟨k1, k2, k3, k4, k5, k6⟩, k7, k8, k9, _⟩ := h.sz.fitG
  unfold f107 gram vals
  rw [w64_fit k1, w64_fit k2, w64_fit k3, w64_fit k4, w64_fit k5, w64_fit k6, w64_fit k7, w64_fit k8, w64_fit k9]
end Go.Proofs.YtglijnhkdnhofaaGreat
end

section
namespace Go.Proofs.YtglijnhkdnhofaaGreat
open Go Go.Pi Go.RowKit
set_option maxRecDepth 100000
set_option linter.unusedVariables false
set_option linter.unusedSimpArgs false

def f48 (l : List ((Int × Int × Int) × Int × Int)) : (Int × Int × Int × Int) × Int := fitW l
def f48_e : Entry := { doms := [(false, (.sl (.pair (.pair (.int .i64) (.pair (.int .i64) (.int .i64))) (.pair (.int .i64) (.int .i64)))))], cods := [(true, (.pair (.int .i64) (.pair (.int .i64) (.pair (.int .i64) (.int .i64))))), (false, (.int .i64))], pre := fun _ => True, fn := f48, uq := false, total := true }
def f48_E : Env := [(58, f58_e), (107, f107_e), (108, f108_e)]
def f48_A : Anns := { loops := [], own := [] }
theorem f48_run (a0 : List ((Int × Int × Int) × Int × Int)) (K : ((Int × Int × Int × Int) × Int) → Prop) : runF Tryz.prog f48_E f48_A 6 Tryz.f48 f48_e.doms f48_e.cods a0 K =
    (br ((f58 a0).2 != 0)
    (K ((0, (0, (0, 0))), (f58 a0).2))
    (f108_pre (((((((f107 ((f58 a0).1)).1).1).1, ((((f107 ((f58 a0).1)).1).1).2)), ((((((f107 ((f58 a0).1)).1).2).1).1, (((((f107 ((f58 a0).1)).1).2).1).2)), (((((f107 ((f58 a0).1)).1).2).2).1, (((((f107 ((f58 a0).1)).1).2).2).2)))), (((f107 ((f58 a0).1)).2).1, (((f107 ((f58 a0).1)).2).2))), 2) ∧
    K (((f108 (((((((f107 ((f58 a0).1)).1).1).1, ((((f107 ((f58 a0).1)).1).1).2)), ((((((f107 ((f58 a0).1)).1).2).1).1, (((((f107 ((f58 a0).1)).1).2).1).2)), (((((f107 ((f58 a0).1)).1).2).2).1, (((((f107 ((f58 a0).1)).1).2).2).2)))), (((f107 ((f58 a0).1)).2).1, (((f107 ((f58 a0).1)).2).2))), 2)).1, (((f108 (((((((f107 ((f58 a0).1)).1).1).1, ((((f107 ((f58 a0).1)).1).1).2)), ((((((f107 ((f58 a0).1)).1).2).1).1, (((((f107 ((f58 a0).1)).1).2).1).2)), (((((f107 ((f58 a0).1)).1).2).2).1, (((((f107 ((f58 a0).1)).1).2).2).2)))), (((f107 ((f58 a0).1)).2).1, (((f107 ((f58 a0).1)).2).2))), 2)).2).1, (((f108 (((((((f107 ((f58 a0).1)).1).1).1, ((((f107 ((f58 a0).1)).1).1).2)), ((((((f107 ((f58 a0).1)).1).2).1).1, (((((f107 ((f58 a0).1)).1).2).1).2)), (((((f107 ((f58 a0).1)).1).2).2).1, (((((f107 ((f58 a0).1)).1).2).2).2)))), (((f107 ((f58 a0).1)).2).1, (((f107 ((f58 a0).1)).2).2))), 2)).2).2))), 0))) := by kernel_rfl
theorem f48_t (a0 : List ((Int × Int × Int) × Int × Int)) (K : ((Int × Int × Int × Int) × Int) → Prop) (hK : ∀ y : (Int × Int × Int × Int) × Int, y = f48 a0 → K y) : RunF Tryz.prog f48_E f48_A 6 Tryz.f48 f48_e.doms f48_e.cods a0 K := by
  refine ⟨?_⟩
  rw [f48_run a0 K]
  have e0 : f48 a0 = fitW a0 := rfl
  have e95 : f58 a0 = (a0, openE a0) := rfl
  rw [e95]
  dsimp only
  refine br_two (fun h => hK _ ?_) fun h => ?_
  · rw [e0, fitW, if_pos (bne_iff_ne.1 h)]
  · have h : openE a0 = 0 := bne_f.1 h
    obtain ⟨h1, h3⟩ := openE_zero h
    have rok := rdOf_ok h1
    have hD := gD_pos rok h3
    have hDl := gD_le rok.sz
    have hP := gP_le rok.sz
    rw [gram_ok rok]
    have eD : solD (gram a0, vals a0) 2 = 2 * gD a0 := by
      show w64 (2 * w64 (gD a0)) = _
      rw [w64_in (n := gD a0) (by omega) (by omega), w64_in (by omega) (by omega)]
    have eP : solP (gram a0, vals a0) = gP a0 := by
      show (w64 (gP a0).1, w64 (gP a0).2.1, w64 (gP a0).2.2) = _
      rw [w64_fit (fit_le hP.1 (by omega)), w64_fit (fit_le hP.2.1 (by omega)), w64_fit (fit_le hP.2.2 (by omega))]
    have e101 : f108 ((gram a0, vals a0), 2) = lowV (solP (gram a0, vals a0)) (solD (gram a0, vals a0) 2) := rfl
    rw [eD, eP] at e101
    have p101 : f108_pre ((gram a0, vals a0), 2) := by
      unfold f108_pre
      dsimp only
      rw [eD, eP]
      exact ⟨⟨by omega, by omega⟩, ⟨fit_le hP.1 (by omega), fit_le hP.2.1 (by omega), fit_le hP.2.2 (by omega)⟩, by omega⟩
    refine ⟨p101, hK _ ?_⟩
    show (f108 ((gram a0, vals a0), 2), 0) = _
    rw [e101, e0, fitW, if_neg (fun hh => hh h)]
theorem f48_fn : f48_e.fn = f48 := rfl
theorem f48_ok : EntryOK Tryz.prog 48 f48_e := by
  refine entryF progOK (EnvOK.cons f58_ok (EnvOK.cons f107_ok (EnvOK.cons f108_ok (EnvOK.nil)))) (A := f48_A) (d := 6) Tryz.func48 rfl rfl rfl rfl (fun _ _ => trivial) fun x hpre => ?_
  exact f48_t x _ fun _ h => h.trans (congrFun f48_fn.symm _)
end Go.Proofs.YtglijnhkdnhofaaGreat
end
