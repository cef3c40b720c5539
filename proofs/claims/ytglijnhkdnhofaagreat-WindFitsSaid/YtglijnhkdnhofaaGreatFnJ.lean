/- What functions of the program compute, each proved once, part 10. -/
import Derived.Test.YtglijnhkdnhofaaGreatPiD
import Derived.Test.YtglijnhkdnhofaaGreatFnA
import Derived.Test.YtglijnhkdnhofaaGreatFnI
import Derived.Test.YtglijnhkdnhofaaGreatFnC

section
namespace Go.Proofs.YtglijnhkdnhofaaGreat
open Go Go.Pi Go.RowKit
set_option maxRecDepth 100000
set_option linter.unusedVariables false
set_option linter.unusedSimpArgs false

def f138 (n : Int) : Int := minmax true n (IntKind.i64.wrap (0 - n))
def f138_e : Entry := { doms := [(false, (.int .i64))], cods := [(false, (.int .i64))], pre := fun _ => True, fn := f138, uq := false, total := true }
def f138_E : Env := []
def f138_A : Anns := { loops := [], own := [] }
theorem f138_run (a0 : Int) (K : Int → Prop) : runF Tryz.prog f138_E f138_A 6 Tryz.f138 f138_e.doms f138_e.cods a0 K =
    (K (minmax true a0 (IntKind.i64.wrap (0 - a0)))) := by kernel_rfl
theorem f138_t (a0 : Int) (K : Int → Prop) (hK : ∀ y : Int, y = f138 a0 → K y) : RunF Tryz.prog f138_E f138_A 6 Tryz.f138 f138_e.doms f138_e.cods a0 K := by
  refine ⟨?_⟩
  rw [f138_run a0 K]
  exact hK _ rfl
theorem f138_fn : f138_e.fn = f138 := rfl
theorem f138_ok : EntryOK Tryz.prog 138 f138_e := by
  refine entryF progOK (EnvOK.nil) (A := f138_A) (d := 6) Tryz.func138 rfl rfl rfl rfl (fun _ _ => trivial) fun x hpre => ?_
  exact f138_t x _ fun _ h => h.trans (congrFun f138_fn.symm _)
end Go.Proofs.YtglijnhkdnhofaaGreat
end

section
namespace Go.Proofs.YtglijnhkdnhofaaGreat
open Go Go.Pi Go.RowKit
set_option maxRecDepth 100000
set_option linter.unusedVariables false
set_option linter.unusedSimpArgs false

def f94 (x : Int × Int) : Int := (Nat.gcd x.1.natAbs x.2.natAbs : Int)
def f94_pre (x : Int × Int) : Prop := Fit x.1 ∧ Fit x.2
def f94_e : Entry := { doms := [(false, (.int .i64)), (false, (.int .i64))], cods := [(false, (.int .i64))], pre := f94_pre, fn := f94, uq := false, total := false }
def f94_E : Env := [(138, f138_e)]
def f94_A : Anns := { loops := [(1048576, { tms := [(0, .data false (.int .i64)), (1, .data false (.int .i64))], obs := [], fz := [] })], own := [] }
theorem f94_run (a0 : Int) (a1 : Int) (K : Int → Prop) : runF Tryz.prog f94_E f94_A 6 Tryz.f94 f94_e.doms f94_e.cods (a0, a1) K =
    (LoopP (V := Int × Int × Unit) (fun again v => (fun (again1 : Int → Int → Prop) (v1_0 : Int) (v1_1 : Int) =>
    br (v1_1 != 0)
    (br (!(decide (v1_1 = 0)))
    (again1 v1_1 (v1_0.tmod v1_1))
    False)
    (K (f138 v1_0)))
    (fun v1_0 v1_1 => again (v1_0, v1_1, ())) v.1 v.2.1) (a0, a1, ())) := by kernel_rfl
theorem f94_t (a0 : Int) (a1 : Int) (hpre : f94_pre (a0, a1)) (K : Int → Prop) (hK : ∀ y : Int, y = f94 (a0, a1) → K y) : RunF Tryz.prog f94_E f94_A 6 Tryz.f94 f94_e.doms f94_e.cods (a0, a1) K := by
  refine ⟨?_⟩
  rw [f94_run a0 a1 K]
  obtain ⟨h1, h2⟩ := hpre
  refine LoopP.of (fun q : Int × Int × Unit => Fit q.1 ∧ Fit q.2.1 ∧ Nat.gcd q.1.natAbs q.2.1.natAbs = Nat.gcd a0.natAbs a1.natAbs) (fun q => q.2.1.natAbs) (fun again q hq hag => ?_) ⟨h1, h2, rfl⟩
  obtain ⟨a, b, u⟩ := q
  obtain ⟨qf1, qf2, hg⟩ := hq
  dsimp only at qf1 qf2 hg ⊢
  refine br_two (fun hb => ?_) fun hb => ?_
  · have hb := bne_t.1 hb
    exact br_must (ne_zero_b hb) (hag (b, a.tmod b, ()) ⟨qf2, tmod_fit qf1 hb, (gcd_step a b hb).trans hg⟩ (tmod_lt hb))
  · have hb := bne_f.1 hb
    subst hb
    refine hK _ ?_
    simp only [f138, f94, minmax_abs qf1, ← hg]
    simp
theorem f94_fn : f94_e.fn = f94 := rfl
theorem f94_ok : EntryOK Tryz.prog 94 f94_e := by
  refine entryF progOK (EnvOK.cons f138_ok (EnvOK.nil)) (A := f94_A) (d := 6) Tryz.func94 rfl rfl rfl rfl (fun h => by cases h) fun x hpre => ?_
  obtain ⟨a0, a1⟩ := x
  exact f94_t a0 a1 hpre _ fun _ h => h.trans (congrFun f94_fn.symm _)
end Go.Proofs.YtglijnhkdnhofaaGreat
end

section
namespace Go.Proofs.YtglijnhkdnhofaaGreat
open Go Go.Pi Go.RowKit
set_option maxRecDepth 100000
set_option linter.unusedVariables false
set_option linter.unusedSimpArgs false

def f31 (v : Int × Int × Int × Int) : Int := windE v
def f31_e : Entry := { doms := [(true, (.pair (.int .i64) (.pair (.int .i64) (.pair (.int .i64) (.int .i64)))))], cods := [(false, (.int .i64))], pre := fun _ => True, fn := f31, uq := false, total := true }
def f31_E : Env := [(91, f91_e), (94, f94_e)]
def f31_A : Anns := { loops := [], own := [] }
theorem f31_run (a0 : Int × Int × Int × Int) (K : Int → Prop) : runF Tryz.prog f31_E f31_A 6 Tryz.f31 f31_e.doms f31_e.cods a0 K =
    (br (!(f91 (a0.2.2.2, (1, 1000000000))))
    (K 2)
    (br (!(f91 (a0.1, ((-1000000000000), 1000000000000))))
    (K 2)
    (br (!(f91 (a0.2.1, ((-1000000000000), 1000000000000))))
    (K 2)
    (br (!(f91 (a0.2.2.1, ((-1000000000000), 1000000000000))))
    (K 2)
    (f94_pre (a0.2.1, a0.2.2.1) ∧
    f94_pre (a0.1, (f94 (a0.2.1, a0.2.2.1))) ∧
    f94_pre (a0.2.2.2, (f94 (a0.1, (f94 (a0.2.1, a0.2.2.1))))) ∧
    br ((f94 (a0.2.2.2, (f94 (a0.1, (f94 (a0.2.1, a0.2.2.1)))))) != 1)
    (K 3)
    (K 0)))))) := by kernel_rfl
theorem f31_t (a0 : Int × Int × Int × Int) (K : Int → Prop) (hK : ∀ y : Int, y = f31 a0 → K y) : RunF Tryz.prog f31_E f31_A 6 Tryz.f31 f31_e.doms f31_e.cods a0 K := by
  refine ⟨?_⟩
  rw [f31_run a0 K]
  have e : ∀ a b c : Int, f91 (a, b, c) = decide (b ≤ a ∧ a ≤ c) := fun a b c => by simp [f91]
  simp only [e]
  refine br_two (fun h1 => hK _ ?_) fun h1 => br_two (fun h2 => hK _ ?_) fun h2 => br_two (fun h3 => hK _ ?_) fun h3 => br_two (fun h4 => hK _ ?_) fun h4 => ?_
  · rw [f31, windE, if_pos (fun h => nd_t.1 h1 h.1)]
  · rw [f31, windE, if_pos (fun h => nd_t.1 h2 h.2.1)]
  · rw [f31, windE, if_pos (fun h => nd_t.1 h3 h.2.2.1)]
  · rw [f31, windE, if_pos (fun h => nd_t.1 h4 h.2.2.2)]
  · have h1 := nd_f.1 h1
    have h2 := nd_f.1 h2
    have h3 := nd_f.1 h3
    have h4 := nd_f.1 h4
    have q1 : Fit a0.1 := fit_le h2 (by omega)
    have q2 : Fit a0.2.1 := fit_le h3 (by omega)
    have q3 : Fit a0.2.2.1 := fit_le h4 (by omega)
    have q4 : Fit a0.2.2.2 := ⟨by omega, by omega⟩
    have g1 := gcd_fit (fit_abs q2) (fit_abs q3)
    have g2 := gcd_fit (fit_abs q1) g1
    have hg : f94 (a0.2.2.2, f94 (a0.1, f94 (a0.2.1, a0.2.2.1))) = (gcdL [a0.2.2.2, a0.1, a0.2.1, a0.2.2.1] : Int) := by
      rw [gcdL_four]; simp only [f94, Int.natAbs_natCast]
    rw [hg]
    refine ⟨⟨q2, q3⟩, ⟨q1, fit_nat g1⟩, ⟨q4, ?_⟩, br_two (fun h => hK _ ?_) fun h => hK _ ?_⟩
    · have := fit_nat g2
      simpa only [f94, Int.natAbs_natCast] using this
    · have h := bne_t.1 h
      rw [f31, windE, if_neg (fun h => h ⟨h1, h2, h3, h4⟩), if_neg (by omega)]
    · have h := bne_f.1 h
      rw [f31, windE, if_neg (fun h => h ⟨h1, h2, h3, h4⟩), if_pos (by omega)]
theorem f31_fn : f31_e.fn = f31 := rfl
theorem f31_ok : EntryOK Tryz.prog 31 f31_e := by
  refine entryF progOK (EnvOK.cons f91_ok (EnvOK.cons f94_ok (EnvOK.nil))) (A := f31_A) (d := 6) Tryz.func31 rfl rfl rfl rfl (fun _ _ => trivial) fun x hpre => ?_
  exact f31_t x _ fun _ h => h.trans (congrFun f31_fn.symm _)
end Go.Proofs.YtglijnhkdnhofaaGreat
end

section
namespace Go.Pi
set_option linter.unusedVariables false
def agQ (l : List Rd) (p : V3) (q : Int) : Prop := ∀ r ∈ l, r.2.1 * q ≤ dot r.1 p ∧ dot r.1 p ≤ r.2.2 * q
def tight (r : Rd) (p : V3) (q : Int) : Prop := dot r.1 p = r.2.1 * q ∨ dot r.1 p = r.2.2 * q
/-- How far a reading lets a point go along u, times its speed. -/
def slack (p : V3) (q : Int) (u : V3) (r : Rd) : Int := if dot r.1 u > 0 then r.2.2 * q - dot r.1 p else dot r.1 p - r.2.1 * q
def speed (u : V3) (r : Rd) : Int := if dot r.1 u > 0 then dot r.1 u else -dot r.1 u
theorem speed_pos {u : V3} {r : Rd} (h : dot r.1 u ≠ 0) : 0 < speed u r := by unfold speed; split <;> omega
/-- The first that is reached. -/
theorem first_reached (n m : Rd → Int) : ∀ l : List Rd, (∃ r ∈ l, 0 < m r) → ∃ r ∈ l, 0 < m r ∧ ∀ s ∈ l, 0 < m s → n r * m s ≤ n s * m r
  | [], ⟨r, hr, _⟩ => by cases hr
  | a :: l, h => by
    by_cases hl : ∃ r ∈ l, 0 < m r
    · obtain ⟨r, hr, hm, hb⟩ := first_reached n m l hl
      by_cases ha : 0 < m a
      · rcases Int.le_total (n a * m r) (n r * m a) with hc | hc
        · refine ⟨a, .head _, ha, fun s hs hms => ?_⟩
          rcases List.mem_cons.1 hs with rfl | hs
          · exact Int.le_refl _
          · exact q_le ha hm hms hc (hb s hs hms)
        · refine ⟨r, .tail _ hr, hm, fun s hs hms => ?_⟩
          rcases List.mem_cons.1 hs with rfl | hs
          · exact hc
          · exact hb s hs hms
      · refine ⟨r, .tail _ hr, hm, fun s hs hms => ?_⟩
        rcases List.mem_cons.1 hs with rfl | hs
        · exact absurd hms ha
        · exact hb s hs hms
    · obtain ⟨r, hr, hm⟩ := h
      rcases List.mem_cons.1 hr with rfl | hr
      · refine ⟨r, .head _, hm, fun s hs hms => ?_⟩
        rcases List.mem_cons.1 hs with rfl | hs
        · exact Int.le_refl _
        · exact absurd ⟨s, hs, hms⟩ hl
      · exact absurd ⟨r, hr, hm⟩ hl
theorem dot_add (d p u : V3) (m n : Int) : dot d (m * p.1 + n * u.1, m * p.2.1 + n * u.2.1, m * p.2.2 + n * u.2.2) = m * dot d p + n * dot d u := by simp only [dot]; grind
/-- Along u as far as can be. -/
theorem move {l : List Rd} {p c u : V3} {q : Int} (hq : 0 < q) (ha : agQ l p q) (hc : dot c u ≤ 0) (hu : ∃ r ∈ l, dot r.1 u ≠ 0) :
    ∃ p' q', 0 < q' ∧ agQ l p' q' ∧ dot c p' * q ≤ dot c p * q' ∧ (∀ d, dot d u = 0 → dot d p' * q = dot d p * q') ∧ ∃ r ∈ l, dot r.1 u ≠ 0 ∧ tight r p' q' := by
  have hm : ∃ r ∈ l, 0 < speed u r := by obtain ⟨r, hr, h⟩ := hu; exact ⟨r, hr, speed_pos h⟩
  obtain ⟨r0, hr0, hm0, hmin⟩ := first_reached (slack p q u) (speed u) l hm
  have hn0 : 0 ≤ slack p q u r0 := by
    have := ha r0 hr0
    unfold slack
    split <;> omega
  obtain ⟨m, em⟩ : ∃ m, m = speed u r0 := ⟨_, rfl⟩
  obtain ⟨n, en⟩ : ∃ n, n = slack p q u r0 := ⟨_, rfl⟩
  rw [← em] at hm0
  rw [← en] at hn0
  have hd := fun d => dot_add d p u m n
  refine ⟨(m * p.1 + n * u.1, m * p.2.1 + n * u.2.1, m * p.2.2 + n * u.2.2), m * q, Int.mul_pos hm0 hq, fun r hr => ?_, ?_, fun d h0 => ?_, r0, hr0, ?_, ?_⟩
  · rw [hd]
    obtain ⟨a1, a2⟩ := ha r hr
    have b1 : m * (r.2.1 * q) ≤ m * dot r.1 p := Int.mul_le_mul_of_nonneg_left a1 (by omega)
    have b2 : m * dot r.1 p ≤ m * (r.2.2 * q) := Int.mul_le_mul_of_nonneg_left a2 (by omega)
    have e1 : r.2.1 * (m * q) = m * (r.2.1 * q) := by grind
    have e2 : r.2.2 * (m * q) = m * (r.2.2 * q) := by grind
    rw [e1, e2]
    rcases Int.lt_trichotomy (dot r.1 u) 0 with hs | hs | hs
    · have h1 := hmin r hr (speed_pos (by omega))
      rw [← em, ← en] at h1
      unfold speed slack at h1
      rw [if_neg (by omega), if_neg (by omega)] at h1
      have h2 : n * dot r.1 u ≤ 0 := Int.mul_nonpos_of_nonneg_of_nonpos hn0 (by omega)
      have h3 : (dot r.1 p - r.2.1 * q) * m = m * dot r.1 p - m * (r.2.1 * q) := by grind
      have h4 : n * -dot r.1 u = -(n * dot r.1 u) := by grind
      omega
    · rw [hs, Int.mul_zero]; omega
    · have h1 := hmin r hr (speed_pos (by omega))
      rw [← em, ← en] at h1
      unfold speed slack at h1
      rw [if_pos hs, if_pos hs] at h1
      have h2 : 0 ≤ n * dot r.1 u := Int.mul_nonneg hn0 (by omega)
      have h3 : (r.2.2 * q - dot r.1 p) * m = m * (r.2.2 * q) - m * dot r.1 p := by grind
      omega
  · rw [hd]
    have h1 : n * dot c u ≤ 0 := Int.mul_nonpos_of_nonneg_of_nonpos hn0 hc
    have h2 : n * dot c u * q ≤ 0 := Int.mul_nonpos_of_nonpos_of_nonneg h1 (by omega)
    have e : (m * dot c p + n * dot c u) * q = dot c p * (m * q) + n * dot c u * q := by grind
    omega
  · rw [hd, h0]; grind
  · intro hz
    unfold speed at em
    rw [hz] at em
    simp at em
    omega
  · unfold tight
    rw [hd]
    by_cases hs : dot r0.1 u > 0
    · unfold speed at em
      unfold slack at en
      rw [if_pos hs] at em en
      right
      rw [em, en]; grind
    · unfold speed at em
      unfold slack at en
      rw [if_neg hs] at em en
      left
      rw [em, en]; grind
/-- Directions of the rank 3 leave nothing free. -/
theorem full_dir {l : List Rd} (h : RdOK l) (h3 : (rkOwn (l.map (·.1))).length = 3) {u : V3} (hu : u ≠ z3) : ∃ r ∈ l, dot r.1 u ≠ 0 := by
  have hd : Dirs (l.map (·.1)) := ⟨fun d hd => by obtain ⟨r, hr, rfl⟩ := List.mem_map.1 hd; exact (h.dir r hr).1, fun d hd => by obtain ⟨r, hr, rfl⟩ := List.mem_map.1 hd; exact (h.dir r hr).2⟩
  have hi := rkOwn_inv hd
  generalize rkOwn (l.map (·.1)) = own at hi h3
  match own, hi, h3 with
  | [a, b, c], ⟨ha, hb, hc, hn⟩, _ =>
    refine Classical.byContradiction fun hno => hn ?_
    have key : ∀ x, x ∈ l.map (·.1) → dot u x = 0 := fun x hx => by
      obtain ⟨r, hr, rfl⟩ := List.mem_map.1 hx
      exact Classical.byContradiction fun hh => hno ⟨r, hr, by rw [dot_comm]; exact hh⟩
    exact det_flat hu (key a ha) (key b hb) (key c hc)
def neg3 (u : V3) : V3 := (-u.1, -u.2.1, -u.2.2)
theorem dot_neg3 (d u : V3) : dot d (neg3 u) = -dot d u := by simp only [dot, neg3]; grind
theorem neg3_ne {u : V3} (h : u ≠ z3) : neg3 u ≠ z3 := fun hh => by
  obtain ⟨a, b, c⟩ := u
  simp only [neg3, Prod.mk.injEq] at hh
  exact h (by simp only [Prod.mk.injEq]; omega)
/-- One of two opposite ways is not upwards. -/
theorem down (c : V3) {u : V3} (h : u ≠ z3) : ∃ w, w ≠ z3 ∧ dot c w ≤ 0 ∧ ∀ d, dot d w = 0 ↔ dot d u = 0 := by
  by_cases hc : dot c u ≤ 0
  · exact ⟨u, h, hc, fun d => Iff.rfl⟩
  · exact ⟨neg3 u, neg3_ne h, by rw [dot_neg3]; omega, fun d => by rw [dot_neg3]; omega⟩
/-- A vector at right angles to another one. -/
theorem right_angle (d : V3) : ∃ u : V3, u ≠ z3 ∧ dot d u = 0 := by
  obtain ⟨a, b, c⟩ := d
  by_cases h : a = 0
  · exact ⟨(1, 0, 0), by decide, by simp [dot, h]⟩
  · exact ⟨(b, -a, 0), fun hh => by simp only [Prod.mk.injEq] at hh; omega, by simp only [dot]; grind⟩
theorem tight_keep {r : Rd} {p p' : V3} {q q' : Int} (hq : 0 < q) (h : tight r p q) (he : dot r.1 p' * q = dot r.1 p * q') : tight r p' q' := by
  have key : ∀ x : Int, dot r.1 p = x * q → dot r.1 p' = x * q' := fun x hx => by
    refine Int.eq_of_mul_eq_mul_right (show q ≠ 0 by omega) ?_
    rw [he, hx]; grind
  rcases h with h | h
  · exact .inl (key _ h)
  · exact .inr (key _ h)
theorem par_zero {d e u : V3} (hd : d ≠ z3) (hc : cross d e = z3) (h : dot d u = 0) : dot e u = 0 := by
  obtain ⟨x1, x2, x3⟩ := d
  obtain ⟨y1, y2, y3⟩ := e
  obtain ⟨w1, w2, w3⟩ := u
  simp only [cross, Prod.mk.injEq] at hc
  obtain ⟨e1, e2, e3⟩ := hc
  simp only [dot] at h ⊢
  have key : ∀ {x y : Int}, x ≠ 0 → y * x = 0 → y = 0 := fun hx hy => (Int.mul_eq_zero.1 hy).resolve_right hx
  rcases v3_ne hd with hx | hx | hx
  · exact key hx (by dsimp only; grind)
  · exact key hx (by dsimp only; grind)
  · exact key hx (by dsimp only; grind)
/-- Three readings that hold a point. -/
theorem corner {l : List Rd} (h : RdOK l) (h3 : (rkOwn (l.map (·.1))).length = 3) {p : V3} {q : Int} (hq : 0 < q) (ha : agQ l p q) (c : V3) :
    ∃ p' q', 0 < q' ∧ agQ l p' q' ∧ dot c p' * q ≤ dot c p * q' ∧ ∃ r1 r2 r3, r1 ∈ l ∧ r2 ∈ l ∧ r3 ∈ l ∧ tight r1 p' q' ∧ tight r2 p' q' ∧ tight r3 p' q' ∧ det r1.1 r2.1 r3.1 ≠ 0 := by
  obtain ⟨u1, n1, c1, _⟩ := down c (show ((1, 0, 0) : V3) ≠ z3 by decide)
  obtain ⟨p1, q1, hq1, a1, l1, _, r1, m1, _, t1⟩ := move hq ha c1 (full_dir h h3 n1)
  obtain ⟨v2, nv2, dv2⟩ := right_angle r1.1
  obtain ⟨u2, n2, c2, i2⟩ := down c nv2
  obtain ⟨p2, q2, hq2, a2, l2, k2, r2, m2, g2, t2⟩ := move hq1 a1 c2 (full_dir h h3 n2)
  have z2 : dot r1.1 u2 = 0 := (i2 _).2 dv2
  have t1' : tight r1 p2 q2 := tight_keep hq1 t1 (k2 _ z2)
  have nx : cross r1.1 r2.1 ≠ z3 := fun hh => g2 (par_zero (h.dir r1 m1).2 hh z2)
  obtain ⟨u3, n3, c3, i3⟩ := down c nx
  obtain ⟨p3, q3, hq3, a3, l3, k3, r3, m3, g3, t3⟩ := move hq2 a2 c3 (full_dir h h3 n3)
  obtain ⟨s1, s2⟩ := dot_cr_l r1.1 r2.1
  rw [dot_comm] at s1 s2
  refine ⟨p3, q3, hq3, a3, ?_, r1, r2, r3, m1, m2, m3, tight_keep hq2 t1' (k3 _ ((i3 _).2 s1)), tight_keep hq2 t2 (k3 _ ((i3 _).2 s2)), t3, ?_⟩
  · exact q_le hq3 hq2 hq l3 (q_le hq2 hq1 hq l2 l1)
  · rw [det_dot, dot_comm]
    exact fun hh => g3 ((i3 _).2 hh)
theorem ends_bits (x y z : Nat) (hx : x < 2) (hy : y < 2) (hz : z < 2) : (x + 2 * y + 4 * z) % 2 = x ∧ (x + 2 * y + 4 * z) / 2 % 2 = y ∧ (x + 2 * y + 4 * z) / 4 % 2 = z := by omega
theorem tight_end {r : Rd} {p : V3} {q : Int} (h : tight r p q) : ∃ n, n < 2 ∧ dot r.1 p = endR r.2 n * q := by
  rcases h with h | h
  · exact ⟨0, by omega, h⟩
  · exact ⟨1, by omega, h⟩
theorem endR_congr {r : Int × Int} {m n : Nat} (h : m % 2 = n % 2) : endR r m = endR r n := by unfold endR; rw [h]
theorem cramer {m : M3} {v p : V3} {q : Int} (h0 : dot m.1 p = v.1 * q) (h1 : dot m.2.1 p = v.2.1 * q) (h2 : dot m.2.2 p = v.2.2 * q) :
    det3 (c0 m v) * q = det3 m * p.1 ∧ det3 (c1 m v) * q = det3 m * p.2.1 ∧ det3 (c2 m v) * q = det3 m * p.2.2 := by
  obtain ⟨⟨a1, a2, a3⟩, ⟨b1, b2, b3⟩, e1, e2, e3⟩ := m
  obtain ⟨v1, v2, v3⟩ := v
  obtain ⟨p1, p2, p3⟩ := p
  simp only [dot] at h0 h1 h2
  simp only [det3, det, dot, cross, c0, c1, c2]
  refine ⟨by grind, by grind, by grind⟩
/-- A wind in lowest terms agrees with a reading as the machine says. -/
theorem agR_iff {r : Rd} {v : WV} (hd : V3.le r.1 9) (hr : (-10000 ≤ r.2.1 ∧ r.2.1 ≤ 10000) ∧ -10000 ≤ r.2.2 ∧ r.2.2 ≤ 10000) (hv : V3.le (wpt v) 1000000000000) (h0 : 0 < v.2.2.2) (h9 : v.2.2.2 ≤ 1000000000) :
    agR r v = true ↔ r.2.1 * v.2.2.2 ≤ dot r.1 (wpt v) ∧ dot r.1 (wpt v) ≤ r.2.2 * v.2.2.2 := by
  have h1 := mul_le hr.1 (show -1000000000 ≤ v.2.2.2 ∧ v.2.2.2 ≤ 1000000000 by omega)
  have h2 := mul_le hr.2 (show -1000000000 ≤ v.2.2.2 ∧ v.2.2.2 ≤ 1000000000 by omega)
  have h3 := dot_le hd hv
  unfold agR
  rw [w64_in (by omega) (by omega), w64_in (by omega) (by omega), w64_in (by omega) (by omega)]
  exact decide_eq_true_iff
theorem ag_move {r : Rd} {p w : V3} {q d : Int} (hq : 0 < q) (hd : 0 < d) (he : dot r.1 w * q = dot r.1 p * d) (h : r.2.1 * q ≤ dot r.1 p ∧ dot r.1 p ≤ r.2.2 * q) : r.2.1 * d ≤ dot r.1 w ∧ dot r.1 w ≤ r.2.2 * d := by
  have b1 : r.2.1 * q * d ≤ dot r.1 p * d := Int.mul_le_mul_of_nonneg_right h.1 (by omega)
  have b2 : dot r.1 p * d ≤ r.2.2 * q * d := Int.mul_le_mul_of_nonneg_right h.2 (by omega)
  rw [← he] at b1 b2
  refine ⟨Int.le_of_mul_le_mul_right (a := q) ?_ hq, Int.le_of_mul_le_mul_right (a := q) ?_ hq⟩
  · have : r.2.1 * d * q = r.2.1 * q * d := by grind
    omega
  · have : r.2.2 * d * q = r.2.2 * q * d := by grind
    omega
theorem dot_par {d p w : V3} {q n : Int} (h0 : w.1 * q = p.1 * n) (h1 : w.2.1 * q = p.2.1 * n) (h2 : w.2.2 * q = p.2.2 * n) : dot d w * q = dot d p * n := by
  simp only [dot]; grind
/-- A corner is a vertex. -/
theorem vertex_of {l : List Rd} (h : RdLe l) {p : V3} {q : Int} (hq : 0 < q) (ha : agQ l p q) {a b c : Nat} (hab : a < b) (hbc : b < c) (hc : c < l.length)
    (ta : tight (l.getD a rd0) p q) (tb : tight (l.getD b rd0) p q) (tc : tight (l.getD c rd0) p q) (hd : det3 (rows3 l a b c) ≠ 0) :
    ∃ v ∈ vtx l, v.1 * q = p.1 * v.2.2.2 ∧ v.2.1 * q = p.2.1 * v.2.2.2 ∧ v.2.2.1 * q = p.2.2 * v.2.2.2 := by
  obtain ⟨x, hx, ex⟩ := tight_end ta
  obtain ⟨y, hy, ey⟩ := tight_end tb
  obtain ⟨z, hz, ez⟩ := tight_end tc
  obtain ⟨b1, b2, b3⟩ := ends_bits x y z hx hy hz
  have m1 : x % 2 = x := by omega
  have m2 : y % 2 = y := by omega
  have m3 : z % 2 = z := by omega
  have hs := sol1_eq h (show a < l.length by omega) (show b < l.length by omega) hc (x + 2 * y + 4 * z)
  have hok := sol1_ok h (show a < l.length by omega) (show b < l.length by omega) hc (x + 2 * y + 4 * z) hd
  obtain ⟨k1, k2, k3⟩ := cramer (m := rows3 l a b c) (v := ends3 l a b c (x + 2 * y + 4 * z)) (p := p) (q := q)
    (by rw [show (ends3 l a b c (x + 2 * y + 4 * z)).1 = endR (l.getD a rd0).2 x from endR_congr (by omega)]; exact ex)
    (by rw [show (ends3 l a b c (x + 2 * y + 4 * z)).2.1 = endR (l.getD b rd0).2 y from endR_congr (by omega)]; exact ey)
    (by rw [show (ends3 l a b c (x + 2 * y + 4 * z)).2.2 = endR (l.getD c rd0).2 z from endR_congr (by omega)]; exact ez)
  obtain ⟨j1, j2, j3⟩ := lowV_mul (det3 (c0 (rows3 l a b c) (ends3 l a b c (x + 2 * y + 4 * z))), det3 (c1 (rows3 l a b c) (ends3 l a b c (x + 2 * y + 4 * z))), det3 (c2 (rows3 l a b c) (ends3 l a b c (x + 2 * y + 4 * z)))) (det3 (rows3 l a b c)) hd
  rw [← hs] at j1 j2 j3
  have hsw := (h.sml (show a < l.length by omega) (show b < l.length by omega) hc (x + 2 * y + 4 * z) : Sml (rows3 l a b c) _).w
  have hmem : ∀ v, v = sol1 l a b c (x + 2 * y + 4 * z) → l.all (agR · v) = true → v ∈ vtx l := fun v hv hg => vtx_mem.2 (cands_mem.2 ⟨a, b, c, x + 2 * y + 4 * z, hab, hbc, hc, by omega, by rw [hsw]; exact hd, hv, hg⟩)
  generalize sol1 l a b c (x + 2 * y + 4 * z) = v at *
  dsimp only at j1 j2 j3
  generalize det3 (c0 (rows3 l a b c) (ends3 l a b c (x + 2 * y + 4 * z))) = D0 at *
  generalize det3 (c1 (rows3 l a b c) (ends3 l a b c (x + 2 * y + 4 * z))) = D1 at *
  generalize det3 (c2 (rows3 l a b c) (ends3 l a b c (x + 2 * y + 4 * z))) = D2 at *
  generalize det3 (rows3 l a b c) = D at *
  have key : ∀ {n X P : Int}, n * v.2.2.2 = X * D → n * q = D * P → X * q = P * v.2.2.2 := fun {n X P} e1 e2 => by
    refine Int.eq_of_mul_eq_mul_right hd ?_
    have : X * q * D = (X * D) * q := by grind
    rw [this, ← e1, show n * v.2.2.2 * q = (n * q) * v.2.2.2 by grind, e2]; grind
  have e1 := key j1 k1
  have e2 := key j2 k2
  have e3 := key j3 k3
  obtain ⟨⟨w1, w2⟩, w3, w4⟩ := hok
  refine ⟨v, hmem v rfl ?_, e1, e2, e3⟩
  rw [List.all_eq_true]
  intro r hr
  have w5 : V3.le (wpt v) 1000000000000 := by
    obtain ⟨p1, p2, p3⟩ := w4
    exact ⟨by omega, by omega, by omega⟩
  exact (agR_iff (h.dir r hr) (h.rng r hr) w5 w1 (by omega)).2 (ag_move hq w1 (dot_par (p := p) (w := wpt v) e1 e2 e3) (ha r hr))
theorem det3_rows (l : List Rd) (a b c : Nat) : det3 (rows3 l a b c) = det (l.getD a rd0).1 (l.getD b rd0).1 (l.getD c rd0).1 := rfl
/-- The least product of a direction and the winds that agree is that of a vertex. -/
theorem lp {l : List Rd} (h : RdOK l) (h3 : (rkOwn (l.map (·.1))).length = 3) {p : V3} {q : Int} (hq : 0 < q) (ha : agQ l p q) (c : V3) :
    ∃ v ∈ vtx l, dot c (wpt v) * q ≤ dot c p * v.2.2.2 := by
  obtain ⟨p', q', hq', a', le, r1, r2, r3, m1, m2, m3, t1, t2, t3, hd⟩ := corner h h3 hq ha c
  obtain ⟨i, hi, e1⟩ := List.getElem_of_mem m1
  obtain ⟨k, hk, e2⟩ := List.getElem_of_mem m2
  obtain ⟨j, hj, e3⟩ := List.getElem_of_mem m3
  have g1 : l.getD i rd0 = r1 := by rw [getD_lt hi, e1]
  have g2 : l.getD k rd0 = r2 := by rw [getD_lt hk, e2]
  have g3 : l.getD j rd0 = r3 := by rw [getD_lt hj, e3]
  subst g1 g2 g3
  have n1 : i ≠ k := fun hh => hd (by rw [hh]; exact (det_same _ _).1)
  have n2 : i ≠ j := fun hh => hd (by rw [hh]; exact (det_same _ _).2.1)
  have n3 : k ≠ j := fun hh => hd (by rw [hh]; exact (det_same _ _).2.2)
  obtain ⟨p1, p2, p3, p4, p5⟩ := det_perm (l.getD i rd0).1 (l.getD k rd0).1 (l.getD j rd0).1
  have fin : ∀ {a b e : Nat}, a < b → b < e → e < l.length → tight (l.getD a rd0) p' q' → tight (l.getD b rd0) p' q' → tight (l.getD e rd0) p' q' → det (l.getD a rd0).1 (l.getD b rd0).1 (l.getD e rd0).1 ≠ 0 → ∃ v ∈ vtx l, dot c (wpt v) * q ≤ dot c p * v.2.2.2 := fun {a b e} x1 x2 x3 y1 y2 y3 y4 => by
    obtain ⟨v, hv, f1, f2, f3⟩ := vertex_of h.rdLe hq' a' x1 x2 x3 y1 y2 y3 (by rw [det3_rows]; exact y4)
    have hw := (cands_ok h.rdLe v (vtx_mem.1 hv)).1.den
    refine ⟨v, hv, q_le (b := dot c p') hw hq' hq ?_ le⟩
    rw [dot_par (d := c) (p := p') (w := wpt v) f1 f2 f3]
    exact Int.le_refl _
  rcases Nat.lt_or_ge i k with a | a
  · rcases Nat.lt_or_ge k j with b | b
    · exact fin a b hj t1 t2 t3 hd
    · rcases Nat.lt_or_ge i j with x | x
      · exact fin x (by omega) hk t1 t3 t2 (by rw [p2]; omega)
      · exact fin (by omega) a hk t3 t1 t2 (by rw [p5]; omega)
  · rcases Nat.lt_or_ge k j with b | b
    · rcases Nat.lt_or_ge i j with x | x
      · exact fin (by omega) x hj t2 t1 t3 (by rw [p1]; omega)
      · exact fin b (by omega) hi t2 t3 t1 (by rw [p4]; omega)
    · exact fin (by omega) (by omega) hi t3 t2 t1 (by rw [p3]; omega)
theorem flatMap_lenV {α : Type} (f : Nat → List α) : ∀ n, ((List.range n).flatMap f).length = ((List.range n).map fun i => (f i).length).sum
  | n => by rw [List.length_flatMap]
theorem sum_le {f g : Nat → Nat} (h : ∀ i, f i ≤ g i) : ∀ n, ((List.range n).map f).sum ≤ ((List.range n).map g).sum
  | 0 => by simp
  | n + 1 => by
    rw [List.range_succ, List.map_append, List.map_append, List.sum_append, List.sum_append]
    have := sum_le h n
    have := h n
    simp
    omega
theorem sum_mono (f : Nat → Nat) {m n : Nat} (h : m ≤ n) : ((List.range m).map f).sum ≤ ((List.range n).map f).sum := by
  obtain ⟨k, rfl⟩ := Nat.le.dest h
  induction k with
  | zero => simp
  | succ k ih =>
    rw [← Nat.add_assoc, List.range_succ, List.map_append, List.sum_append]
    have := ih (by omega)
    omega
theorem cands_160 {l : List Rd} (h : l.length ≤ 6) : (cands l).length ≤ 160 := by
  have hE : ∀ a b c e, (candE l a b c e).length ≤ 1 := fun a b c e => by unfold candE; split <;> simp
  have hA : ∀ c b a, (candA l c b a).length ≤ 8 := fun c b a => by
    unfold candA
    split
    · simp
    · rw [flatMap_lenV]; exact Nat.le_trans (sum_le (fun e => hE a b c e) 8) (by decide)
  have hB : ∀ c b, (candB l c b).length ≤ ((List.range b).map fun _ => 8).sum := fun c b => by
    unfold candB; rw [flatMap_lenV]; exact sum_le (fun a => hA c b a) b
  have hC : ∀ c, (candC l c).length ≤ ((List.range c).map fun b => ((List.range b).map fun _ => 8).sum).sum := fun c => by
    unfold candC; rw [flatMap_lenV]; exact sum_le (fun b => hB c b) c
  unfold cands
  rw [flatMap_lenV]
  exact Nat.le_trans (sum_le hC l.length) (Nat.le_trans (sum_mono _ h) (by decide))
theorem vtx_160 {l : List Rd} (h : l.length ≤ 6) : (vtx l).length ≤ 160 := by
  have h1 := cands_160 h
  have h2 : ((cands l).foldl insW []).length ≤ 0 + (cands l).length := sortW_len (cands l) []
  have e : (vtx l).length = ((cands l).foldl insW []).length := rfl
  omega
end Go.Pi
end

section
namespace Go.Pi
set_option linter.unusedVariables false
def fle (a b : Int × Int) : Prop := a.1 * b.2 ≤ b.1 * a.2
theorem pick_ends {t : Int → Bool} {R : Int × Int → Int × Int → Prop} (rf : ∀ a, R a a) (tr : ∀ {a b c : Int × Int}, 0 < a.2 → 0 < b.2 → 0 < c.2 → R a b → R b c → R a c)
    (ht : ∀ {x m : Int × Int}, 0 < x.2 → 0 < m.2 → t (less2 x m) = true → R x m) (hf : ∀ {x m : Int × Int}, 0 < x.2 → 0 < m.2 → t (less2 x m) = false → R m x) :
    ∀ (r : List (Int × Int)) (m : Int × Int), 0 < m.2 → (∀ x ∈ r, 0 < x.2) → r.foldl (pickF t) m ∈ m :: r ∧ ∀ y ∈ m :: r, R (r.foldl (pickF t) m) y
  | [], m, hm, _ => ⟨.head _, fun y hy => by simp at hy; subst hy; exact rf _⟩
  | x :: r, m, hm, hr => by
    rw [List.foldl_cons]
    have hx := hr x (.head _)
    have hr' : ∀ y ∈ r, 0 < y.2 := fun y hy => hr y (.tail _ hy)
    cases h : t (less2 x m) with
    | true =>
      have e : pickF t m x = x := by unfold pickF; rw [if_pos h]
      rw [e]
      obtain ⟨h1, h2⟩ := pick_ends rf tr ht hf r x hx hr'
      refine ⟨.tail _ h1, fun y hy => ?_⟩
      rcases List.mem_cons.1 hy with rfl | hy
      · have hp : 0 < (r.foldl (pickF t) x).2 := by
          rcases List.mem_cons.1 h1 with e | e
          · rw [e]; exact hx
          · exact hr' _ e
        exact tr hp hx hm (h2 x (.head _)) (ht hx hm h)
      · exact h2 y hy
    | false =>
      have e : pickF t m x = m := by unfold pickF; rw [if_neg (by rw [h]; decide)]
      rw [e]
      obtain ⟨h1, h2⟩ := pick_ends rf tr ht hf r m hm hr'
      have hp : 0 < (r.foldl (pickF t) m).2 := by
        rcases List.mem_cons.1 h1 with e | e
        · rw [e]; exact hm
        · exact hr' _ e
      refine ⟨?_, fun y hy => ?_⟩
      · rcases List.mem_cons.1 h1 with e | e
        · rw [e]; exact .head _
        · exact .tail _ (.tail _ e)
      · rcases List.mem_cons.1 hy with rfl | hy
        · exact h2 _ (.head _)
        · rcases List.mem_cons.1 hy with rfl | hy
          · exact tr hp hm hx (h2 m (.head _)) (hf hx hm h)
          · exact h2 y (.tail _ hy)
theorem cons_drop {l : List (Int × Int)} (h : 0 < l.length) : l.getD 0 (0, 0) :: l.drop 1 = l := by
  match l, h with
  | x :: r, _ => rfl
theorem fle_trans {a b c : Int × Int} (ha : 0 < a.2) (hb : 0 < b.2) (hc : 0 < c.2) (h1 : fle a b) (h2 : fle b c) : fle a c := q_le ha hb hc h1 h2
theorem minF_is {l : List (Int × Int)} (h0 : 0 < l.length) (h : ∀ x ∈ l, 0 < x.2) : minF l ∈ l ∧ ∀ y ∈ l, fle (minF l) y := by
  have e := cons_drop h0
  have hm : 0 < (l.getD 0 (0, 0)).2 := h _ (getD_mem h0)
  have k := pick_ends (t := fun n => decide (n < 0)) (R := fle) (fun a => Int.le_refl _) fle_trans
    (fun {x m} hx hm ht => by have := of_decide_eq_true ht; unfold less2 at this; unfold fle; omega)
    (fun {x m} hx hm ht => by have := of_decide_eq_false ht; unfold less2 at this; unfold fle; omega)
    (l.drop 1) (l.getD 0 (0, 0)) hm (fun x hx => h x (List.mem_of_mem_drop hx))
  rw [e] at k
  exact k
theorem maxF_is {l : List (Int × Int)} (h0 : 0 < l.length) (h : ∀ x ∈ l, 0 < x.2) : maxF l ∈ l ∧ ∀ y ∈ l, fle y (maxF l) := by
  have e := cons_drop h0
  have hm : 0 < (l.getD 0 (0, 0)).2 := h _ (getD_mem h0)
  have k := pick_ends (t := fun n => decide (n > 0)) (R := fun a b => fle b a) (fun a => Int.le_refl _) (fun ha hb hc h1 h2 => fle_trans hc hb ha h2 h1)
    (fun {x m} hx hm ht => by have := of_decide_eq_true ht; unfold less2 at this; unfold fle; omega)
    (fun {x m} hx hm ht => by have := of_decide_eq_false ht; unfold less2 at this; unfold fle; omega)
    (l.drop 1) (l.getD 0 (0, 0)) hm (fun x hx => h x (List.mem_of_mem_drop hx))
  rw [e] at k
  exact k
theorem fracs_pos {l : List Rd} (h : RdLe l) (d : V3) : ∀ x ∈ fracs (vtx l) d, 0 < x.2 := fun x hx => by
  obtain ⟨v, hv, rfl⟩ := List.mem_map.1 hx
  exact (low_pos (cands_ok h v (vtx_mem.1 hv)).1.den).1
/-- The fraction of a vertex and that of its product. -/
theorem low_dot {v : WV} (hv : 0 < v.2.2.2) (d : V3) : (low (dot (wpt v) d) v.2.2.2).1 * v.2.2.2 = dot d (wpt v) * (low (dot (wpt v) d) v.2.2.2).2 := by
  rw [low_mul hv, dot_comm]
theorem span_lo {l : List Rd} (h : RdLe l) (h0 : 0 < (vtx l).length) (d : V3) : ∃ v ∈ vtx l, (spanW (vtx l) d).1 = low (dot (wpt v) d) v.2.2.2 ∧ ∀ w ∈ vtx l, (spanW (vtx l) d).1.1 * w.2.2.2 ≤ dot d (wpt w) * (spanW (vtx l) d).1.2 := by
  have hl : 0 < (fracs (vtx l) d).length := by simp [fracs]; exact h0
  obtain ⟨h1, h2⟩ := minF_is hl (fracs_pos h d)
  have hpos := fracs_pos h d _ h1
  obtain ⟨v, hv, e⟩ := List.mem_map.1 h1
  refine ⟨v, hv, e.symm, fun w hw => ?_⟩
  have hwd := (cands_ok h w (vtx_mem.1 hw)).1.den
  have k := h2 _ (List.mem_map.2 ⟨w, hw, rfl⟩)
  have kp := (low_pos (n := dot (wpt w) d) hwd).1
  exact q_le (b := (low (dot (wpt w) d) w.2.2.2).1) hpos kp hwd k (by rw [low_dot hwd]; exact Int.le_refl _)
theorem span_hi {l : List Rd} (h : RdLe l) (h0 : 0 < (vtx l).length) (d : V3) : ∃ v ∈ vtx l, (spanW (vtx l) d).2 = low (dot (wpt v) d) v.2.2.2 ∧ ∀ w ∈ vtx l, dot d (wpt w) * (spanW (vtx l) d).2.2 ≤ (spanW (vtx l) d).2.1 * w.2.2.2 := by
  have hl : 0 < (fracs (vtx l) d).length := by simp [fracs]; exact h0
  obtain ⟨h1, h2⟩ := maxF_is hl (fracs_pos h d)
  have hpos := fracs_pos h d _ h1
  obtain ⟨v, hv, e⟩ := List.mem_map.1 h1
  refine ⟨v, hv, e.symm, fun w hw => ?_⟩
  have hwd := (cands_ok h w (vtx_mem.1 hw)).1.den
  have k := h2 _ (List.mem_map.2 ⟨w, hw, rfl⟩)
  have kp := (low_pos (n := dot (wpt w) d) hwd).1
  exact q_le (b := (low (dot (wpt w) d) w.2.2.2).1) hwd kp hpos (by rw [low_dot hwd]; exact Int.le_refl _) k
/-- Whatever agrees lies in the range of a direction. -/
theorem span_le {l : List Rd} (h : RdOK l) (h3 : (rkOwn (l.map (·.1))).length = 3) {p : V3} {q : Int} (hq : 0 < q) (ha : agQ l p q) (d : V3) :
    0 < (vtx l).length ∧ (spanW (vtx l) d).1.1 * q ≤ dot d p * (spanW (vtx l) d).1.2 ∧ dot d p * (spanW (vtx l) d).2.2 ≤ (spanW (vtx l) d).2.1 * q := by
  obtain ⟨v, hv, hle⟩ := lp h h3 hq ha d
  obtain ⟨w, hw, hge⟩ := lp h h3 hq ha (neg3 d)
  have h0 : 0 < (vtx l).length := List.length_pos_of_mem hv
  have e : ∀ x : V3, dot (neg3 d) x = -dot d x := fun x => by rw [dot_comm, dot_neg3, dot_comm]
  rw [e, e] at hge
  have hge' : dot d p * w.2.2.2 ≤ dot d (wpt w) * q := by
    have h1 : -dot d (wpt w) * q = -(dot d (wpt w) * q) := by grind
    have h2 : -dot d p * w.2.2.2 = -(dot d p * w.2.2.2) := by grind
    omega
  have hvd := (cands_ok h.rdLe v (vtx_mem.1 hv)).1.den
  have hwd := (cands_ok h.rdLe w (vtx_mem.1 hw)).1.den
  obtain ⟨a, ma, ea, la⟩ := span_lo h.rdLe h0 d
  obtain ⟨b, mb, eb, lb⟩ := span_hi h.rdLe h0 d
  have pa : 0 < (spanW (vtx l) d).1.2 := by rw [ea]; exact (low_pos (cands_ok h.rdLe a (vtx_mem.1 ma)).1.den).1
  have pb : 0 < (spanW (vtx l) d).2.2 := by rw [eb]; exact (low_pos (cands_ok h.rdLe b (vtx_mem.1 mb)).1.den).1
  exact ⟨h0, q_le pa hvd hq (la v hv) hle, q_le hq hwd pb hge' (lb w hw)⟩
theorem agR_ok {l : List Rd} (h : RdLe l) {v : WV} (hv : V3.le (wpt v) 1000000000000) (h0 : 0 < v.2.2.2) (h9 : v.2.2.2 ≤ 1000000000) : l.all (agR · v) = true ↔ agQ l (wpt v) v.2.2.2 := by
  rw [List.all_eq_true]
  exact ⟨fun k r hr => (agR_iff (h.dir r hr) (h.rng r hr) hv h0 h9).1 (k r hr), fun k r hr => (agR_iff (h.dir r hr) (h.rng r hr) hv h0 h9).2 (k r hr)⟩
/-- What is so of a vertex. -/
structure Vtx (l : List Rd) (v : WV) : Prop where
  den : 0 < v.2.2.2
  le : v.2.2.2 ≤ 4374
  pt : V3.le (wpt v) 4860000
  low : gcdL [v.2.2.2, v.1, v.2.1, v.2.2.1] = 1
  all : l.all (agR · v) = true
  ag : agQ l (wpt v) v.2.2.2
theorem vtx_is {l : List Rd} (h : RdLe l) {v : WV} (hv : v ∈ vtx l) : Vtx l v := by
  have hc := vtx_mem.1 hv
  obtain ⟨⟨w1, w2⟩, w3, w4⟩ := cands_ok h v hc
  obtain ⟨a, b, c, e, _, _, _, _, _, _, hg⟩ := cands_mem.1 hc
  have w5 : V3.le (wpt v) 1000000000000 := by
    obtain ⟨p1, p2, p3⟩ := w4
    exact ⟨by omega, by omega, by omega⟩
  exact ⟨w1, w3, w4, w2, hg, (agR_ok h w5 w1 (by omega)).1 hg⟩
theorem agQ_sub {l l' : List Rd} (h : ∀ r ∈ l', r ∈ l) {p : V3} {q : Int} (ha : agQ l p q) : agQ l' p q := fun r hr => ha r (h r hr)
/-- Fewer readings: no smaller range. -/
theorem span_fewer {l l' : List Rd} (h : RdOK l) (h0 : 0 < (vtx l).length) (h' : RdOK l') (h3 : (rkOwn (l'.map (·.1))).length = 3) (hs : ∀ r ∈ l', r ∈ l) (d : V3) :
    (spanW (vtx l') d).1.1 * (spanW (vtx l) d).1.2 ≤ (spanW (vtx l) d).1.1 * (spanW (vtx l') d).1.2 ∧ (spanW (vtx l) d).2.1 * (spanW (vtx l') d).2.2 ≤ (spanW (vtx l') d).2.1 * (spanW (vtx l) d).2.2 := by
  obtain ⟨a, ma, ea, la⟩ := span_lo h.rdLe h0 d
  obtain ⟨b, mb, eb, lb⟩ := span_hi h.rdLe h0 d
  have va := vtx_is h.rdLe ma
  have vb := vtx_is h.rdLe mb
  obtain ⟨h0', k1, _⟩ := span_le h' h3 va.den (agQ_sub hs va.ag) d
  obtain ⟨_, _, k2⟩ := span_le h' h3 vb.den (agQ_sub hs vb.ag) d
  obtain ⟨x, mx, ex, _⟩ := span_lo h'.rdLe h0' d
  obtain ⟨y, my, ey, _⟩ := span_hi h'.rdLe h0' d
  have px : 0 < (spanW (vtx l') d).1.2 := by rw [ex]; exact (low_pos (vtx_is h'.rdLe mx).den).1
  have py : 0 < (spanW (vtx l') d).2.2 := by rw [ey]; exact (low_pos (vtx_is h'.rdLe my).den).1
  have pa : 0 < (spanW (vtx l) d).1.2 := by rw [ea]; exact (low_pos va.den).1
  have pb : 0 < (spanW (vtx l) d).2.2 := by rw [eb]; exact (low_pos vb.den).1
  refine ⟨q_le px va.den pa k1 ?_, q_le pb vb.den py ?_ k2⟩
  · have := low_dot va.den d
    rw [ea, ← this]; exact Int.le_refl _
  · have := low_dot vb.den d
    rw [eb, this]; exact Int.le_refl _
/-- Rounded outwards. -/
theorem floor_out {n d m k : Int} (hd : 0 < d) (hk : 0 < k) (h : n * k ≤ m * d) : n / d * k ≤ m := by
  have h1 : n / d * d ≤ n := Int.ediv_mul_le _ (by omega)
  refine Int.le_of_mul_le_mul_right (a := d) ?_ hd
  have h2 : n / d * d * k ≤ n * k := Int.mul_le_mul_of_nonneg_right h1 (by omega)
  have e : n / d * k * d = n / d * d * k := by grind
  omega
theorem ceil_out {n d m k : Int} (hd : 0 < d) (hk : 0 < k) (h : m * d ≤ n * k) : m ≤ -(-n / d) * k := by
  have := floor_out (n := -n) (m := -m) hd hk (by
    have e1 : -n * k = -(n * k) := by grind
    have e2 : -m * d = -(m * d) := by grind
    omega)
  have e : -(-n / d) * k = -(-n / d * k) := by grind
  omega
theorem rdOf_all {l : List Rd} (h : (rdOf l).2 = 0) : ∀ r ∈ l, rdE r = 0 := by
  unfold rdOf at h
  split at h
  · simp at h
  · split at h
    · simp at h
    · intro r hr
      obtain ⟨i, hi, e⟩ := List.getElem_of_mem hr
      have := eachE_zero h i hi
      rwa [getD_lt hi, e] at this
theorem rdOf_none {l : List Rd} (h0 : 0 < l.length) (h6 : l.length ≤ 6) (h : ∀ r ∈ l, rdE r = 0) : rdOf l = (0, 0) := by
  unfold rdOf
  rw [if_neg (by omega), if_neg (by omega)]
  exact eachE_none fun i hi => h _ (getD_mem hi)
theorem windE_of {v : WV} (h1 : 1 ≤ v.2.2.2 ∧ v.2.2.2 ≤ 1000000000) (h2 : V3.le (wpt v) 1000000000000) (h3 : gcdL [v.2.2.2, v.1, v.2.1, v.2.2.1] = 1) : windE v = 0 := by
  unfold windE
  rw [if_neg (fun hh => hh ⟨h1, h2⟩), if_pos h3]
theorem Vtx.big {l : List Rd} {v : WV} (h : Vtx l v) : V3.le (wpt v) 1000000000000 := by
  obtain ⟨p1, p2, p3⟩ := h.pt
  exact ⟨by omega, by omega, by omega⟩
theorem Vtx.windE {l : List Rd} {v : WV} (h : Vtx l v) : windE v = 0 := windE_of ⟨h.den, by have := h.le; omega⟩ h.big h.low
theorem sgn_pos {n : Int} : sgn n > 0 ↔ n > 0 := by
  unfold sgn
  split
  · omega
  · split <;> omega
theorem sgn_nonneg {n : Int} : sgn n ≥ 0 ↔ n ≥ 0 := by
  unfold sgn
  split
  · omega
  · split <;> omega
theorem sgn_nonpos {n : Int} : sgn n ≤ 0 ↔ n ≤ 0 := by
  unfold sgn
  split
  · omega
  · split <;> omega
theorem rangeW_is {l : List Rd} {d : V3} (h1 : (rdOf l).2 = 0) (h2 : dirE d = 0) (h3 : (rkOwn (l.map (·.1))).length = 3) : rangeW l d = if (vtx l).length = 0 then (no4, 12) else (spanW (vtx l) d, 0) := by
  unfold rangeW
  rw [if_neg (fun hh => hh h1), if_neg (fun hh => hh h2), if_neg (fun hh => hh h3)]
theorem headW_is {l : List Rd} {d : V3} (h1 : (rdOf l).2 = 0) (h2 : dirE d = 0) (h3 : (rkOwn (l.map (·.1))).length = 3) (h4 : 0 < (vtx l).length) : headW l d = (((spanW (vtx l) d).1.1 / (spanW (vtx l) d).1.2, -(-(spanW (vtx l) d).2.1 / (spanW (vtx l) d).2.2)), 0) := by
  have e : rangeW l d = (spanW (vtx l) d, 0) := by rw [rangeW_is h1 h2 h3, if_neg (by omega)]
  unfold headW
  rw [e]
  exact if_neg (fun hh => hh rfl)
/-- The ends of a box. -/
theorem box_le {l : List Rd} (h : RdOK l) (h3 : (rkOwn (l.map (·.1))).length = 3) {p : V3} {q : Int} (hq : 0 < q) (ha : agQ l p q) (d : V3) :
    (spanW (vtx l) d).1.1 / (spanW (vtx l) d).1.2 * q ≤ dot d p ∧ dot d p ≤ -(-(spanW (vtx l) d).2.1 / (spanW (vtx l) d).2.2) * q := by
  obtain ⟨h0, k1, k2⟩ := span_le h h3 hq ha d
  obtain ⟨a, ma, ea, la⟩ := span_lo h.rdLe h0 d
  obtain ⟨b, mb, eb, lb⟩ := span_hi h.rdLe h0 d
  have pa : 0 < (spanW (vtx l) d).1.2 := by rw [ea]; exact (low_pos (vtx_is h.rdLe ma).den).1
  have pb : 0 < (spanW (vtx l) d).2.2 := by rw [eb]; exact (low_pos (vtx_is h.rdLe mb).den).1
  exact ⟨floor_out pa hq k1, ceil_out pb hq k2⟩
theorem take_sub {l : List Rd} {n : Nat} : ∀ r ∈ (l.take n).drop 0, r ∈ l := fun r hr => List.mem_of_mem_take (by simpa using hr)
end Go.Pi
end
