/- What functions of the program compute, each proved once, part 2. -/
import Derived.Test.YtglijnhkdnhofaaFnA
import Derived.Test.YtglijnhkdnhofaaPiD
import Derived.Shelf.SlGeneric
import Derived.Ground.SlsfProg

section
namespace Go.Pi
set_option linter.unusedVariables false
abbrev M3 := V3 × V3 × V3
def det3 (m : M3) : Int := det m.1 m.2.1 m.2.2
def c0 (m : M3) (v : V3) : M3 := ((v.1, m.1.2), (v.2.1, m.2.1.2), (v.2.2, m.2.2.2))
def c1 (m : M3) (v : V3) : M3 := ((m.1.1, v.1, m.1.2.2), (m.2.1.1, v.2.1, m.2.1.2.2), (m.2.2.1, v.2.2, m.2.2.2.2))
def c2 (m : M3) (v : V3) : M3 := ((m.1.1, m.1.2.1, v.1), (m.2.1.1, m.2.1.2.1, v.2.1), (m.2.2.1, m.2.2.2.1, v.2.2))
def g4 (p : V3) (d : Int) : Nat := gcdL [d, p.1, p.2.1, p.2.2]
def s4 (p : V3) (d : Int) : Int := if d < 0 then -(g4 p d : Int) else (g4 p d : Int)
/-- Three numbers over one, in lowest terms. -/
def lowV (p : V3) (d : Int) : WV := (p.1.tdiv (s4 p d), p.2.1.tdiv (s4 p d), p.2.2.tdiv (s4 p d), d.tdiv (s4 p d))
theorem s4_abs (p : V3) (d : Int) : (s4 p d).natAbs = g4 p d := by unfold s4; split <;> omega
theorem g4_dvd (p : V3) (d : Int) : (g4 p d ∣ d.natAbs) ∧ (g4 p d ∣ p.1.natAbs) ∧ (g4 p d ∣ p.2.1.natAbs) ∧ (g4 p d ∣ p.2.2.natAbs) := by
  unfold g4
  rw [gcdL_four]
  refine ⟨Nat.gcd_dvd_left _ _, Nat.dvd_trans (Nat.gcd_dvd_right _ _) (Nat.gcd_dvd_left _ _), Nat.dvd_trans (Nat.gcd_dvd_right _ _) (Nat.dvd_trans (Nat.gcd_dvd_right _ _) (Nat.gcd_dvd_left _ _)), Nat.dvd_trans (Nat.gcd_dvd_right _ _) (Nat.dvd_trans (Nat.gcd_dvd_right _ _) (Nat.gcd_dvd_right _ _))⟩
theorem g4_pos {p : V3} {d : Int} (h : d ≠ 0) : 0 < g4 p d := by
  unfold g4; rw [gcdL_four]; exact Nat.gcd_pos_of_pos_left _ (by omega)
theorem s4_ne {p : V3} {d : Int} (h : d ≠ 0) : s4 p d ≠ 0 := by have := s4_abs p d; have := g4_pos (p := p) h; omega
theorem s4_dvd {p : V3} {d n : Int} (h : g4 p d ∣ n.natAbs) : s4 p d ∣ n := by rw [← Int.natAbs_dvd_natAbs, s4_abs]; exact h
/-- Of a wind in lowest terms. -/
structure WOK (v : WV) : Prop where
  den : 0 < v.2.2.2
  low : gcdL [v.2.2.2, v.1, v.2.1, v.2.2.1] = 1
theorem lowV_ok {p : V3} {d : Int} (h : d ≠ 0) : WOK (lowV p d) := by
  have hne := s4_ne (p := p) h
  have hp := g4_pos (p := p) h
  obtain ⟨h0, h1, h2, h3⟩ := g4_dvd p d
  refine ⟨?_, ?_⟩
  · show 0 < d.tdiv (s4 p d)
    obtain ⟨k, hk⟩ := s4_dvd (p := p) h0
    have e : d.tdiv (s4 p d) = k := by
      have h9 := Int.mul_tdiv_cancel_left k hne
      rw [← hk] at h9
      exact h9
    rw [e]
    rcases Int.lt_trichotomy k 0 with hk0 | hk0 | hk0
    · exfalso
      unfold s4 at hk
      split at hk
      · rename_i hd
        have : 0 ≤ -(g4 p d : Int) * k := Int.mul_nonneg_of_nonpos_of_nonpos (by omega) (by omega)
        omega
      · rename_i hd
        have : (g4 p d : Int) * k ≤ 0 := Int.mul_nonpos_of_nonneg_of_nonpos (by omega) (by omega)
        omega
    · rw [hk0, Int.mul_zero] at hk; exact absurd hk h
    · exact hk0
  · show gcdL [d.tdiv (s4 p d), p.1.tdiv (s4 p d), p.2.1.tdiv (s4 p d), p.2.2.tdiv (s4 p d)] = 1
    rw [gcdL_four]
    have ea : ∀ n : Int, (n.tdiv (s4 p d)).natAbs = n.natAbs / g4 p d := fun n => by rw [← s4_abs p d]; exact Int.natAbs_tdiv n _
    simp only [ea]
    rw [Nat.gcd_div h2 h3, Nat.gcd_div h1 (Nat.dvd_gcd h2 h3), Nat.gcd_div h0 (Nat.dvd_gcd h1 (Nat.dvd_gcd h2 h3))]
    rw [← gcdL_four]
    exact Nat.div_self hp
theorem lowV_mul (p : V3) (d : Int) (h : d ≠ 0) : p.1 * (lowV p d).2.2.2 = (lowV p d).1 * d ∧ p.2.1 * (lowV p d).2.2.2 = (lowV p d).2.1 * d ∧ p.2.2 * (lowV p d).2.2.2 = (lowV p d).2.2.1 * d := by
  obtain ⟨h0, h1, h2, h3⟩ := g4_dvd p d
  have key : ∀ n : Int, g4 p d ∣ n.natAbs → n * d.tdiv (s4 p d) = n.tdiv (s4 p d) * d := fun n hn => by
    have e1 := Int.mul_tdiv_cancel' (s4_dvd (p := p) h0)
    have e2 := Int.mul_tdiv_cancel' (s4_dvd (p := p) hn)
    generalize d.tdiv (s4 p d) = x at *
    generalize n.tdiv (s4 p d) = y at *
    generalize s4 p d = s at *
    rw [← e1, ← e2]
    grind
  exact ⟨key _ h1, key _ h2, key _ h3⟩
theorem tdiv_size {n d m : Int} (h : -m ≤ n ∧ n ≤ m) : -m ≤ n.tdiv d ∧ n.tdiv d ≤ m := by
  have h1 : (n.tdiv d).natAbs = n.natAbs / d.natAbs := Int.natAbs_tdiv n d
  have h2 : n.natAbs / d.natAbs ≤ n.natAbs := Nat.div_le_self _ _
  omega
theorem lowV_le {p : V3} {d P D : Int} (hp : V3.le p P) (hd : -D ≤ d ∧ d ≤ D) : V3.le (wpt (lowV p d)) P ∧ (lowV p d).2.2.2 ≤ D :=
  ⟨⟨tdiv_size hp.1, tdiv_size hp.2.1, tdiv_size hp.2.2⟩, (tdiv_size hd).2⟩
/-- Winds in lowest terms with the same quotients are the same. -/
theorem WOK.eq {v w : WV} (hv : WOK v) (hw : WOK w) (h1 : v.1 * w.2.2.2 = w.1 * v.2.2.2) (h2 : v.2.1 * w.2.2.2 = w.2.1 * v.2.2.2) (h3 : v.2.2.1 * w.2.2.2 = w.2.2.1 * v.2.2.2) : v = w := by
  have key : ∀ {v w : WV}, WOK v → v.1 * w.2.2.2 = w.1 * v.2.2.2 → v.2.1 * w.2.2.2 = w.2.1 * v.2.2.2 → v.2.2.1 * w.2.2.2 = w.2.2.1 * v.2.2.2 → v.2.2.2.natAbs ∣ w.2.2.2.natAbs := fun {v w} hv h1 h2 h3 => by
    have hl := hv.low
    rw [gcdL_four] at hl
    have e : ∀ a b : Int, a * w.2.2.2 = b * v.2.2.2 → v.2.2.2.natAbs ∣ a.natAbs * w.2.2.2.natAbs := fun a b h => by
      rw [← Int.natAbs_mul, h, Int.natAbs_mul]; exact Nat.dvd_mul_left _ _
    have d3 := e _ _ h3
    have d2 := e _ _ h2
    have d1 := e _ _ h1
    have q1 := Nat.dvd_gcd d2 d3
    rw [Nat.gcd_mul_right] at q1
    have q2 := Nat.dvd_gcd d1 q1
    rw [Nat.gcd_mul_right] at q2
    have q3 := Nat.dvd_gcd (Nat.dvd_mul_right v.2.2.2.natAbs w.2.2.2.natAbs) q2
    rw [Nat.gcd_mul_right, hl, Nat.one_mul] at q3
    exact q3
  have hd : v.2.2.2 = w.2.2.2 := by
    have a := key hv h1 h2 h3
    have b := key hw h1.symm h2.symm h3.symm
    have c := Nat.dvd_antisymm a b
    have := hv.den
    have := hw.den
    omega
  have hne : w.2.2.2 ≠ 0 := by have := hw.den; omega
  obtain ⟨x, y, z, d⟩ := v
  obtain ⟨x', y', z', d'⟩ := w
  simp only at hd h1 h2 h3 hne
  subst hd
  rw [Int.eq_of_mul_eq_mul_right hne h1, Int.eq_of_mul_eq_mul_right hne h2, Int.eq_of_mul_eq_mul_right hne h3]

/-! ### the order -/
def firstN (a b c : Int) : Int := if a ≠ 0 then a else if b ≠ 0 then b else c
def ordC (a b : WV) : Int := firstN (a.1 * b.2.2.2 - b.1 * a.2.2.2) (a.2.1 * b.2.2.2 - b.2.1 * a.2.2.2) (a.2.2.1 * b.2.2.2 - b.2.2.1 * a.2.2.2)
/-- Quotients compared. -/
theorem q_lt {a b c p q r : Int} (hp : 0 < p) (hq : 0 < q) (hr : 0 < r) (h1 : a * q < b * p) (h2 : b * r ≤ c * q) : a * r < c * p := by
  have e1 : a * q * r < b * p * r := Int.mul_lt_mul_of_pos_right h1 hr
  have e2 : b * r * p ≤ c * q * p := Int.mul_le_mul_of_nonneg_right h2 (by omega)
  have e3 : (a * r) * q < (c * p) * q := by grind
  exact Int.lt_of_mul_lt_mul_right e3 (by omega)
theorem q_lt' {a b c p q r : Int} (hp : 0 < p) (hq : 0 < q) (hr : 0 < r) (h1 : a * q ≤ b * p) (h2 : b * r < c * q) : a * r < c * p := by
  have e1 : a * q * r ≤ b * p * r := Int.mul_le_mul_of_nonneg_right h1 (by omega)
  have e2 : b * r * p < c * q * p := Int.mul_lt_mul_of_pos_right h2 hp
  have e3 : (a * r) * q < (c * p) * q := by grind
  exact Int.lt_of_mul_lt_mul_right e3 (by omega)
theorem q_le {a b c p q r : Int} (hp : 0 < p) (hq : 0 < q) (hr : 0 < r) (h1 : a * q ≤ b * p) (h2 : b * r ≤ c * q) : a * r ≤ c * p := by
  have e1 : a * q * r ≤ b * p * r := Int.mul_le_mul_of_nonneg_right h1 (by omega)
  have e2 : b * r * p ≤ c * q * p := Int.mul_le_mul_of_nonneg_right h2 (by omega)
  have e3 : (a * r) * q ≤ (c * p) * q := by grind
  exact Int.le_of_mul_le_mul_right e3 (by omega)
def wlt (a b : WV) : Prop := ordC a b < 0
theorem wlt_iff {a b : WV} : wlt a b ↔ a.1 * b.2.2.2 < b.1 * a.2.2.2 ∨ (a.1 * b.2.2.2 = b.1 * a.2.2.2 ∧ (a.2.1 * b.2.2.2 < b.2.1 * a.2.2.2 ∨ (a.2.1 * b.2.2.2 = b.2.1 * a.2.2.2 ∧ a.2.2.1 * b.2.2.2 < b.2.2.1 * a.2.2.2))) := by
  unfold wlt ordC firstN
  split
  · omega
  · split <;> omega
theorem wlt_irrefl (a : WV) : ¬ wlt a a := by rw [wlt_iff]; omega
theorem wlt_trans {a b c : WV} (ha : 0 < a.2.2.2) (hb : 0 < b.2.2.2) (hc : 0 < c.2.2.2) (h1 : wlt a b) (h2 : wlt b c) : wlt a c := by
  rw [wlt_iff] at h1 h2 ⊢
  have le : ∀ {x y z : Int}, x * b.2.2.2 = y * a.2.2.2 → y * c.2.2.2 = z * b.2.2.2 → x * c.2.2.2 = z * a.2.2.2 := fun {x y z} e1 e2 =>
    Int.le_antisymm (q_le (b := y) ha hb hc (by omega) (by omega)) (q_le (b := y) hc hb ha (by omega) (by omega))
  rcases h1 with h1 | ⟨e1, h1⟩
  · rcases h2 with h2 | ⟨e2, _⟩
    · exact .inl (q_lt ha hb hc h1 (by omega))
    · exact .inl (q_lt ha hb hc h1 (by omega))
  · rcases h2 with h2 | ⟨e2, h2⟩
    · exact .inl (q_lt' ha hb hc (by omega) h2)
    · refine .inr ⟨le e1 e2, ?_⟩
      rcases h1 with h1 | ⟨e3, h1⟩
      · rcases h2 with h2 | ⟨e4, _⟩
        · exact .inl (q_lt ha hb hc h1 (by omega))
        · exact .inl (q_lt ha hb hc h1 (by omega))
      · rcases h2 with h2 | ⟨e4, h2⟩
        · exact .inl (q_lt' ha hb hc (by omega) h2)
        · exact .inr ⟨le e3 e4, q_lt ha hb hc h1 (by omega)⟩
theorem wlt_total {a b : WV} (ha : WOK a) (hb : WOK b) (h1 : ¬ wlt a b) (h2 : ¬ wlt b a) : a = b := by
  rw [wlt_iff] at h1 h2
  refine ha.eq hb ?_ ?_ ?_ <;> omega

/-! ### ascending winds -/
def insW (l : List WV) (v : WV) : List WV := match l with
  | [] => [v]
  | w :: r => if ordC w v < 0 then w :: insW r v else if w = v then w :: r else v :: w :: r
def sortW (l : List WV) : List WV := l.foldl insW []
def Asc (l : List WV) : Prop := l.Pairwise wlt
theorem insW_mem {v x : WV} : ∀ {l : List WV}, x ∈ insW l v ↔ x ∈ l ∨ x = v
  | [] => by simp [insW]
  | w :: r => by
    unfold insW
    split
    · simp only [List.mem_cons, insW_mem (l := r)]
      constructor
      · rintro (h | h | h)
        · exact .inl (.inl h)
        · exact .inl (.inr h)
        · exact .inr h
      · rintro ((h | h) | h)
        · exact .inl h
        · exact .inr (.inl h)
        · exact .inr (.inr h)
    · split
      · rename_i e
        subst e
        simp only [List.mem_cons]
        constructor
        · exact .inl
        · rintro (h | h)
          · exact h
          · exact .inl h
      · simp only [List.mem_cons]
        constructor
        · rintro (h | h)
          · exact .inr h
          · exact .inl h
        · rintro (h | h)
          · exact .inr h
          · exact .inl h
theorem insW_asc {v : WV} (hv : WOK v) : ∀ {l : List WV}, (∀ w ∈ l, WOK w) → Asc l → Asc (insW l v)
  | [], _, _ => by simp [insW, Asc]
  | w :: r, hl, ha => by
    have ha' := List.pairwise_cons.1 ha
    have hw := hl w (.head _)
    unfold insW
    split
    · rename_i h
      refine List.pairwise_cons.2 ⟨fun x hx => ?_, insW_asc hv (fun x hx => hl x (.tail _ hx)) ha'.2⟩
      rcases insW_mem.1 hx with hx | rfl
      · exact ha'.1 x hx
      · exact h
    · rename_i h
      split
      · exact ha
      · rename_i hne
        have hlt : wlt v w := Classical.byContradiction fun h2 => hne (wlt_total hw hv h h2)
        refine List.pairwise_cons.2 ⟨fun x hx => ?_, ha⟩
        rcases List.mem_cons.1 hx with rfl | hx
        · exact hlt
        · exact wlt_trans hv.den hw.den (hl x (.tail _ hx)).den hlt (ha'.1 x hx)
theorem foldW_mem {x : WV} : ∀ {l acc : List WV}, x ∈ l.foldl insW acc ↔ x ∈ acc ∨ x ∈ l
  | [], acc => by simp
  | v :: r, acc => by
    rw [List.foldl_cons, foldW_mem, insW_mem, List.mem_cons, or_assoc]
theorem foldW_asc : ∀ {l acc : List WV}, (∀ w ∈ acc, WOK w) → (∀ w ∈ l, WOK w) → Asc acc → Asc (l.foldl insW acc)
  | [], _, _, _, h => h
  | v :: r, acc, ha, hl, h => by
    rw [List.foldl_cons]
    refine foldW_asc (fun w hw => ?_) (fun w hw => hl w (.tail _ hw)) (insW_asc (hl v (.head _)) ha h)
    rcases insW_mem.1 hw with hw | rfl
    · exact ha w hw
    · exact hl _ (.head _)
/-- Ascending winds are told by what is among them. -/
theorem asc_eq : ∀ {a b : List WV}, (∀ w ∈ a, WOK w) → (∀ w ∈ b, WOK w) → Asc a → Asc b → (∀ x, x ∈ a ↔ x ∈ b) → a = b
  | [], [], _, _, _, _, _ => rfl
  | [], y :: s, _, _, _, _, h => absurd ((h y).2 (.head _)) (by simp)
  | x :: r, [], _, _, _, _, h => absurd ((h x).1 (.head _)) (by simp)
  | x :: r, y :: s, ha, hb, pa, pb, h => by
    have pa' := List.pairwise_cons.1 pa
    have pb' := List.pairwise_cons.1 pb
    have hx := ha x (.head _)
    have hy := hb y (.head _)
    have e : x = y := by
      rcases List.mem_cons.1 ((h x).1 (.head _)) with e | h1
      · exact e
      · rcases List.mem_cons.1 ((h y).2 (.head _)) with e | h2
        · exact e.symm
        · exact absurd (wlt_trans hx.den hy.den hx.den (pa'.1 y h2) (pb'.1 x h1)) (wlt_irrefl x)
    subst e
    have hn : ∀ z, z ∈ r → z ≠ x := fun z hz e => by subst e; exact wlt_irrefl _ (pa'.1 _ hz)
    have hm : ∀ z, z ∈ s → z ≠ x := fun z hz e => by subst e; exact wlt_irrefl _ (pb'.1 _ hz)
    rw [asc_eq (fun w hw => ha w (.tail _ hw)) (fun w hw => hb w (.tail _ hw)) pa'.2 pb'.2 fun z => ⟨fun hz => ?_, fun hz => ?_⟩]
    · rcases List.mem_cons.1 ((h z).1 (.tail _ hz)) with e | h1
      · exact absurd e (hn z hz)
      · exact h1
    · rcases List.mem_cons.1 ((h z).2 (.tail _ hz)) with e | h1
      · exact absurd e (hm z hz)
      · exact h1
theorem sortW_asc {l : List WV} (h : ∀ w ∈ l, WOK w) : Asc (sortW l) := foldW_asc (fun w hw => by cases hw) h List.Pairwise.nil
theorem sortW_mem {l : List WV} {x : WV} : x ∈ sortW l ↔ x ∈ l := by unfold sortW; rw [foldW_mem]; simp
theorem sortW_ok {l : List WV} (h : ∀ w ∈ l, WOK w) : ∀ w ∈ sortW l, WOK w := fun w hw => h w (sortW_mem.1 hw)
/-- A sorted order of winds that are all different is that one. -/
theorem sortW_eq {xs ys : List WV} (h : ∀ w ∈ xs, WOK w) (hn : xs.Nodup) (hp : ys.Perm xs) (hs : ys.Pairwise (fun a b => ¬ ordC b a < 0)) : ys = sortW xs := by
  have hy : ∀ w ∈ ys, WOK w := fun w hw => h w (hp.mem_iff.1 hw)
  have hyn : ys.Nodup := hp.nodup_iff.2 hn
  refine asc_eq hy (sortW_ok h) ?_ (sortW_asc h) fun x => by rw [sortW_mem, hp.mem_iff]
  have hboth := hs.and hyn
  refine List.Pairwise.imp_of_mem ?_ hboth
  intro a b ma mb hab
  exact Classical.byContradiction fun h1 => hab.2 (wlt_total (hy a ma) (hy b mb) h1 hab.1)

/-! ### solved out of three equations, as the machine does -/
def solP (x : M3 × V3) : V3 := (w64 (det3 (c0 x.1 x.2)), w64 (det3 (c1 x.1 x.2)), w64 (det3 (c2 x.1 x.2)))
def solD (x : M3 × V3) (by_ : Int) : Int := w64 (by_ * w64 (det3 x.1))
end Go.Pi
end

section
namespace Go.Proofs.Ytglijnhkdnhofaa
open Go Go.Pi Go.RowKit
set_option maxRecDepth 100000
set_option linter.unusedVariables false
set_option linter.unusedSimpArgs false

def f101 (x : (((Int × Int × Int) × (Int × Int × Int) × Int × Int × Int) × Int × Int × Int) × Int) : Int × Int × Int × Int := lowV (solP x.1) (solD x.1 x.2)
def f101_pre (x : (((Int × Int × Int) × (Int × Int × Int) × Int × Int × Int) × Int × Int × Int) × Int) : Prop := Fit (solD x.1 x.2) ∧ (Fit (solP x.1).1 ∧ Fit (solP x.1).2.1 ∧ Fit (solP x.1).2.2) ∧ solD x.1 x.2 ≠ 0
def f101_e : Entry := { doms := [(true, (.pair (.pair (.pair (.int .i64) (.pair (.int .i64) (.int .i64))) (.pair (.pair (.int .i64) (.pair (.int .i64) (.int .i64))) (.pair (.int .i64) (.pair (.int .i64) (.int .i64))))) (.pair (.int .i64) (.pair (.int .i64) (.int .i64))))), (false, (.int .i64))], cods := [(true, (.pair (.int .i64) (.pair (.int .i64) (.pair (.int .i64) (.int .i64)))))], pre := f101_pre, fn := f101, uq := false, total := false }
def f101_E : Env := [(104, f104_e), (109, f109_e)]
def f101_A : Anns := { loops := [], own := [1152921504607901698, 1152921504608950274, 1152921504609998850], unroll := 4 }
theorem f101_run (a0 : ((Int × Int × Int) × (Int × Int × Int) × Int × Int × Int) × Int × Int × Int) (a1 : Int) (K : (Int × Int × Int × Int) → Prop) : runF Try.prog f101_E f101_A 6 Try.f101 f101_e.doms f101_e.cods (a0, a1) K =
    (f109_pre ([(IntKind.i64.wrap (a1 * (f104 a0.1))), (f104 ((a0.2.1, a0.1.1.2), ((a0.2.2.1, a0.1.2.1.2), (a0.2.2.2, a0.1.2.2.2)))), (f104 ((a0.1.1.1, (a0.2.1, a0.1.1.2.2)), ((a0.1.2.1.1, (a0.2.2.1, a0.1.2.1.2.2)), (a0.1.2.2.1, (a0.2.2.2, a0.1.2.2.2.2))))), (f104 ((a0.1.1.1, (a0.1.1.2.1, a0.2.1)), ((a0.1.2.1.1, (a0.1.2.1.2.1, a0.2.2.1)), (a0.1.2.2.1, (a0.1.2.2.2.1, a0.2.2.2)))))] : List Int) ∧
    br (decide ((IntKind.i64.wrap (a1 * (f104 a0.1))) < 0))
    (br (!(decide ((IntKind.i64.wrap (0 - (f109 ([(IntKind.i64.wrap (a1 * (f104 a0.1))), (f104 ((a0.2.1, a0.1.1.2), ((a0.2.2.1, a0.1.2.1.2), (a0.2.2.2, a0.1.2.2.2)))), (f104 ((a0.1.1.1, (a0.2.1, a0.1.1.2.2)), ((a0.1.2.1.1, (a0.2.2.1, a0.1.2.1.2.2)), (a0.1.2.2.1, (a0.2.2.2, a0.1.2.2.2.2))))), (f104 ((a0.1.1.1, (a0.1.1.2.1, a0.2.1)), ((a0.1.2.1.1, (a0.1.2.1.2.1, a0.2.2.1)), (a0.1.2.2.1, (a0.1.2.2.2.1, a0.2.2.2)))))] : List Int)))) = 0)))
    (br (!(decide ((IntKind.i64.wrap (0 - (f109 ([(IntKind.i64.wrap (a1 * (f104 a0.1))), (f104 ((a0.2.1, a0.1.1.2), ((a0.2.2.1, a0.1.2.1.2), (a0.2.2.2, a0.1.2.2.2)))), (f104 ((a0.1.1.1, (a0.2.1, a0.1.1.2.2)), ((a0.1.2.1.1, (a0.2.2.1, a0.1.2.1.2.2)), (a0.1.2.2.1, (a0.2.2.2, a0.1.2.2.2.2))))), (f104 ((a0.1.1.1, (a0.1.1.2.1, a0.2.1)), ((a0.1.2.1.1, (a0.1.2.1.2.1, a0.2.2.1)), (a0.1.2.2.1, (a0.1.2.2.2.1, a0.2.2.2)))))] : List Int)))) = 0)))
    (br (!(decide ((IntKind.i64.wrap (0 - (f109 ([(IntKind.i64.wrap (a1 * (f104 a0.1))), (f104 ((a0.2.1, a0.1.1.2), ((a0.2.2.1, a0.1.2.1.2), (a0.2.2.2, a0.1.2.2.2)))), (f104 ((a0.1.1.1, (a0.2.1, a0.1.1.2.2)), ((a0.1.2.1.1, (a0.2.2.1, a0.1.2.1.2.2)), (a0.1.2.2.1, (a0.2.2.2, a0.1.2.2.2.2))))), (f104 ((a0.1.1.1, (a0.1.1.2.1, a0.2.1)), ((a0.1.2.1.1, (a0.1.2.1.2.1, a0.2.2.1)), (a0.1.2.2.1, (a0.1.2.2.2.1, a0.2.2.2)))))] : List Int)))) = 0)))
    (br (!(decide ((IntKind.i64.wrap (0 - (f109 ([(IntKind.i64.wrap (a1 * (f104 a0.1))), (f104 ((a0.2.1, a0.1.1.2), ((a0.2.2.1, a0.1.2.1.2), (a0.2.2.2, a0.1.2.2.2)))), (f104 ((a0.1.1.1, (a0.2.1, a0.1.1.2.2)), ((a0.1.2.1.1, (a0.2.2.1, a0.1.2.1.2.2)), (a0.1.2.2.1, (a0.2.2.2, a0.1.2.2.2.2))))), (f104 ((a0.1.1.1, (a0.1.1.2.1, a0.2.1)), ((a0.1.2.1.1, (a0.1.2.1.2.1, a0.2.2.1)), (a0.1.2.2.1, (a0.1.2.2.2.1, a0.2.2.2)))))] : List Int)))) = 0)))
    (K ((IntKind.i64.wrap ((f104 ((a0.2.1, a0.1.1.2), ((a0.2.2.1, a0.1.2.1.2), (a0.2.2.2, a0.1.2.2.2)))).tdiv (IntKind.i64.wrap (0 - (f109 ([(IntKind.i64.wrap (a1 * (f104 a0.1))), (f104 ((a0.2.1, a0.1.1.2), ((a0.2.2.1, a0.1.2.1.2), (a0.2.2.2, a0.1.2.2.2)))), (f104 ((a0.1.1.1, (a0.2.1, a0.1.1.2.2)), ((a0.1.2.1.1, (a0.2.2.1, a0.1.2.1.2.2)), (a0.1.2.2.1, (a0.2.2.2, a0.1.2.2.2.2))))), (f104 ((a0.1.1.1, (a0.1.1.2.1, a0.2.1)), ((a0.1.2.1.1, (a0.1.2.1.2.1, a0.2.2.1)), (a0.1.2.2.1, (a0.1.2.2.2.1, a0.2.2.2)))))] : List Int)))))), ((IntKind.i64.wrap ((f104 ((a0.1.1.1, (a0.2.1, a0.1.1.2.2)), ((a0.1.2.1.1, (a0.2.2.1, a0.1.2.1.2.2)), (a0.1.2.2.1, (a0.2.2.2, a0.1.2.2.2.2))))).tdiv (IntKind.i64.wrap (0 - (f109 ([(IntKind.i64.wrap (a1 * (f104 a0.1))), (f104 ((a0.2.1, a0.1.1.2), ((a0.2.2.1, a0.1.2.1.2), (a0.2.2.2, a0.1.2.2.2)))), (f104 ((a0.1.1.1, (a0.2.1, a0.1.1.2.2)), ((a0.1.2.1.1, (a0.2.2.1, a0.1.2.1.2.2)), (a0.1.2.2.1, (a0.2.2.2, a0.1.2.2.2.2))))), (f104 ((a0.1.1.1, (a0.1.1.2.1, a0.2.1)), ((a0.1.2.1.1, (a0.1.2.1.2.1, a0.2.2.1)), (a0.1.2.2.1, (a0.1.2.2.2.1, a0.2.2.2)))))] : List Int)))))), ((IntKind.i64.wrap ((f104 ((a0.1.1.1, (a0.1.1.2.1, a0.2.1)), ((a0.1.2.1.1, (a0.1.2.1.2.1, a0.2.2.1)), (a0.1.2.2.1, (a0.1.2.2.2.1, a0.2.2.2))))).tdiv (IntKind.i64.wrap (0 - (f109 ([(IntKind.i64.wrap (a1 * (f104 a0.1))), (f104 ((a0.2.1, a0.1.1.2), ((a0.2.2.1, a0.1.2.1.2), (a0.2.2.2, a0.1.2.2.2)))), (f104 ((a0.1.1.1, (a0.2.1, a0.1.1.2.2)), ((a0.1.2.1.1, (a0.2.2.1, a0.1.2.1.2.2)), (a0.1.2.2.1, (a0.2.2.2, a0.1.2.2.2.2))))), (f104 ((a0.1.1.1, (a0.1.1.2.1, a0.2.1)), ((a0.1.2.1.1, (a0.1.2.1.2.1, a0.2.2.1)), (a0.1.2.2.1, (a0.1.2.2.2.1, a0.2.2.2)))))] : List Int)))))), (IntKind.i64.wrap ((IntKind.i64.wrap (a1 * (f104 a0.1))).tdiv (IntKind.i64.wrap (0 - (f109 ([(IntKind.i64.wrap (a1 * (f104 a0.1))), (f104 ((a0.2.1, a0.1.1.2), ((a0.2.2.1, a0.1.2.1.2), (a0.2.2.2, a0.1.2.2.2)))), (f104 ((a0.1.1.1, (a0.2.1, a0.1.1.2.2)), ((a0.1.2.1.1, (a0.2.2.1, a0.1.2.1.2.2)), (a0.1.2.2.1, (a0.2.2.2, a0.1.2.2.2.2))))), (f104 ((a0.1.1.1, (a0.1.1.2.1, a0.2.1)), ((a0.1.2.1.1, (a0.1.2.1.2.1, a0.2.2.1)), (a0.1.2.2.1, (a0.1.2.2.2.1, a0.2.2.2)))))] : List Int))))))))))
    False)
    False)
    False)
    False)
    (br (!(decide ((f109 ([(IntKind.i64.wrap (a1 * (f104 a0.1))), (f104 ((a0.2.1, a0.1.1.2), ((a0.2.2.1, a0.1.2.1.2), (a0.2.2.2, a0.1.2.2.2)))), (f104 ((a0.1.1.1, (a0.2.1, a0.1.1.2.2)), ((a0.1.2.1.1, (a0.2.2.1, a0.1.2.1.2.2)), (a0.1.2.2.1, (a0.2.2.2, a0.1.2.2.2.2))))), (f104 ((a0.1.1.1, (a0.1.1.2.1, a0.2.1)), ((a0.1.2.1.1, (a0.1.2.1.2.1, a0.2.2.1)), (a0.1.2.2.1, (a0.1.2.2.2.1, a0.2.2.2)))))] : List Int)) = 0)))
    (br (!(decide ((f109 ([(IntKind.i64.wrap (a1 * (f104 a0.1))), (f104 ((a0.2.1, a0.1.1.2), ((a0.2.2.1, a0.1.2.1.2), (a0.2.2.2, a0.1.2.2.2)))), (f104 ((a0.1.1.1, (a0.2.1, a0.1.1.2.2)), ((a0.1.2.1.1, (a0.2.2.1, a0.1.2.1.2.2)), (a0.1.2.2.1, (a0.2.2.2, a0.1.2.2.2.2))))), (f104 ((a0.1.1.1, (a0.1.1.2.1, a0.2.1)), ((a0.1.2.1.1, (a0.1.2.1.2.1, a0.2.2.1)), (a0.1.2.2.1, (a0.1.2.2.2.1, a0.2.2.2)))))] : List Int)) = 0)))
    (br (!(decide ((f109 ([(IntKind.i64.wrap (a1 * (f104 a0.1))), (f104 ((a0.2.1, a0.1.1.2), ((a0.2.2.1, a0.1.2.1.2), (a0.2.2.2, a0.1.2.2.2)))), (f104 ((a0.1.1.1, (a0.2.1, a0.1.1.2.2)), ((a0.1.2.1.1, (a0.2.2.1, a0.1.2.1.2.2)), (a0.1.2.2.1, (a0.2.2.2, a0.1.2.2.2.2))))), (f104 ((a0.1.1.1, (a0.1.1.2.1, a0.2.1)), ((a0.1.2.1.1, (a0.1.2.1.2.1, a0.2.2.1)), (a0.1.2.2.1, (a0.1.2.2.2.1, a0.2.2.2)))))] : List Int)) = 0)))
    (br (!(decide ((f109 ([(IntKind.i64.wrap (a1 * (f104 a0.1))), (f104 ((a0.2.1, a0.1.1.2), ((a0.2.2.1, a0.1.2.1.2), (a0.2.2.2, a0.1.2.2.2)))), (f104 ((a0.1.1.1, (a0.2.1, a0.1.1.2.2)), ((a0.1.2.1.1, (a0.2.2.1, a0.1.2.1.2.2)), (a0.1.2.2.1, (a0.2.2.2, a0.1.2.2.2.2))))), (f104 ((a0.1.1.1, (a0.1.1.2.1, a0.2.1)), ((a0.1.2.1.1, (a0.1.2.1.2.1, a0.2.2.1)), (a0.1.2.2.1, (a0.1.2.2.2.1, a0.2.2.2)))))] : List Int)) = 0)))
    (K ((IntKind.i64.wrap ((f104 ((a0.2.1, a0.1.1.2), ((a0.2.2.1, a0.1.2.1.2), (a0.2.2.2, a0.1.2.2.2)))).tdiv (f109 ([(IntKind.i64.wrap (a1 * (f104 a0.1))), (f104 ((a0.2.1, a0.1.1.2), ((a0.2.2.1, a0.1.2.1.2), (a0.2.2.2, a0.1.2.2.2)))), (f104 ((a0.1.1.1, (a0.2.1, a0.1.1.2.2)), ((a0.1.2.1.1, (a0.2.2.1, a0.1.2.1.2.2)), (a0.1.2.2.1, (a0.2.2.2, a0.1.2.2.2.2))))), (f104 ((a0.1.1.1, (a0.1.1.2.1, a0.2.1)), ((a0.1.2.1.1, (a0.1.2.1.2.1, a0.2.2.1)), (a0.1.2.2.1, (a0.1.2.2.2.1, a0.2.2.2)))))] : List Int)))), ((IntKind.i64.wrap ((f104 ((a0.1.1.1, (a0.2.1, a0.1.1.2.2)), ((a0.1.2.1.1, (a0.2.2.1, a0.1.2.1.2.2)), (a0.1.2.2.1, (a0.2.2.2, a0.1.2.2.2.2))))).tdiv (f109 ([(IntKind.i64.wrap (a1 * (f104 a0.1))), (f104 ((a0.2.1, a0.1.1.2), ((a0.2.2.1, a0.1.2.1.2), (a0.2.2.2, a0.1.2.2.2)))), (f104 ((a0.1.1.1, (a0.2.1, a0.1.1.2.2)), ((a0.1.2.1.1, (a0.2.2.1, a0.1.2.1.2.2)), (a0.1.2.2.1, (a0.2.2.2, a0.1.2.2.2.2))))), (f104 ((a0.1.1.1, (a0.1.1.2.1, a0.2.1)), ((a0.1.2.1.1, (a0.1.2.1.2.1, a0.2.2.1)), (a0.1.2.2.1, (a0.1.2.2.2.1, a0.2.2.2)))))] : List Int)))), ((IntKind.i64.wrap ((f104 ((a0.1.1.1, (a0.1.1.2.1, a0.2.1)), ((a0.1.2.1.1, (a0.1.2.1.2.1, a0.2.2.1)), (a0.1.2.2.1, (a0.1.2.2.2.1, a0.2.2.2))))).tdiv (f109 ([(IntKind.i64.wrap (a1 * (f104 a0.1))), (f104 ((a0.2.1, a0.1.1.2), ((a0.2.2.1, a0.1.2.1.2), (a0.2.2.2, a0.1.2.2.2)))), (f104 ((a0.1.1.1, (a0.2.1, a0.1.1.2.2)), ((a0.1.2.1.1, (a0.2.2.1, a0.1.2.1.2.2)), (a0.1.2.2.1, (a0.2.2.2, a0.1.2.2.2.2))))), (f104 ((a0.1.1.1, (a0.1.1.2.1, a0.2.1)), ((a0.1.2.1.1, (a0.1.2.1.2.1, a0.2.2.1)), (a0.1.2.2.1, (a0.1.2.2.2.1, a0.2.2.2)))))] : List Int)))), (IntKind.i64.wrap ((IntKind.i64.wrap (a1 * (f104 a0.1))).tdiv (f109 ([(IntKind.i64.wrap (a1 * (f104 a0.1))), (f104 ((a0.2.1, a0.1.1.2), ((a0.2.2.1, a0.1.2.1.2), (a0.2.2.2, a0.1.2.2.2)))), (f104 ((a0.1.1.1, (a0.2.1, a0.1.1.2.2)), ((a0.1.2.1.1, (a0.2.2.1, a0.1.2.1.2.2)), (a0.1.2.2.1, (a0.2.2.2, a0.1.2.2.2.2))))), (f104 ((a0.1.1.1, (a0.1.1.2.1, a0.2.1)), ((a0.1.2.1.1, (a0.1.2.1.2.1, a0.2.2.1)), (a0.1.2.2.1, (a0.1.2.2.2.1, a0.2.2.2)))))] : List Int))))))))
    False)
    False)
    False)
    False)) := by kernel_rfl
theorem f101_t (a0 : ((Int × Int × Int) × (Int × Int × Int) × Int × Int × Int) × Int × Int × Int) (a1 : Int) (hpre : f101_pre (a0, a1)) (K : (Int × Int × Int × Int) → Prop) (hK : ∀ y : Int × Int × Int × Int, y = f101 (a0, a1) → K y) : RunF Try.prog f101_E f101_A 6 Try.f101 f101_e.doms f101_e.cods (a0, a1) K := by
  refine ⟨?_⟩
  rw [f101_run a0 a1 K]
  obtain ⟨hd, ⟨h1, h2, h3⟩, hne⟩ := hpre
  dsimp only at hd h1 h2 h3 hne
  have e0 : IntKind.i64.wrap (a1 * f104 a0.1) = solD a0 a1 := rfl
  have e1 : f104 ((a0.2.1, a0.1.1.2), (a0.2.2.1, a0.1.2.1.2), a0.2.2.2, a0.1.2.2.2) = (solP a0).1 := rfl
  have e2 : f104 ((a0.1.1.1, a0.2.1, a0.1.1.2.2), (a0.1.2.1.1, a0.2.2.1, a0.1.2.1.2.2), a0.1.2.2.1, a0.2.2.2, a0.1.2.2.2.2) = (solP a0).2.1 := rfl
  have e3 : f104 ((a0.1.1.1, a0.1.1.2.1, a0.2.1), (a0.1.2.1.1, a0.1.2.1.2.1, a0.2.2.1), a0.1.2.2.1, a0.1.2.2.2.1, a0.2.2.2) = (solP a0).2.2 := rfl
  rw [e0, e1, e2, e3]
  have hp : f109_pre [solD a0 a1, (solP a0).1, (solP a0).2.1, (solP a0).2.2] := fun n hn => by
    simp only [List.mem_cons, List.not_mem_nil, or_false] at hn
    rcases hn with rfl | rfl | rfl | rfl <;> assumption
  have hg : f109 [solD a0 a1, (solP a0).1, (solP a0).2.1, (solP a0).2.2] = (g4 (solP a0) (solD a0 a1) : Int) := rfl
  have hle : g4 (solP a0) (solD a0 a1) ≤ 9223372036854775807 := gcdL_fit hp
  have hpos := g4_pos (p := solP a0) hne
  have hng : IntKind.i64.wrap (0 - (g4 (solP a0) (solD a0 a1) : Int)) = -(g4 (solP a0) (solD a0 a1) : Int) := by rw [wr (by omega) (by omega)]; omega
  have hw : ∀ n m : Int, Fit n → IntKind.i64.wrap (n.tdiv m) = n.tdiv m := fun n m h => w64_fit (tdiv_fit h)
  have ef : f101 (a0, a1) = lowV (solP a0) (solD a0 a1) := rfl
  rw [hg, hng]
  refine ⟨hp, br_if (fun h => ?_) fun h => ?_⟩
  · have hn := ne_zero_b (show -(g4 (solP a0) (solD a0 a1) : Int) ≠ 0 by omega)
    refine br_must hn (br_must hn (br_must hn (br_must hn (hK _ ?_))))
    rw [hw _ _ h1, hw _ _ h2, hw _ _ h3, hw _ _ hd, ef]
    simp only [lowV, s4, if_pos h]
  · have hn := ne_zero_b (show (g4 (solP a0) (solD a0 a1) : Int) ≠ 0 by omega)
    refine br_must hn (br_must hn (br_must hn (br_must hn (hK _ ?_))))
    rw [hw _ _ h1, hw _ _ h2, hw _ _ h3, hw _ _ hd, ef]
    simp only [lowV, s4, if_neg h]
theorem f101_fn : f101_e.fn = f101 := rfl
theorem f101_ok : EntryOK Try.prog 101 f101_e := by
  refine entryF progOK (EnvOK.cons f104_ok (EnvOK.cons f109_ok (EnvOK.nil))) (A := f101_A) (d := 6) Try.func101 rfl rfl rfl rfl (fun h => by cases h) fun x hpre => ?_
  obtain ⟨a0, a1⟩ := x
  exact f101_t a0 a1 hpre _ fun _ h => h.trans (congrFun f101_fn.symm _)
end Go.Proofs.Ytglijnhkdnhofaa
end

section
namespace Go.Proofs.Ytglijnhkdnhofaa
open Go Go.Pi Go.RowKit
set_option maxRecDepth 100000
set_option linter.unusedVariables false
set_option linter.unusedSimpArgs false

def f131 (x : (Int × Int) × Int × Int) : Int := w64 (x.1.1 * x.2.2 - x.2.1 * x.1.2)
def f131_e : Entry := { doms := [(true, (.pair (.int .i64) (.int .i64))), (true, (.pair (.int .i64) (.int .i64)))], cods := [(false, (.int .i64))], pre := fun _ => True, fn := f131, uq := false, total := true }
def f131_E : Env := []
def f131_A : Anns := { loops := [], own := [] }
theorem f131_run (a0 : Int × Int) (a1 : Int × Int) (K : Int → Prop) : runF Try.prog f131_E f131_A 6 Try.f131 f131_e.doms f131_e.cods (a0, a1) K =
    (K (IntKind.i64.wrap ((IntKind.i64.wrap (a0.1 * a1.2)) - (IntKind.i64.wrap (a1.1 * a0.2))))) := by kernel_rfl
theorem f131_t (a0 : Int × Int) (a1 : Int × Int) (K : Int → Prop) (hK : ∀ y : Int, y = f131 (a0, a1) → K y) : RunF Try.prog f131_E f131_A 6 Try.f131 f131_e.doms f131_e.cods (a0, a1) K := by
  refine ⟨?_⟩
  rw [f131_run a0 a1 K]
  exact hK _ (by simp only [f131, w64, wrap_sub_l, wrap_sub_r])
theorem f131_fn : f131_e.fn = f131 := rfl
theorem f131_ok : EntryOK Try.prog 131 f131_e := by
  refine entryF progOK (EnvOK.nil) (A := f131_A) (d := 6) Try.func131 rfl rfl rfl rfl (fun _ _ => trivial) fun x hpre => ?_
  obtain ⟨a0, a1⟩ := x
  exact f131_t a0 a1 _ fun _ h => h.trans (congrFun f131_fn.symm _)
end Go.Proofs.Ytglijnhkdnhofaa
end

section
namespace Go.Proofs.Ytglijnhkdnhofaa
open Go Go.Pi Go.RowKit
set_option maxRecDepth 100000
set_option linter.unusedVariables false
set_option linter.unusedSimpArgs false

def f129 (x : (Int × Int × Int × Int) × Int × Int × Int × Int) : Int := firstN (w64 (x.1.1 * x.2.2.2.2 - x.2.1 * x.1.2.2.2)) (w64 (x.1.2.1 * x.2.2.2.2 - x.2.2.1 * x.1.2.2.2)) (w64 (x.1.2.2.1 * x.2.2.2.2 - x.2.2.2.1 * x.1.2.2.2))
def f129_e : Entry := { doms := [(true, (.pair (.int .i64) (.pair (.int .i64) (.pair (.int .i64) (.int .i64))))), (true, (.pair (.int .i64) (.pair (.int .i64) (.pair (.int .i64) (.int .i64)))))], cods := [(false, (.int .i64))], pre := fun _ => True, fn := f129, uq := false, total := true }
def f129_E : Env := [(102, f102_e), (131, f131_e)]
def f129_A : Anns := { loops := [], own := [], unroll := 4 }
theorem f129_run (a0 : Int × Int × Int × Int) (a1 : Int × Int × Int × Int) (K : Int → Prop) : runF Try.prog f129_E f129_A 6 Try.f129 f129_e.doms f129_e.cods (a0, a1) K =
    (br ((f131 (((f102 a0).1, a0.2.2.2), ((f102 a1).1, a1.2.2.2))) != 0)
    (K (f131 (((f102 a0).1, a0.2.2.2), ((f102 a1).1, a1.2.2.2))))
    (br ((f131 ((((f102 a0).2).1, a0.2.2.2), (((f102 a1).2).1, a1.2.2.2))) != 0)
    (K (f131 ((((f102 a0).2).1, a0.2.2.2), (((f102 a1).2).1, a1.2.2.2))))
    (br ((f131 ((((f102 a0).2).2, a0.2.2.2), (((f102 a1).2).2, a1.2.2.2))) != 0)
    (K (f131 ((((f102 a0).2).2, a0.2.2.2), (((f102 a1).2).2, a1.2.2.2))))
    (K 0)))) := by kernel_rfl
theorem f129_t (a0 : Int × Int × Int × Int) (a1 : Int × Int × Int × Int) (K : Int → Prop) (hK : ∀ y : Int, y = f129 (a0, a1) → K y) : RunF Try.prog f129_E f129_A 6 Try.f129 f129_e.doms f129_e.cods (a0, a1) K := by
  refine ⟨?_⟩
  rw [f129_run a0 a1 K]
  have e1 : f131 (((f102 a0).1, a0.2.2.2), (f102 a1).1, a1.2.2.2) = w64 (a0.1 * a1.2.2.2 - a1.1 * a0.2.2.2) := rfl
  have e2 : f131 (((f102 a0).2.1, a0.2.2.2), (f102 a1).2.1, a1.2.2.2) = w64 (a0.2.1 * a1.2.2.2 - a1.2.1 * a0.2.2.2) := rfl
  have e3 : f131 (((f102 a0).2.2, a0.2.2.2), (f102 a1).2.2, a1.2.2.2) = w64 (a0.2.2.1 * a1.2.2.2 - a1.2.2.1 * a0.2.2.2) := rfl
  rw [e1, e2, e3]
  have ef : f129 (a0, a1) = firstN (w64 (a0.1 * a1.2.2.2 - a1.1 * a0.2.2.2)) (w64 (a0.2.1 * a1.2.2.2 - a1.2.1 * a0.2.2.2)) (w64 (a0.2.2.1 * a1.2.2.2 - a1.2.2.1 * a0.2.2.2)) := rfl
  rw [ef] at hK
  refine br_two (fun h => hK _ ?_) fun h => br_two (fun h2 => hK _ ?_) fun h2 => br_two (fun h3 => hK _ ?_) fun h3 => hK _ ?_
  · rw [firstN, if_pos (bne_t.1 h)]
  · rw [firstN, if_neg (fun hh => hh (bne_f.1 h)), if_pos (bne_t.1 h2)]
  · rw [firstN, if_neg (fun hh => hh (bne_f.1 h)), if_neg (fun hh => hh (bne_f.1 h2))]
  · rw [firstN, if_neg (fun hh => hh (bne_f.1 h)), if_neg (fun hh => hh (bne_f.1 h2)), bne_f.1 h3]
theorem f129_fn : f129_e.fn = f129 := rfl
theorem f129_ok : EntryOK Try.prog 129 f129_e := by
  refine entryF progOK (EnvOK.cons f102_ok (EnvOK.cons f131_ok (EnvOK.nil))) (A := f129_A) (d := 6) Try.func129 rfl rfl rfl rfl (fun _ _ => trivial) fun x hpre => ?_
  obtain ⟨a0, a1⟩ := x
  exact f129_t a0 a1 _ fun _ h => h.trans (congrFun f129_fn.symm _)
end Go.Proofs.Ytglijnhkdnhofaa
end

section
namespace Go.Proofs
open Go.Shelf
def Try.sortWinds_ren : Go.Shelf.Ren := ⟨fun | 6 => 128 | 15 => 136 | 14 => 135 | 28 => 145 | 29 => 146 | 20 => 137 | 21 => 138 | 22 => 139 | 23 => 140 | 24 => 141 | 25 => 142 | 26 => 143 | 27 => 144 | 46 => 147 | 47 => 148 | 48 => 149 | 49 => 150 | 50 => 151 | 57 => 152 | n => n, fun | 22 => 88 | 24 => 59 | 25 => 176 | 3 => 3 | 39 => 184 | 0 => 0 | 53 => 194 | 55 => 196 | 4 => 4 | 46 => 187 | 45 => 186 | 50 => 191 | 5 => 5 | 9 => 9 | 66 => 197 | 70 => 201 | 76 => 203 | 77 => 53 | n => n, fun | n => n⟩
theorem Try.sortWinds : Go.Proofs.SlLaysF0.n6 Try.prog Try.sortWinds_ren := {
  mixed := by kernel_rfl
  f6 := ⟨Try.f128.name, by decide, Try.func128.trans (congrArg some (by kernel_rfl))⟩
  f14 := ⟨Try.f135.name, by decide, Try.func135.trans (congrArg some (by kernel_rfl))⟩
  f15 := Try.func136.trans (congrArg some (by kernel_rfl))
  f20 := ⟨Try.f137.name, by decide, Try.func137.trans (congrArg some (by kernel_rfl))⟩
  f21 := ⟨Try.f138.name, by decide, Try.func138.trans (congrArg some (by kernel_rfl))⟩
  f22 := ⟨Try.f139.name, by decide, Try.func139.trans (congrArg some (by kernel_rfl))⟩
  f23 := ⟨Try.f140.name, by decide, Try.func140.trans (congrArg some (by kernel_rfl))⟩
  f24 := ⟨Try.f141.name, by decide, Try.func141.trans (congrArg some (by kernel_rfl))⟩
  f25 := ⟨Try.f142.name, by decide, Try.func142.trans (congrArg some (by kernel_rfl))⟩
  f26 := ⟨Try.f143.name, by decide, Try.func143.trans (congrArg some (by kernel_rfl))⟩
  f27 := ⟨Try.f144.name, by decide, Try.func144.trans (congrArg some (by kernel_rfl))⟩
  f28 := Try.func145.trans (congrArg some (by kernel_rfl))
  f29 := Try.func146.trans (congrArg some (by kernel_rfl))
  f46 := ⟨Try.f147.name, by decide, Try.func147.trans (congrArg some (by kernel_rfl))⟩
  f47 := Try.func148.trans (congrArg some (by kernel_rfl))
  f48 := Try.func149.trans (congrArg some (by kernel_rfl))
  f49 := ⟨Try.f150.name, by decide, Try.func150.trans (congrArg some (by kernel_rfl))⟩
  f50 := ⟨Try.f151.name, by decide, Try.func151.trans (congrArg some (by kernel_rfl))⟩
  f57 := ⟨Try.f152.name, by decide, Try.func152.trans (congrArg some (by kernel_rfl))⟩
  t0 := Try.underlying0
  a0 := Try.isAgg0
  z0 := Try.sizeOf0
  v0 := Try.zeroValue0
  t3 := Try.underlying3
  a3 := Try.isAgg3
  z3 := Try.sizeOf3
  v3 := Try.zeroValue3
  t4 := Try.underlying4
  a4 := Try.isAgg4
  z4 := Try.sizeOf4
  v4 := Try.zeroValue4
  t5 := Try.underlying5
  a5 := Try.isAgg5
  z5 := Try.sizeOf5
  v5 := Try.zeroValue5
  t9 := Try.underlying9
  a9 := Try.isAgg9
  z9 := Try.sizeOf9
  v9 := Try.zeroValue9
  t22 := Try.underlying88
  a22 := Try.isAgg88
  z22 := Try.sizeOf88
  v22 := Try.zeroValue88
  t25 := Try.underlying176
  a25 := Try.isAgg176
  z25 := Try.sizeOf176
  v25 := Try.zeroValue176
  t39 := Try.underlying184
  a39 := Try.isAgg184
  z39 := Try.sizeOf184
  v39 := Try.zeroValue184
  t45 := Try.underlying186
  a45 := Try.isAgg186
  z45 := Try.sizeOf186
  v45 := Try.zeroValue186
  t46 := Try.underlying187
  a46 := Try.isAgg187
  z46 := Try.sizeOf187
  v46 := Try.zeroValue187
  t50 := Try.underlying191
  a50 := Try.isAgg191
  z50 := Try.sizeOf191
  v50 := Try.zeroValue191
  t53 := Try.underlying194
  a53 := Try.isAgg194
  z53 := Try.sizeOf194
  v53 := Try.zeroValue194
  t55 := Try.underlying196
  a55 := Try.isAgg196
  z55 := Try.sizeOf196
  v55 := Try.zeroValue196
  t66 := Try.underlying197
  a66 := Try.isAgg197
  z66 := Try.sizeOf197
  v66 := Try.zeroValue197
  t70 := Try.underlying201
  a70 := Try.isAgg201
  z70 := Try.sizeOf201
  v70 := Try.zeroValue201
  t76 := Try.underlying203
  a76 := Try.isAgg203
  z76 := Try.sizeOf203
  v76 := Try.zeroValue203
  t77 := Try.underlying53
  a77 := Try.isAgg53
  z77 := Try.sizeOf53
  v77 := Try.zeroValue53 }
end Go.Proofs
namespace Go.Proofs.Ytglijnhkdnhofaa
open Go Go.Pi Go.RowKit Go.Sort Go.Shelf Go.Proofs
set_option maxRecDepth 100000
set_option linter.unusedVariables false

/-- Winds whose order the machine finds without leaving an int. -/
structure VOK (v : WV) : Prop where
  ok : WOK v
  den : v.2.2.2 ≤ 100000
  le : V3.le (wpt v) 10000000000000
theorem f129_eq {a b : WV} (ha : VOK a) (hb : VOK b) : f129 (a, b) = ordC a b := by
  have w : ∀ {x y : Int}, -10000000000000 ≤ x ∧ x ≤ 10000000000000 → -10000000000000 ≤ y ∧ y ≤ 10000000000000 → w64 (x * b.2.2.2 - y * a.2.2.2) = x * b.2.2.2 - y * a.2.2.2 := fun {x y} hx hy => by
    have h1 := mul_le hx (show -100000 ≤ b.2.2.2 ∧ b.2.2.2 ≤ 100000 from ⟨by have := hb.ok.den; omega, hb.den⟩)
    have h2 := mul_le hy (show -100000 ≤ a.2.2.2 ∧ a.2.2.2 ≤ 100000 from ⟨by have := ha.ok.den; omega, ha.den⟩)
    exact w64_in (by omega) (by omega)
  have e1 : w64 (a.1 * b.2.2.2 - b.1 * a.2.2.2) = _ := w ha.le.1 hb.le.1
  have e2 : w64 (a.2.1 * b.2.2.2 - b.2.1 * a.2.2.2) = _ := w ha.le.2.1 hb.le.2.1
  have e3 : w64 (a.2.2.1 * b.2.2.2 - b.2.2.1 * a.2.2.2) = _ := w ha.le.2.2 hb.le.2.2
  show firstN (w64 (a.1 * b.2.2.2 - b.1 * a.2.2.2)) (w64 (a.2.1 * b.2.2.2 - b.2.1 * a.2.2.2)) (w64 (a.2.2.1 * b.2.2.2 - b.2.2.1 * a.2.2.2)) = _
  rw [e1, e2, e3]
  rfl
def f128 (x : List (Int × Int × Int × Int)) : List (Int × Int × Int × Int) := sortW x
def f128_pre (x : List (Int × Int × Int × Int)) : Prop := x.length ≤ 1048576 ∧ x.Nodup ∧ ∀ v ∈ x, VOK v
def f128_ip : Ip := { g := 129, s := .pair (.int .i64) (.pair (.int .i64) (.pair (.int .i64) (.int .i64))), pre := f128_pre, fn := f128 }
def f128_e : Entry := { doms := [], cods := [], pre := fun _ => False, fn := fun x => x, ip := some f128_ip }
instance (a b : WV) : Decidable (wlt a b) := inferInstanceAs (Decidable (_ < _))
theorem swo : SWO (ltOf fun x y : { v : WV // VOK v } => ordC x.1 y.1) where
  irrefl x := decide_eq_false (wlt_irrefl x.1)
  trans x y z h1 h2 := decide_eq_true (wlt_trans x.2.ok.den y.2.ok.den z.2.ok.den (of_decide_eq_true h1) (of_decide_eq_true h2))
  ntrans x y z h1 h2 := by
    have h1 : ¬ wlt x.1 y.1 := of_decide_eq_false h1
    have h2 : ¬ wlt y.1 z.1 := of_decide_eq_false h2
    refine decide_eq_false fun h3 : wlt x.1 z.1 => ?_
    by_cases h4 : wlt y.1 x.1
    · exact h2 (wlt_trans y.2.ok.den x.2.ok.den z.2.ok.den h4 h3)
    · have := wlt_total x.2.ok y.2.ok h1 h4
      rw [this] at h3
      exact h2 h3
theorem f128_ok : EntryOK Try.prog 128 f128_e := by
  refine ⟨⟨_, Try.func128, rfl⟩, fun h => (by cases h), fun q e => ?_, fun S w args x _ _ hp _ => hp.elim⟩
  obtain rfl := Option.some.inj e
  have hi := ipOK_sort (q := f128_ip) (valid := VOK) (cf := ordC) Try.sortWinds rfl Try.isAgg59 Try.sizeOf59
    (enters_of Try.func129 (by kernel_rfl) rfl)
    (fun x y hx hy w => by
      have h := cmp_of_entry (s := f128_ip.s) rfl f129_ok x y trivial w
      rw [← f129_eq hx hy]
      exact h)
    swo (fun xs hp => ⟨Nat.lt_of_le_of_lt hp.1 (by decide), hp.2.2⟩) (fun xs ys hp hperm hs => sortW_eq (fun w hw => (hp.2.2 w hw).ok) hp.2.1 hperm hs)
  exact hi
end Go.Proofs.Ytglijnhkdnhofaa
end

section
namespace Go.Pi
set_option linter.unusedVariables false

/-! ### keys of a map -/
section
variable {ks vs : Sch}
theorem mput_mem (he : ∀ a b, ks.eqb a b = true ↔ a = b) {k : ks.D} {v : vs.D} {x : ks.D} : ∀ xs : List (ks.D × vs.D), x ∈ (mput ks vs xs k v).map (·.1) ↔ x ∈ xs.map (·.1) ∨ x = k
  | [] => by simp [mput]
  | y :: r => by
    unfold mput
    cases h : ks.eqb k y.1 with
    | true =>
      have e := (he _ _).1 h
      simp only [List.map_cons, List.mem_cons, e]
      constructor
      · exact .inl
      · rintro (h | h)
        · exact h
        · exact .inl h
    | false =>
      simp only [List.map_cons, List.mem_cons, mput_mem he r, or_assoc]
theorem mput_nodup (he : ∀ a b, ks.eqb a b = true ↔ a = b) {k : ks.D} {v : vs.D} : ∀ xs : List (ks.D × vs.D), (xs.map (·.1)).Nodup → ((mput ks vs xs k v).map (·.1)).Nodup
  | [], _ => by simp [mput]
  | y :: r, h => by
    have h' := List.nodup_cons.1 h
    unfold mput
    cases hq : ks.eqb k y.1 with
    | true =>
      have e := (he _ _).1 hq
      show ((k, v) :: r).map _ |>.Nodup
      rw [List.map_cons, e]
      exact h
    | false =>
      refine List.nodup_cons.2 ⟨fun hm => ?_, mput_nodup he r h'.2⟩
      rcases (mput_mem he r).1 hm with hm | hm
      · exact h'.1 hm
      · rw [(he _ _).2 hm.symm] at hq; cases hq
theorem mput_len {k : ks.D} {v : vs.D} : ∀ xs : List (ks.D × vs.D), (mput ks vs xs k v).length ≤ xs.length + 1
  | [] => by simp [mput]
  | y :: r => by
    unfold mput
    cases ks.eqb k y.1 with
    | true => simp
    | false => simp [mput_len r]
end
abbrev wS : Sch := .pair (.int .i64) (.pair (.int .i64) (.pair (.int .i64) (.int .i64)))
theorem wS_eqb (a b : wS.D) : wS.eqb a b = true ↔ a = b := by
  obtain ⟨a1, a2, a3, a4⟩ := a
  obtain ⟨b1, b2, b3, b4⟩ := b
  simp only [Sch.eqb, Bool.and_eq_true, beq_iff_eq, Prod.mk.injEq]
abbrev Kn := List (WV × Bool)
def putK (m : Kn) (v : WV) : Kn := mput wS .bool m v true
def putAll (m : Kn) (l : List WV) : Kn := l.foldl putK m
theorem putAll_append (m : Kn) (a b : List WV) : putAll m (a ++ b) = putAll (putAll m a) b := List.foldl_append
theorem putAll_mem {x : WV} : ∀ (l : List WV) (m : Kn), x ∈ (putAll m l).map (·.1) ↔ x ∈ m.map (·.1) ∨ x ∈ l
  | [], m => by simp [putAll]
  | v :: r, m => by
    show x ∈ (putAll (putK m v) r).map (·.1) ↔ _
    rw [putAll_mem r, show x ∈ (putK m v).map (·.1) ↔ _ from mput_mem (ks := wS) (vs := .bool) wS_eqb m, List.mem_cons, or_assoc]
theorem putAll_nodup : ∀ (l : List WV) (m : Kn), (m.map (·.1)).Nodup → ((putAll m l).map (·.1)).Nodup
  | [], m, h => h
  | v :: r, m, h => putAll_nodup r _ (mput_nodup (ks := wS) (vs := .bool) wS_eqb m h)
theorem putAll_len : ∀ (l : List WV) (m : Kn), (putAll m l).length ≤ m.length + l.length
  | [], m => by simp [putAll]
  | v :: r, m => by
    have h1 := putAll_len r (putK m v)
    have h2 : (putK m v).length ≤ m.length + 1 := mput_len (ks := wS) (vs := .bool) m
    show (putAll (putK m v) r).length ≤ _
    simp only [List.length_cons]
    omega

/-! ### candidates -/
def endR (r : Int × Int) (n : Nat) : Int := if n % 2 = 1 then r.2 else r.1
def rows3 (l : List Rd) (a b c : Nat) : M3 := ((l.getD a rd0).1, (l.getD b rd0).1, (l.getD c rd0).1)
def ends3 (l : List Rd) (a b c e : Nat) : V3 := (endR (l.getD a rd0).2 e, endR (l.getD b rd0).2 (e / 2), endR (l.getD c rd0).2 (e / 4))
def sol1 (l : List Rd) (a b c e : Nat) : WV := lowV (solP (rows3 l a b c, ends3 l a b c e)) (solD (rows3 l a b c, ends3 l a b c e) 1)
def candE (l : List Rd) (a b c e : Nat) : List WV := if l.all (agR · (sol1 l a b c e)) = true then [sol1 l a b c e] else []
def candA (l : List Rd) (c b a : Nat) : List WV := if w64 (det3 (rows3 l a b c)) = 0 then [] else (List.range 8).flatMap (candE l a b c)
def candB (l : List Rd) (c b : Nat) : List WV := (List.range b).flatMap (candA l c b)
def candC (l : List Rd) (c : Nat) : List WV := (List.range c).flatMap (candB l c)
def cands (l : List Rd) : List WV := (List.range l.length).flatMap (candC l)
def vtx (l : List Rd) : List WV := sortW (cands l)
theorem flatMap_succ {α : Type} (f : Nat → List α) (n : Nat) : (List.range (n + 1)).flatMap f = (List.range n).flatMap f ++ f n := by
  rw [List.range_succ, List.flatMap_append]; simp
theorem flatMap_len {α : Type} (f : Nat → List α) (m : Nat) : ∀ n : Nat, (∀ i, i < n → (f i).length ≤ m) → ((List.range n).flatMap f).length ≤ n * m
  | 0, _ => by simp
  | n + 1, h => by
    have h1 := flatMap_len f m n fun i hi => h i (by omega)
    have h2 := h n (by omega)
    rw [flatMap_succ, List.length_append, Nat.add_mul, Nat.one_mul]
    omega

/-! ### sizes -/
/-- Readings whose numbers are in their bounds. -/
structure RdLe (l : List Rd) : Prop where
  len : l.length ≤ 8
  dir : ∀ r ∈ l, V3.le r.1 9
  rng : ∀ r ∈ l, (-10000 ≤ r.2.1 ∧ r.2.1 ≤ 10000) ∧ -10000 ≤ r.2.2 ∧ r.2.2 ≤ 10000
theorem RdOK.rdLe {l : List Rd} (h : RdOK l) : RdLe l := ⟨by have := h.six; omega, fun r hr => (h.dir r hr).1, fun r hr => by have := h.rng r hr; omega⟩
def m0 (m : M3) : V3 := (m.1.1, m.2.1.1, m.2.2.1)
def m1 (m : M3) : V3 := (m.1.2.1, m.2.1.2.1, m.2.2.2.1)
def m2 (m : M3) : V3 := (m.1.2.2, m.2.1.2.2, m.2.2.2.2)
theorem det_c0 (m : M3) (v : V3) : det3 (c0 m v) = dot v (cross (m1 m) (m2 m)) := by simp only [det3, det, dot, cross, c0, m1, m2]; grind
theorem det_c1 (m : M3) (v : V3) : det3 (c1 m v) = dot v (cross (m2 m) (m0 m)) := by simp only [det3, det, dot, cross, c1, m0, m2]; grind
theorem det_c2 (m : M3) (v : V3) : det3 (c2 m v) = dot v (cross (m0 m) (m1 m)) := by simp only [det3, det, dot, cross, c2, m0, m1]; grind
structure Sml (m : M3) (v : V3) : Prop where
  a : V3.le m.1 9
  b : V3.le m.2.1 9
  c : V3.le m.2.2 9
  v : V3.le v 10000
theorem Sml.det {m : M3} {v : V3} (h : Sml m v) : -4374 ≤ det3 m ∧ det3 m ≤ 4374 := by
  have := det_le h.a h.b h.c
  exact ⟨by unfold det3; omega, by unfold det3; omega⟩
theorem Sml.cs {m : M3} {v : V3} (h : Sml m v) : V3.le (det3 (c0 m v), det3 (c1 m v), det3 (c2 m v)) 4860000 := by
  have q0 : V3.le (m0 m) 9 := ⟨h.a.1, h.b.1, h.c.1⟩
  have q1 : V3.le (m1 m) 9 := ⟨h.a.2.1, h.b.2.1, h.c.2.1⟩
  have q2 : V3.le (m2 m) 9 := ⟨h.a.2.2, h.b.2.2, h.c.2.2⟩
  have e0 := dot_le h.v (cross_le q1 q2)
  have e1 := dot_le h.v (cross_le q2 q0)
  have e2 := dot_le h.v (cross_le q0 q1)
  rw [← det_c0] at e0
  rw [← det_c1] at e1
  rw [← det_c2] at e2
  have k0 : -4860000 ≤ det3 (c0 m v) ∧ det3 (c0 m v) ≤ 4860000 := ⟨by omega, by omega⟩
  have k1 : -4860000 ≤ det3 (c1 m v) ∧ det3 (c1 m v) ≤ 4860000 := ⟨by omega, by omega⟩
  have k2 : -4860000 ≤ det3 (c2 m v) ∧ det3 (c2 m v) ≤ 4860000 := ⟨by omega, by omega⟩
  exact ⟨k0, k1, k2⟩
theorem Sml.solP {m : M3} {v : V3} (h : Sml m v) : solP (m, v) = (det3 (c0 m v), det3 (c1 m v), det3 (c2 m v)) := by
  obtain ⟨h1, h2, h3⟩ := h.cs
  show (w64 _, w64 _, w64 _) = _
  rw [w64_fit (fit_le h1 (by omega)), w64_fit (fit_le h2 (by omega)), w64_fit (fit_le h3 (by omega))]
theorem Sml.w {m : M3} {v : V3} (h : Sml m v) : w64 (det3 m) = det3 m := w64_fit (fit_le h.det (by omega))
theorem Sml.solD {m : M3} {v : V3} (h : Sml m v) : solD (m, v) 1 = det3 m := by
  show w64 (1 * w64 (det3 m)) = _
  rw [h.w, Int.one_mul, h.w]
theorem getD_mem {α : Type} {l : List α} {d : α} {i : Nat} (h : i < l.length) : l.getD i d ∈ l := by rw [getD_lt h]; exact List.getElem_mem _
theorem RdLe.sml {l : List Rd} (h : RdLe l) {a b c : Nat} (ha : a < l.length) (hb : b < l.length) (hc : c < l.length) (e : Nat) : Sml (rows3 l a b c) (ends3 l a b c e) := by
  have er : ∀ r ∈ l, ∀ n, -10000 ≤ endR r.2 n ∧ endR r.2 n ≤ 10000 := fun r hr n => by
    have := h.rng r hr
    unfold endR
    split
    · exact this.2
    · exact this.1
  exact ⟨h.dir _ (getD_mem ha), h.dir _ (getD_mem hb), h.dir _ (getD_mem hc), er _ (getD_mem ha) _, er _ (getD_mem hb) _, er _ (getD_mem hc) _⟩
theorem sol1_eq {l : List Rd} (h : RdLe l) {a b c : Nat} (ha : a < l.length) (hb : b < l.length) (hc : c < l.length) (e : Nat) :
    sol1 l a b c e = lowV (det3 (c0 (rows3 l a b c) (ends3 l a b c e)), det3 (c1 (rows3 l a b c) (ends3 l a b c e)), det3 (c2 (rows3 l a b c) (ends3 l a b c e))) (det3 (rows3 l a b c)) := by
  unfold sol1; rw [(h.sml ha hb hc e).solP, (h.sml ha hb hc e).solD]
/-- A solved wind is in lowest terms, and not great. -/
theorem sol1_ok {l : List Rd} (h : RdLe l) {a b c : Nat} (ha : a < l.length) (hb : b < l.length) (hc : c < l.length) (e : Nat) (hd : det3 (rows3 l a b c) ≠ 0) :
    WOK (sol1 l a b c e) ∧ (sol1 l a b c e).2.2.2 ≤ 4374 ∧ V3.le (wpt (sol1 l a b c e)) 4860000 := by
  rw [sol1_eq h ha hb hc]
  have hs := h.sml ha hb hc e
  have := lowV_le hs.cs hs.det
  exact ⟨lowV_ok hd, this.2, this.1⟩
/-- What is among the candidates. -/
theorem cands_mem {l : List Rd} {v : WV} : v ∈ cands l ↔ ∃ a b c e, a < b ∧ b < c ∧ c < l.length ∧ e < 8 ∧ w64 (det3 (rows3 l a b c)) ≠ 0 ∧ v = sol1 l a b c e ∧ l.all (agR · v) = true := by
  simp only [cands, candC, candB, List.mem_flatMap, List.mem_range]
  constructor
  · rintro ⟨c, hc, b, hb, a, ha, hm⟩
    unfold candA at hm
    split at hm
    · cases hm
    · rename_i hd
      simp only [List.mem_flatMap, List.mem_range] at hm
      obtain ⟨e, he, hm⟩ := hm
      unfold candE at hm
      split at hm
      · rename_i hg
        rw [List.mem_singleton] at hm
        exact ⟨a, b, c, e, ha, hb, hc, he, hd, hm, by rw [hm]; exact hg⟩
      · cases hm
  · rintro ⟨a, b, c, e, ha, hb, hc, he, hd, rfl, hg⟩
    refine ⟨c, hc, b, hb, a, ha, ?_⟩
    unfold candA
    rw [if_neg hd]
    simp only [List.mem_flatMap, List.mem_range]
    refine ⟨e, he, ?_⟩
    unfold candE
    rw [if_pos hg]
    exact .head _
theorem cands_ok {l : List Rd} (h : RdLe l) : ∀ v ∈ cands l, WOK v ∧ v.2.2.2 ≤ 4374 ∧ V3.le (wpt v) 4860000 := fun v hv => by
  obtain ⟨a, b, c, e, ha, hb, hc, he, hd, rfl, hg⟩ := cands_mem.1 hv
  rw [(h.sml (by omega) (by omega) hc e : Sml (rows3 l a b c) _).w] at hd
  exact sol1_ok h (by omega) (by omega) hc e hd
theorem cands_len {l : List Rd} (h : RdLe l) : (cands l).length ≤ 4096 := by
  have hE : ∀ a b c e, (candE l a b c e).length ≤ 1 := fun a b c e => by unfold candE; split <;> simp
  have hA : ∀ c b a, (candA l c b a).length ≤ 8 := fun c b a => by
    unfold candA
    split
    · simp
    · exact flatMap_len _ 1 8 fun e _ => hE a b c e
  have hB : ∀ c b, b ≤ 8 → (candB l c b).length ≤ 64 := fun c b hb => Nat.le_trans (flatMap_len _ 8 b fun a _ => hA c b a) (by omega)
  have hC : ∀ c, c ≤ 8 → (candC l c).length ≤ 512 := fun c hc => Nat.le_trans (flatMap_len _ 64 c fun b hb => hB c b (by omega)) (by omega)
  have := flatMap_len (candC l) 512 l.length fun c hc => hC c (by have := h.len; omega)
  have := h.len
  unfold cands
  omega
theorem vtx_asc {l : List Rd} (h : RdLe l) : Asc (vtx l) := sortW_asc fun w hw => (cands_ok h w hw).1
theorem vtx_mem {l : List Rd} {v : WV} : v ∈ vtx l ↔ v ∈ cands l := sortW_mem
end Go.Pi
end
