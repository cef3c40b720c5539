/- What functions of the program compute, each proved once, part 9. -/
import Derived.Test.YtglijnhkdnhofaaGreatFnC
import Derived.Test.YtglijnhkdnhofaaGreatFnB

section
namespace Go.Pi
set_option linter.unusedVariables false
def sgn (n : Int) : Int := if n < 0 then -1 else if n > 0 then 1 else 0
def cmpQ (x : Int × Int × Int × Int) : Int := sgn (x.1 * x.2.2.2 - x.2.2.1 * x.2.1)
abbrev R2 := Int × Int
def mns (a b : R2) : R2 := (a.1 - b.2, a.2 - b.1)
def nearF (d : R2) : Int := if d.1 ≤ 0 ∧ 0 ≤ d.2 then 0 else minmax false (d.1 * d.1) (d.2 * d.2)
def farF (d : R2) : Int := minmax true (d.1 * d.1) (d.2 * d.2)
def lagD (l : List R2) (lag i : Nat) : R2 := mns (l.getD (i + lag) (0, 0)) (l.getD i (0, 0))
def sumN (f : Nat → Int) (n : Nat) : Int := ((List.range n).map f).sum
theorem sumN_succ (f : Nat → Int) (n : Nat) : sumN f (n + 1) = sumN f n + f n := by simp [sumN, List.range_succ]
theorem sumN_le {f g : Nat → Int} : ∀ {n : Nat}, (∀ i, i < n → f i ≤ g i) → sumN f n ≤ sumN g n
  | 0, _ => by simp [sumN]
  | n + 1, h => by
    rw [sumN_succ, sumN_succ]
    have := sumN_le (n := n) fun i hi => h i (by omega)
    have := h n (by omega)
    omega
theorem sumN_congr {f g : Nat → Int} {n : Nat} (h : ∀ i, i < n → f i = g i) : sumN f n = sumN g n :=
  Int.le_antisymm (sumN_le fun i hi => by rw [h i hi]; exact Int.le_refl _) (sumN_le fun i hi => by rw [h i hi]; exact Int.le_refl _)
theorem sumN_bound {f : Nat → Int} {M : Int} : ∀ {n : Nat}, (∀ i, i < n → 0 ≤ f i ∧ f i ≤ M) → 0 ≤ sumN f n ∧ sumN f n ≤ n * M
  | 0, _ => by simp [sumN]
  | n + 1, h => by
    have h1 := sumN_bound (n := n) fun i hi => h i (by omega)
    have h2 := h n (by omega)
    rw [sumN_succ, show ((n + 1 : Nat) : Int) * M = n * M + M by rw [Int.natCast_add, Int.add_mul]; simp]
    omega
/-- The error of ranges and a lag. -/
def rgsE (l : List R2) : Int := if l.length = 0 then 10 else if l.length > 30 then 8 else (eachE l.length fun i => rngE (l.getD i (0, 0)) 10000).2
def lagE (n : Nat) (lag : Int) : Int := if 1 ≤ lag ∧ lag ≤ (n : Int) - 1 then 0 else 2
def strE (l : List R2) (lag : Int) : Int := if rgsE l ≠ 0 then rgsE l else lagE l.length lag
def strV (l : List R2) (lag : Nat) : R2 × R2 := (low (sumN (fun i => nearF (lagD l lag i)) (l.length - lag)) ((l.length : Int) - lag), low (sumN (fun i => farF (lagD l lag i)) (l.length - lag)) ((l.length : Int) - lag))
def strIn (l : List R2) (lag : Int) : (R2 × R2) × Int := if strE l lag ≠ 0 then (no4, strE l lag) else (strV l lag.toNat, 0)
theorem rngE_zero {r : R2} {m : Int} (h : rngE r m = 0) : -m ≤ r.1 ∧ r.1 ≤ r.2 ∧ r.2 ≤ m := by
  unfold rngE at h
  split at h
  · simp at h
  · rename_i h4
    split at h
    · rename_i h5
      have h4 := Classical.byContradiction h4
      exact ⟨by omega, h5, by omega⟩
    · simp at h
/-- Valid ranges and a lag. -/
structure RgOK (l : List R2) (lag : Int) : Prop where
  len : l.length ≤ 30
  lag : 1 ≤ lag ∧ lag ≤ (l.length : Int) - 1
  el : ∀ r ∈ l, -10000 ≤ r.1 ∧ r.1 ≤ r.2 ∧ r.2 ≤ 10000
theorem strE_zero {l : List R2} {lag : Int} (h : strE l lag = 0) : RgOK l lag ∧ rgsE l = 0 := by
  unfold strE at h
  split at h
  · rename_i h1; exact absurd h h1
  · rename_i h1
    have h1 := Classical.byContradiction h1
    have h0 := h1
    unfold rgsE at h1
    unfold lagE at h
    split at h1
    · simp at h1
    · split at h1
      · simp at h1
      · rename_i h2 h3
        split at h
        · rename_i h4
          have hz := eachE_zero h1
          refine ⟨⟨by omega, h4, fun r hr => ?_⟩, h0⟩
          obtain ⟨i, hi, e⟩ := List.getElem_of_mem hr
          have := rngE_zero (hz i hi)
          rwa [getD_lt hi, e] at this
        · simp at h
theorem sq_le {n m : Int} (h : -m ≤ n ∧ n ≤ m) : 0 ≤ n * n ∧ n * n ≤ m * m := by
  have h1 := mul_le h h
  refine ⟨?_, h1.2⟩
  rcases Int.le_total 0 n with h2 | h2
  · exact Int.mul_nonneg h2 h2
  · exact Int.mul_nonneg_of_nonpos_of_nonpos h2 h2
theorem lagD_le {l : List R2} {lag : Nat} (h : RgOK l lag) {i : Nat} (hi : i < l.length - lag) : (-20000 ≤ (lagD l lag i).1 ∧ (lagD l lag i).1 ≤ 20000) ∧ -20000 ≤ (lagD l lag i).2 ∧ (lagD l lag i).2 ≤ 20000 := by
  have h1 := h.el _ (getD_mem (d := (0, 0)) (show i + lag < l.length by omega))
  have h2 := h.el _ (getD_mem (d := (0, 0)) (show i < l.length by omega))
  simp only [lagD, mns]
  omega
theorem nearF_b {l : List R2} {lag : Nat} (h : RgOK l lag) {i : Nat} (hi : i < l.length - lag) : 0 ≤ nearF (lagD l lag i) ∧ nearF (lagD l lag i) ≤ 400000000 := by
  have hd := lagD_le h hi
  have h1 := sq_le hd.1
  have h2 := sq_le hd.2
  unfold nearF minmax
  split
  · omega
  · simp only; split <;> omega
theorem farF_b {l : List R2} {lag : Nat} (h : RgOK l lag) {i : Nat} (hi : i < l.length - lag) : 0 ≤ farF (lagD l lag i) ∧ farF (lagD l lag i) ≤ 400000000 := by
  have hd := lagD_le h hi
  have h1 := sq_le hd.1
  have h2 := sq_le hd.2
  unfold farF minmax
  simp only; split <;> omega
theorem strS {l : List R2} {lag : Nat} (h : RgOK l lag) {n : Nat} (hn : n ≤ l.length - lag) : (0 ≤ sumN (fun i => nearF (lagD l lag i)) n ∧ sumN (fun i => nearF (lagD l lag i)) n ≤ 12000000000) ∧ 0 ≤ sumN (fun i => farF (lagD l lag i)) n ∧ sumN (fun i => farF (lagD l lag i)) n ≤ 12000000000 := by
  have h1 := sumN_bound (n := n) fun i hi => nearF_b h (show i < l.length - lag by omega)
  have h2 := sumN_bound (n := n) fun i hi => farF_b h (show i < l.length - lag by omega)
  have := h.len
  omega
end Go.Pi
end

section
namespace Go.Pi
set_option linter.unusedVariables false
theorem sgn_neg {n : Int} : sgn n < 0 ↔ n < 0 := by
  unfold sgn
  split
  · omega
  · split <;> omega
theorem sgn_ne {n : Int} : sgn n ≠ 0 ↔ n ≠ 0 := by
  unfold sgn
  split
  · omega
  · split <;> omega
/-- A wind that can be compared. -/
def WFit (v : WV) : Prop := (Fit v.1 ∧ Fit v.2.1 ∧ Fit v.2.2.1 ∧ Fit v.2.2.2) ∧ 0 < v.2.2.2
theorem wfit_le {v : WV} {m : Int} (h : V3.le (wpt v) m) (hd : v.2.2.2 ≤ m) (h0 : 0 < v.2.2.2) (hm : m ≤ 9223372036854775807) : WFit v :=
  ⟨⟨fit_le h.1 hm, fit_le h.2.1 hm, fit_le h.2.2 hm, fit_le ⟨by omega, hd⟩ hm⟩, h0⟩
theorem gcd_le_add (a b : Nat) : Nat.gcd a b ≤ a + b := by
  rcases Nat.eq_zero_or_pos a with h | h
  · subst h; rw [Nat.gcd_zero_left]; omega
  · exact Nat.le_trans (Nat.gcd_le_left b h) (by omega)
theorem insW_split (v : WV) (q : List WV) : ∀ p : List WV, (∀ x ∈ p, wlt x v) → insW (p ++ q) v = p ++ insW q v
  | [], _ => rfl
  | x :: p, h => by
    rw [List.cons_append, insW, if_pos (show ordC x v < 0 from h x (.head _)), insW_split v q p fun y hy => h y (.tail _ hy)]; rfl
theorem lowV_neg (p : V3) {d : Int} (h : d ≠ 0) : lowV (-p.1, -p.2.1, -p.2.2) (-d) = lowV p d := by
  have h' : -d ≠ 0 := by omega
  obtain ⟨a1, a2, a3⟩ := lowV_mul p d h
  obtain ⟨b1, b2, b3⟩ := lowV_mul (-p.1, -p.2.1, -p.2.2) (-d) h'
  have key : ∀ {n x y a b : Int}, n * y = a * d → -n * x = b * -d → b * y = a * x := fun {n x y a b} e1 e2 => by
    refine Int.eq_of_mul_eq_mul_right h ?_
    have : b * y * d = (b * d) * y := by grind
    rw [this, show b * d = n * x by grind, show n * x * y = (n * y) * x by grind, e1]
    grind
  exact (lowV_ok h').eq (lowV_ok h) (key a1 b1) (key a2 b2) (key a3 b3)
def revE (e : Nat) : Nat := e / 4 % 2 + 2 * (e / 2 % 2) + 4 * (e % 2)
theorem revE_lt (e : Nat) : revE e < 8 := by unfold revE; omega
theorem revE_bits (e : Nat) : revE e % 2 = e / 4 % 2 ∧ revE e / 2 % 2 = e / 2 % 2 ∧ revE e / 4 % 2 = e % 2 := by
  unfold revE
  have h1 : e / 4 % 2 < 2 := Nat.mod_lt _ (by omega)
  have h2 : e / 2 % 2 < 2 := Nat.mod_lt _ (by omega)
  have h3 : e % 2 < 2 := Nat.mod_lt _ (by omega)
  generalize e / 4 % 2 = x at *
  generalize e / 2 % 2 = y at *
  generalize e % 2 = z at *
  omega
theorem sol1_rev {l : List Rd} (h : RdLe l) {a b c : Nat} (ha : a < l.length) (hb : b < l.length) (hc : c < l.length) (e : Nat) (hd : det3 (rows3 l a b c) ≠ 0) : sol1 l c b a (revE e) = sol1 l a b c e := by
  rw [sol1_eq h ha hb hc, sol1_eq h hc hb ha, ← lowV_neg _ hd]
  have e1 : endR (l.getD c rd0).2 (revE e) = endR (l.getD c rd0).2 (e / 4) := by unfold endR; rw [(revE_bits e).1]
  have e2 : endR (l.getD b rd0).2 (revE e / 2) = endR (l.getD b rd0).2 (e / 2) := by unfold endR; rw [(revE_bits e).2.1]
  have e3 : endR (l.getD a rd0).2 (revE e / 4) = endR (l.getD a rd0).2 e := by unfold endR; rw [(revE_bits e).2.2]
  have ee : ends3 l c b a (revE e) = ((ends3 l a b c e).2.2, (ends3 l a b c e).2.1, (ends3 l a b c e).1) := by unfold ends3; rw [e1, e2, e3]
  have er : rows3 l c b a = ((rows3 l a b c).2.2, (rows3 l a b c).2.1, (rows3 l a b c).1) := rfl
  rw [ee, er]
  generalize rows3 l a b c = m
  generalize ends3 l a b c e = v
  have d0 : det3 (m.2.2, m.2.1, m.1) = -det3 m := by simp only [det3, det, dot, cross]; grind
  have d1 : det3 (c0 (m.2.2, m.2.1, m.1) (v.2.2, v.2.1, v.1)) = -det3 (c0 m v) := by simp only [det3, det, dot, cross, c0]; grind
  have d2 : det3 (c1 (m.2.2, m.2.1, m.1) (v.2.2, v.2.1, v.1)) = -det3 (c1 m v) := by simp only [det3, det, dot, cross, c1]; grind
  have d3 : det3 (c2 (m.2.2, m.2.1, m.1) (v.2.2, v.2.1, v.1)) = -det3 (c2 m v) := by simp only [det3, det, dot, cross, c2]; grind
  rw [d0, d1, d2, d3]
/-- The candidates in another order. -/
def refA (l : List Rd) (i j k : Nat) : List WV := if det3 (rows3 l i j k) = 0 then [] else (List.range 8).flatMap (candE l i j k)
def refB (l : List Rd) (i j : Nat) : List WV := (List.range j).flatMap (refA l i j)
def refC (l : List Rd) (i : Nat) : List WV := (List.range i).flatMap (refB l i)
def refs (l : List Rd) : List WV := (List.range l.length).flatMap (refC l)
theorem refs_mem {l : List Rd} {v : WV} : v ∈ refs l ↔ ∃ a b c e, a < b ∧ b < c ∧ c < l.length ∧ e < 8 ∧ det3 (rows3 l c b a) ≠ 0 ∧ v = sol1 l c b a e ∧ l.all (agR · v) = true := by
  simp only [refs, refC, refB, List.mem_flatMap, List.mem_range]
  constructor
  · rintro ⟨c, hc, b, hb, a, ha, hm⟩
    unfold refA at hm
    split at hm
    · cases hm
    · rename_i hd
      simp only [List.mem_flatMap, List.mem_range] at hm
      obtain ⟨e, he, hm⟩ := hm
      unfold candE at hm
      split at hm
      · rename_i hg
        rw [List.mem_singleton] at hm
        exact ⟨a, b, c, e, ha, hb, hc, he, hd, hm, by rw [hm]; exact hg⟩
      · cases hm
  · rintro ⟨a, b, c, e, ha, hb, hc, he, hd, rfl, hg⟩
    refine ⟨c, hc, b, hb, a, ha, ?_⟩
    unfold refA
    rw [if_neg hd]
    simp only [List.mem_flatMap, List.mem_range]
    refine ⟨e, he, ?_⟩
    unfold candE
    rw [if_pos hg]
    exact .head _
theorem det3_rev (l : List Rd) (a b c : Nat) : det3 (rows3 l c b a) = -det3 (rows3 l a b c) := by simp only [rows3, det3, det, dot, cross]; grind
theorem refs_cands {l : List Rd} (h : RdLe l) (v : WV) : v ∈ refs l ↔ v ∈ cands l := by
  rw [refs_mem, cands_mem]
  constructor
  · rintro ⟨a, b, c, e, ha, hb, hc, he, hd, rfl, hg⟩
    have hw := (h.sml (a := a) (b := b) (c := c) (by omega) (by omega) hc e).w
    refine ⟨a, b, c, revE e, ha, hb, hc, revE_lt e, ?_, ?_, hg⟩
    · rw [hw]; rw [det3_rev] at hd; omega
    · exact (sol1_rev h hc (by omega) (by omega) e hd).symm
  · rintro ⟨a, b, c, e, ha, hb, hc, he, hd, rfl, hg⟩
    have hw := (h.sml (a := a) (b := b) (c := c) (by omega) (by omega) hc e).w
    rw [hw] at hd
    refine ⟨a, b, c, revE e, ha, hb, hc, revE_lt e, ?_, ?_, hg⟩
    · rw [det3_rev]; omega
    · exact (sol1_rev h (by omega) (by omega) hc e hd).symm
theorem refs_ok {l : List Rd} (h : RdLe l) : ∀ v ∈ refs l, WOK v ∧ v.2.2.2 ≤ 4374 ∧ V3.le (wpt v) 4860000 := fun v hv => cands_ok h v ((refs_cands h v).1 hv)
theorem sortW_refs {l : List Rd} (h : RdLe l) : sortW (refs l) = vtx l :=
  asc_eq (sortW_ok fun w hw => (refs_ok h w hw).1) (sortW_ok fun w hw => (cands_ok h w hw).1) (sortW_asc fun w hw => (refs_ok h w hw).1) (sortW_asc fun w hw => (cands_ok h w hw).1) fun x => by
    rw [sortW_mem, vtx, sortW_mem, refs_cands h]
theorem refs_len {l : List Rd} (h : RdLe l) : (refs l).length ≤ 4096 := by
  have hE : ∀ a b c e, (candE l a b c e).length ≤ 1 := fun a b c e => by unfold candE; split <;> simp
  have hA : ∀ c b a, (refA l c b a).length ≤ 8 := fun c b a => by
    unfold refA
    split
    · simp
    · exact flatMap_len _ 1 8 fun e _ => hE c b a e
  have hB : ∀ c b, b ≤ 8 → (refB l c b).length ≤ 64 := fun c b hb => Nat.le_trans (flatMap_len _ 8 b fun a _ => hA c b a) (by omega)
  have hC : ∀ c, c ≤ 8 → (refC l c).length ≤ 512 := fun c hc => Nat.le_trans (flatMap_len _ 64 c fun b hb => hB c b (by omega)) (by omega)
  have := flatMap_len (refC l) 512 l.length fun c hc => hC c (by have := h.len; omega)
  have := h.len
  unfold refs
  omega
theorem insW_len (v : WV) : ∀ l : List WV, (insW l v).length ≤ l.length + 1
  | [] => by simp [insW]
  | w :: r => by
    have := insW_len v r
    unfold insW
    split
    · simp only [List.length_cons]; omega
    · split <;> simp only [List.length_cons] <;> omega
theorem sortW_append (a b : List WV) : sortW (a ++ b) = b.foldl insW (sortW a) := List.foldl_append
theorem sortW_len : ∀ (l acc : List WV), (l.foldl insW acc).length ≤ acc.length + l.length
  | [], acc => by simp
  | v :: r, acc => by
    have h1 := sortW_len r (insW acc v)
    have h2 := insW_len v acc
    rw [List.foldl_cons, List.length_cons]
    omega
/-- What has been put in so far. -/
structure Got (out L : List WV) (n : Nat) : Prop where
  e : out = sortW L
  ok : ∀ v ∈ L, WFit v
  len : L.length ≤ n
theorem Got.put {out L : List WV} {n : Nat} (h : Got out L n) {v : WV} (hv : WFit v) : Got (insW out v) (L ++ [v]) (n + 1) := by
  refine ⟨by rw [sortW_append, ← h.e]; rfl, fun w hw => ?_, by rw [List.length_append, List.length_singleton]; have := h.len; omega⟩
  rcases List.mem_append.1 hw with hw | hw
  · exact h.ok w hw
  · rw [List.mem_singleton] at hw; rw [hw]; exact hv
theorem Got.size {out L : List WV} {n : Nat} (h : Got out L n) : out.length ≤ n := by
  have h0 : (L.foldl insW []).length ≤ 0 + L.length := sortW_len L []
  have e : out.length = (L.foldl insW []).length := by rw [h.e]; rfl
  have := h.len
  rw [e]
  omega
theorem Got.all {out L : List WV} {n : Nat} (h : Got out L n) : ∀ v ∈ out, WFit v := fun v hv => h.ok v (sortW_mem.1 (h.e ▸ hv))
theorem Got.to {out L M : List WV} {n m : Nat} (h : Got out L n) (hl : L = M) (hn : n ≤ m) : Got out M m := ⟨by rw [h.e, hl], hl ▸ h.ok, by rw [← hl]; exact Nat.le_trans h.len hn⟩
end Go.Pi
end

section
namespace Go.Pi
set_option linter.unusedVariables false
abbrev z3 : V3 := (0, 0, 0)
def P1 (l : List V3) (i : Nat) : Bool := decide (l.getD i z3 ≠ z3)
def P2 (l : List V3) (i k : Nat) : Bool := decide (w3 (cross (l.getD i z3) (l.getD k z3)) ≠ z3)
def P3 (l : List V3) (i k j : Nat) : Bool := decide (w64 (det (l.getD i z3) (l.getD k z3) (l.getD j z3)) ≠ 0)
def rk3 (a b c : Bool) : Int := if c then 3 else if b then 2 else if a then 1 else 0
def any1 (l : List V3) (n : Nat) : Bool := (List.range n).any (P1 l)
def an2 (l : List V3) (i k : Nat) : Bool := (List.range k).any (P2 l i)
def any2 (l : List V3) (n : Nat) : Bool := (List.range n).any fun i => an2 l i i
def an3 (l : List V3) (i k j : Nat) : Bool := (List.range j).any (P3 l i k)
def an3' (l : List V3) (i k : Nat) : Bool := (List.range k).any fun k => an3 l i k k
def any3 (l : List V3) (n : Nat) : Bool := (List.range n).any fun i => an3' l i i
def rkR (l : List V3) : Int := rk3 (any1 l l.length) (any2 l l.length) (any3 l l.length)
theorem any_succ (f : Nat → Bool) (n : Nat) : (List.range (n + 1)).any f = ((List.range n).any f || f n) := by rw [List.range_succ, List.any_append]; simp
theorem rk3_le (a b c : Bool) : 0 ≤ rk3 a b c ∧ rk3 a b c ≤ 3 := by cases a <;> cases b <;> cases c <;> decide
theorem rk3_max1 (a b c : Bool) : max (rk3 a b c) 1 = rk3 true b c := by cases a <;> cases b <;> cases c <;> decide
theorem rk3_max2 (a b c : Bool) : max (rk3 a b c) 2 = rk3 a true c := by cases a <;> cases b <;> cases c <;> decide

/-! ### what the loops look for -/
theorem any1_iff {l : List V3} : any1 l l.length = true ↔ ∃ d ∈ l, d ≠ z3 := by
  unfold any1 P1
  simp only [List.any_eq_true, List.mem_range, decide_eq_true_eq]
  constructor
  · rintro ⟨i, hi, h⟩
    exact ⟨l.getD i z3, by rw [getD_lt hi]; exact List.getElem_mem _, h⟩
  · rintro ⟨d, hd, h⟩
    obtain ⟨i, hi, e⟩ := List.getElem_of_mem hd
    exact ⟨i, hi, by rw [getD_lt hi, e]; exact h⟩
structure Dirs (l : List V3) : Prop where
  le : ∀ d ∈ l, V3.le d 9
  ne : ∀ d ∈ l, d ≠ z3
theorem cr_w {d e : V3} (hd : V3.le d 9) (he : V3.le e 9) : w3 (cross d e) = cross d e := by
  have h := cross_le hd he
  unfold w3
  rw [w64_fit (fit_le h.1 (by omega)), w64_fit (fit_le h.2.1 (by omega)), w64_fit (fit_le h.2.2 (by omega))]
theorem det_w {d e f : V3} (hd : V3.le d 9) (he : V3.le e 9) (hf : V3.le f 9) : w64 (det d e f) = det d e f := by
  have h := det_le hd he hf
  exact w64_fit ⟨by omega, by omega⟩
theorem getD_mem3 {l : List V3} {i : Nat} (h : i < l.length) : l.getD i z3 ∈ l := by rw [getD_lt h]; exact List.getElem_mem _
theorem cross_neg {d e : V3} (h : cross d e = z3) : cross e d = z3 := by
  obtain ⟨a, b, c⟩ := d
  obtain ⟨x, y, z⟩ := e
  simp only [cross, Prod.mk.injEq] at h ⊢
  obtain ⟨h1, h2, h3⟩ := h
  refine ⟨by grind, by grind, by grind⟩
theorem cross_self (d : V3) : cross d d = z3 := by
  obtain ⟨a, b, c⟩ := d
  simp only [cross, Prod.mk.injEq]
  refine ⟨by grind, by grind, by grind⟩
theorem any2_iff {l : List V3} (h : ∀ d ∈ l, V3.le d 9) : any2 l l.length = true ↔ ∃ d e, d ∈ l ∧ e ∈ l ∧ cross d e ≠ z3 := by
  unfold any2 an2 P2
  simp only [List.any_eq_true, List.mem_range, decide_eq_true_eq]
  constructor
  · rintro ⟨i, hi, k, hk, hc⟩
    have m1 := getD_mem3 hi
    have m2 := getD_mem3 (show k < l.length by omega)
    rw [cr_w (h _ m1) (h _ m2)] at hc
    exact ⟨_, _, m1, m2, hc⟩
  · rintro ⟨d, e, hd, he, hc⟩
    obtain ⟨i, hi, ei⟩ := List.getElem_of_mem hd
    obtain ⟨k, hk, ek⟩ := List.getElem_of_mem he
    have ei' : l.getD i z3 = d := by rw [getD_lt hi, ei]
    have ek' : l.getD k z3 = e := by rw [getD_lt hk, ek]
    rcases Nat.lt_trichotomy i k with hik | hik | hik
    · refine ⟨k, hk, i, hik, ?_⟩
      rw [ei', ek', cr_w (h _ he) (h _ hd)]
      exact fun hh => hc (cross_neg hh)
    · subst hik
      rw [ei'] at ek'
      subst ek'
      exact absurd (cross_self _) hc
    · refine ⟨i, hi, k, hik, ?_⟩
      rw [ei', ek', cr_w (h _ hd) (h _ he)]
      exact hc
theorem det_perm (d e f : V3) : det e d f = -det d e f ∧ det d f e = -det d e f ∧ det f e d = -det d e f ∧ det e f d = det d e f ∧ det f d e = det d e f := by
  simp only [det, dot, cross]
  refine ⟨by grind, by grind, by grind, by grind, by grind⟩
theorem det_same (d e : V3) : det d d e = 0 ∧ det d e d = 0 ∧ det e d d = 0 := by
  simp only [det, dot, cross]
  refine ⟨by grind, by grind, by grind⟩
theorem any3_iff {l : List V3} (h : ∀ d ∈ l, V3.le d 9) : any3 l l.length = true ↔ ∃ d e f, d ∈ l ∧ e ∈ l ∧ f ∈ l ∧ det d e f ≠ 0 := by
  unfold any3 an3' an3 P3
  simp only [List.any_eq_true, List.mem_range, decide_eq_true_eq]
  constructor
  · rintro ⟨i, hi, k, hk, j, hj, hc⟩
    have m1 := getD_mem3 hi
    have m2 := getD_mem3 (show k < l.length by omega)
    have m3 := getD_mem3 (show j < l.length by omega)
    rw [det_w (h _ m1) (h _ m2) (h _ m3)] at hc
    exact ⟨_, _, _, m1, m2, m3, hc⟩
  · rintro ⟨d, e, f, hd, he, hf, hc⟩
    obtain ⟨i, hi, ei⟩ := List.getElem_of_mem hd
    obtain ⟨k, hk, ek⟩ := List.getElem_of_mem he
    obtain ⟨j, hj, ej⟩ := List.getElem_of_mem hf
    have ei' : l.getD i z3 = d := by rw [getD_lt hi, ei]
    have ek' : l.getD k z3 = e := by rw [getD_lt hk, ek]
    have ej' : l.getD j z3 = f := by rw [getD_lt hj, ej]
    obtain ⟨p1, p2, p3, p4, p5⟩ := det_perm d e f
    have fin : ∀ (a b c : Nat), a < l.length → b < a → c < b → det (l.getD a z3) (l.getD b z3) (l.getD c z3) ≠ 0 → ∃ i, i < l.length ∧ ∃ k, k < i ∧ ∃ j, j < k ∧ w64 (det (l.getD i z3) (l.getD k z3) (l.getD j z3)) ≠ 0 := fun a b c ha hb hc hn =>
      ⟨a, ha, b, hb, c, hc, by rwa [det_w (h _ (getD_mem3 ha)) (h _ (getD_mem3 (show b < l.length by omega))) (h _ (getD_mem3 (show c < l.length by omega)))]⟩
    have n1 : i ≠ k := fun hh => by rw [hh, ek'] at ei'; rw [← ei'] at hc; exact hc (det_same _ _).1
    have n2 : i ≠ j := fun hh => by rw [hh, ej'] at ei'; rw [← ei'] at hc; exact hc (det_same _ _).2.1
    have n3 : k ≠ j := fun hh => by rw [hh, ej'] at ek'; rw [← ek'] at hc; exact hc (det_same _ _).2.2
    rcases Nat.lt_or_ge i k with a | a
    · rcases Nat.lt_or_ge k j with b | b
      · exact fin j k i hj b a (by rw [ei', ek', ej', p3]; omega)
      · rcases Nat.lt_or_ge i j with c | c
        · exact fin k j i hk (by omega) c (by rw [ei', ek', ej', p4]; omega)
        · exact fin k i j hk a (by omega) (by rw [ei', ek', ej', p1]; omega)
    · rcases Nat.lt_or_ge k j with b | b
      · rcases Nat.lt_or_ge i j with c | c
        · exact fin j i k hj c (by omega) (by rw [ei', ek', ej', p5]; omega)
        · exact fin i j k hi (by omega) b (by rw [ei', ek', ej', p2]; omega)
      · exact fin i k j hi (by omega) (by omega) (by rw [ei', ek', ej']; omega)

/-! ### found step by step -/
def RkInv (seen : List V3) : List V3 → Prop
  | [] => seen = []
  | [a] => a ∈ seen ∧ a ≠ z3 ∧ ∀ d ∈ seen, cross a d = z3
  | [a, b] => a ∈ seen ∧ b ∈ seen ∧ cross a b ≠ z3 ∧ ∀ d ∈ seen, dot (cross a b) d = 0
  | [a, b, c] => a ∈ seen ∧ b ∈ seen ∧ c ∈ seen ∧ det a b c ≠ 0
  | _ => False
theorem dot_cr_l (a b : V3) : dot (cross a b) a = 0 ∧ dot (cross a b) b = 0 := by
  simp only [dot, cross]
  exact ⟨by grind, by grind⟩
theorem par_dot {a b d : V3} (h : cross a d = z3) : dot (cross a b) d = 0 := by
  obtain ⟨a1, a2, a3⟩ := a
  obtain ⟨b1, b2, b3⟩ := b
  obtain ⟨d1, d2, d3⟩ := d
  simp only [cross, Prod.mk.injEq] at h
  obtain ⟨h1, h2, h3⟩ := h
  simp only [dot, cross]
  grind
theorem dot_dw {a b d : V3} (ha : V3.le a 9) (hb : V3.le b 9) (hd : V3.le d 9) : w64 (dot (w3 (cross a b)) d) = dot (cross a b) d := by
  have h := dot_le (cross_le ha hb) hd
  rw [cr_w ha hb]
  exact w64_fit ⟨by omega, by omega⟩
theorem det_dot (a b c : V3) : det a b c = dot (cross a b) c := by simp only [det, dot, cross]; grind
theorem rk_inv : ∀ (l seen own : List V3), Dirs (seen ++ l) → RkInv seen own → RkInv (seen ++ l) (l.foldl rkStep own)
  | [], seen, own, _, h => by rw [List.append_nil]; exact h
  | d :: l, seen, own, hd, h => by
    have e : seen ++ d :: l = (seen ++ [d]) ++ l := by simp
    rw [List.foldl_cons, e]
    rw [e] at hd
    refine rk_inv l _ _ hd ?_
    have md : d ∈ seen ++ [d] := by simp
    have mv : ∀ x, x ∈ seen → x ∈ seen ++ [d] := fun x hx => List.mem_append_left _ hx
    have le : ∀ x, x ∈ seen ++ [d] → V3.le x 9 := fun x hx => hd.le x (List.mem_append_left _ hx)
    have cs : ∀ {P : V3 → Prop}, (∀ x ∈ seen, P x) → P d → ∀ x ∈ seen ++ [d], P x := fun h1 h2 x hx => by
      rcases List.mem_append.1 hx with hx | hx
      · exact h1 x hx
      · rw [List.mem_singleton] at hx; rw [hx]; exact h2
    match own, h with
    | [], h =>
      have h : seen = [] := h
      subst h
      exact ⟨md, hd.ne d (by simp), fun x hx => by
        have : x = d := by simpa using hx
        rw [this]; exact cross_self d⟩
    | [a], ⟨ha, hn, hc⟩ =>
      have hw := cr_w (le a (mv a ha)) (le d md)
      show RkInv _ (if w3 (cross a d) = (0, 0, 0) then [a] else [a, d])
      rw [hw]
      by_cases h0 : cross a d = (0, 0, 0)
      · rw [if_pos h0]; exact ⟨mv a ha, hn, cs hc h0⟩
      · rw [if_neg h0]; exact ⟨mv a ha, md, h0, cs (fun x hx => par_dot (hc x hx)) (dot_cr_l a d).2⟩
    | [a, b], ⟨ha, hb, hn, hc⟩ =>
      have hw := dot_dw (le a (mv a ha)) (le b (mv b hb)) (le d md)
      show RkInv _ (if w64 (dot (w3 (cross a b)) d) = 0 then [a, b] else [a, b, d])
      rw [hw]
      by_cases h0 : dot (cross a b) d = 0
      · rw [if_pos h0]; exact ⟨mv a ha, mv b hb, hn, cs hc h0⟩
      · rw [if_neg h0]; exact ⟨mv a ha, mv b hb, md, by rw [det_dot]; exact h0⟩
    | [a, b, c], ⟨ha, hb, hc, hn⟩ => exact ⟨mv a ha, mv b hb, mv c hc, hn⟩
theorem rkOwn_inv {l : List V3} (h : Dirs l) : RkInv l (rkOwn l) := rk_inv l [] [] h rfl
theorem v3_ne {n : V3} (h : n ≠ z3) : n.1 ≠ 0 ∨ n.2.1 ≠ 0 ∨ n.2.2 ≠ 0 := by
  obtain ⟨a, b, c⟩ := n
  rcases Classical.em (a = 0) with h1 | h1
  · rcases Classical.em (b = 0) with h2 | h2
    · rcases Classical.em (c = 0) with h3 | h3
      · subst h1 h2 h3; exact absurd rfl h
      · exact .inr (.inr h3)
    · exact .inr (.inl h2)
  · exact .inl h1
/-- Three vectors that are all at right angles to one. -/
theorem det_flat {n d e f : V3} (hn : n ≠ z3) (h1 : dot n d = 0) (h2 : dot n e = 0) (h3 : dot n f = 0) : det d e f = 0 := by
  obtain ⟨n1, n2, n3⟩ := n
  have k1 : det d e f * n1 = 0 := by simp only [det, dot, cross] at *; grind
  have k2 : det d e f * n2 = 0 := by simp only [det, dot, cross] at *; grind
  have k3 : det d e f * n3 = 0 := by simp only [det, dot, cross] at *; grind
  rcases v3_ne hn with h | h | h
  · exact (Int.mul_eq_zero.1 k1).resolve_right h
  · exact (Int.mul_eq_zero.1 k2).resolve_right h
  · exact (Int.mul_eq_zero.1 k3).resolve_right h
/-- Two vectors along one. -/
theorem cross_par {a d e : V3} (ha : a ≠ z3) (h1 : cross a d = z3) (h2 : cross a e = z3) : cross d e = z3 := by
  obtain ⟨a1, a2, a3⟩ := a
  obtain ⟨d1, d2, d3⟩ := d
  obtain ⟨e1, e2, e3⟩ := e
  simp only [cross, Prod.mk.injEq] at h1 h2 ⊢
  obtain ⟨p1, p2, p3⟩ := h1
  obtain ⟨q1, q2, q3⟩ := h2
  have key : ∀ {x y : Int}, x ≠ 0 → y * x = 0 → y = 0 := fun hx hy => (Int.mul_eq_zero.1 hy).resolve_right hx
  rcases v3_ne ha with h | h | h
  · exact ⟨key h (by grind), key h (by grind), key h (by grind)⟩
  · exact ⟨key h (by grind), key h (by grind), key h (by grind)⟩
  · exact ⟨key h (by grind), key h (by grind), key h (by grind)⟩
theorem det_cross0 {d e : V3} (f : V3) (h : cross d e = z3) : det d e f = 0 := by rw [det_dot, h]; simp [dot]
/-- Both ranks are the same. -/
theorem rkR_eq {l : List V3} (h : Dirs l) : rkR l = ((rkOwn l).length : Int) := by
  have hi := rkOwn_inv h
  unfold rkR
  generalize rkOwn l = own at hi
  match own, hi with
  | [], hi =>
    have hi : l = [] := hi
    subst hi; rfl
  | [a], ⟨ha, hn, hc⟩ =>
    have e3 : any3 l l.length = false := by
      rw [← Bool.not_eq_true, any3_iff h.le]
      rintro ⟨d, e, f, hd, he, hf, hh⟩
      exact hh (det_cross0 f (cross_par hn (hc d hd) (hc e he)))
    have e2 : any2 l l.length = false := by
      rw [← Bool.not_eq_true, any2_iff h.le]
      rintro ⟨d, e, hd, he, hh⟩
      exact hh (cross_par hn (hc d hd) (hc e he))
    rw [e3, e2, any1_iff.2 ⟨a, ha, hn⟩]; rfl
  | [a, b], ⟨ha, hb, hn, hc⟩ =>
    have e3 : any3 l l.length = false := by
      rw [← Bool.not_eq_true, any3_iff h.le]
      rintro ⟨d, e, f, hd, he, hf, hh⟩
      exact hh (det_flat hn (hc d hd) (hc e he) (hc f hf))
    rw [e3, (any2_iff h.le).2 ⟨a, b, ha, hb, hn⟩]; rfl
  | [a, b, c], ⟨ha, hb, hc, hn⟩ =>
    rw [(any3_iff h.le).2 ⟨a, b, c, ha, hb, hc, hn⟩]; rfl
end Go.Pi
end

section
namespace Go.Pi
set_option linter.unusedVariables false
def agQ (l : List Rd) (p : V3) (q : Int) : Prop := ∀ r ∈ l, r.2.1 * q ≤ dot r.1 p ∧ dot r.1 p ≤ r.2.2 * q
def tight (r : Rd) (p : V3) (q : Int) : Prop := dot r.1 p = r.2.1 * q ∨ dot r.1 p = r.2.2 * q
/-- How far a reading lets a point go along u, times its speed. -/
def slack (p : V3) (q : Int) (u : V3) (r : Rd) : Int := if dot r.1 u > 0 then r.2.2 * q - dot r.1 p else dot r.1 p - r.2.1 * q
def speed (u : V3) (r : Rd) : Int := if dot r.1 u > 0 then dot r.1 u else -dot r.1 u
theorem speed_pos {u : V3} {r : Rd} (h : dot r.1 u ≠ 0) : 0 < speed u r := by unfold speed; split <;> omega
/-- The first that is reached. -/
theorem first_reached (n m : Rd → Int) : ∀ l : List Rd, (∃ r ∈ l, 0 < m r) → ∃ r ∈ l, 0 < m r ∧ ∀ s ∈ l, 0 < m s → n r * m s ≤ n s * m r
  | [], ⟨r, hr, _⟩ => by cases hr
  | a :: l, h => by
    by_cases hl : ∃ r ∈ l, 0 < m r
    · obtain ⟨r, hr, hm, hb⟩ := first_reached n m l hl
      by_cases ha : 0 < m a
      · rcases Int.le_total (n a * m r) (n r * m a) with hc | hc
        · refine ⟨a, .head _, ha, fun s hs hms => ?_⟩
          rcases List.mem_cons.1 hs with rfl | hs
          · exact Int.le_refl _
          · exact q_le ha hm hms hc (hb s hs hms)
        · refine ⟨r, .tail _ hr, hm, fun s hs hms => ?_⟩
          rcases List.mem_cons.1 hs with rfl | hs
          · exact hc
          · exact hb s hs hms
      · refine ⟨r, .tail _ hr, hm, fun s hs hms => ?_⟩
        rcases List.mem_cons.1 hs with rfl | hs
        · exact absurd hms ha
        · exact hb s hs hms
    · obtain ⟨r, hr, hm⟩ := h
      rcases List.mem_cons.1 hr with rfl | hr
      · refine ⟨r, .head _, hm, fun s hs hms => ?_⟩
        rcases List.mem_cons.1 hs with rfl | hs
        · exact Int.le_refl _
        · exact absurd ⟨s, hs, hms⟩ hl
      · exact absurd ⟨r, hr, hm⟩ hl
theorem dot_add (d p u : V3) (m n : Int) : dot d (m * p.1 + n * u.1, m * p.2.1 + n * u.2.1, m * p.2.2 + n * u.2.2) = m * dot d p + n * dot d u := by simp only [dot]; grind
/-- Along u as far as can be. -/
theorem move {l : List Rd} {p c u : V3} {q : Int} (hq : 0 < q) (ha : agQ l p q) (hc : dot c u ≤ 0) (hu : ∃ r ∈ l, dot r.1 u ≠ 0) :
    ∃ p' q', 0 < q' ∧ agQ l p' q' ∧ dot c p' * q ≤ dot c p * q' ∧ (∀ d, dot d u = 0 → dot d p' * q = dot d p * q') ∧ ∃ r ∈ l, dot r.1 u ≠ 0 ∧ tight r p' q' := by
  have hm : ∃ r ∈ l, 0 < speed u r := by obtain ⟨r, hr, h⟩ := hu; exact ⟨r, hr, speed_pos h⟩
  obtain ⟨r0, hr0, hm0, hmin⟩ := first_reached (slack p q u) (speed u) l hm
  have hn0 : 0 ≤ slack p q u r0 := by
    have := ha r0 hr0
    unfold slack
    split <;> omega
  obtain ⟨m, em⟩ : ∃ m, m = speed u r0 := ⟨_, rfl⟩
  obtain ⟨n, en⟩ : ∃ n, n = slack p q u r0 := ⟨_, rfl⟩
  rw [← em] at hm0
  rw [← en] at hn0
  have hd := fun d => dot_add d p u m n
  refine ⟨(m * p.1 + n * u.1, m * p.2.1 + n * u.2.1, m * p.2.2 + n * u.2.2), m * q, Int.mul_pos hm0 hq, fun r hr => ?_, ?_, fun d h0 => ?_, r0, hr0, ?_, ?_⟩
  · rw [hd]
    obtain ⟨a1, a2⟩ := ha r hr
    have b1 : m * (r.2.1 * q) ≤ m * dot r.1 p := Int.mul_le_mul_of_nonneg_left a1 (by omega)
    have b2 : m * dot r.1 p ≤ m * (r.2.2 * q) := Int.mul_le_mul_of_nonneg_left a2 (by omega)
    have e1 : r.2.1 * (m * q) = m * (r.2.1 * q) := by grind
    have e2 : r.2.2 * (m * q) = m * (r.2.2 * q) := by grind
    rw [e1, e2]
    rcases Int.lt_trichotomy (dot r.1 u) 0 with hs | hs | hs
    · have h1 := hmin r hr (speed_pos (by omega))
      rw [← em, ← en] at h1
      unfold speed slack at h1
      rw [if_neg (by omega), if_neg (by omega)] at h1
      have h2 : n * dot r.1 u ≤ 0 := Int.mul_nonpos_of_nonneg_of_nonpos hn0 (by omega)
      have h3 : (dot r.1 p - r.2.1 * q) * m = m * dot r.1 p - m * (r.2.1 * q) := by grind
      have h4 : n * -dot r.1 u = -(n * dot r.1 u) := by grind
      omega
    · rw [hs, Int.mul_zero]; omega
    · have h1 := hmin r hr (speed_pos (by omega))
      rw [← em, ← en] at h1
      unfold speed slack at h1
      rw [if_pos hs, if_pos hs] at h1
      have h2 : 0 ≤ n * dot r.1 u := Int.mul_nonneg hn0 (by omega)
      have h3 : (r.2.2 * q - dot r.1 p) * m = m * (r.2.2 * q) - m * dot r.1 p := by grind
      omega
  · rw [hd]
    have h1 : n * dot c u ≤ 0 := Int.mul_nonpos_of_nonneg_of_nonpos hn0 hc
    have h2 : n * dot c u * q ≤ 0 := Int.mul_nonpos_of_nonpos_of_nonneg h1 (by omega)
    have e : (m * dot c p + n * dot c u) * q = dot c p * (m * q) + n * dot c u * q := by grind
    omega
  · rw [hd, h0]; grind
  · intro hz
    unfold speed at em
    rw [hz] at em
    simp at em
    omega
  · unfold tight
    rw [hd]
    by_cases hs : dot r0.1 u > 0
    · unfold speed at em
      unfold slack at en
      rw [if_pos hs] at em en
      right
      rw [em, en]; grind
    · unfold speed at em
      unfold slack at en
      rw [if_neg hs] at em en
      left
      rw [em, en]; grind
/-- Directions of the rank 3 leave nothing free. -/
theorem full_dir {l : List Rd} (h : RdOK l) (h3 : (rkOwn (l.map (·.1))).length = 3) {u : V3} (hu : u ≠ z3) : ∃ r ∈ l, dot r.1 u ≠ 0 := by
  have hd : Dirs (l.map (·.1)) := ⟨fun d hd => by obtain ⟨r, hr, rfl⟩ := List.mem_map.1 hd; exact (h.dir r hr).1, fun d hd => by obtain ⟨r, hr, rfl⟩ := List.mem_map.1 hd; exact (h.dir r hr).2⟩
  have hi := rkOwn_inv hd
  generalize rkOwn (l.map (·.1)) = own at hi h3
  match own, hi, h3 with
  | [a, b, c], ⟨ha, hb, hc, hn⟩, _ =>
    refine Classical.byContradiction fun hno => hn ?_
    have key : ∀ x, x ∈ l.map (·.1) → dot u x = 0 := fun x hx => by
      obtain ⟨r, hr, rfl⟩ := List.mem_map.1 hx
      exact Classical.byContradiction fun hh => hno ⟨r, hr, by rw [dot_comm]; exact hh⟩
    exact det_flat hu (key a ha) (key b hb) (key c hc)
def neg3 (u : V3) : V3 := (-u.1, -u.2.1, -u.2.2)
theorem dot_neg3 (d u : V3) : dot d (neg3 u) = -dot d u := by simp only [dot, neg3]; grind
theorem neg3_ne {u : V3} (h : u ≠ z3) : neg3 u ≠ z3 := fun hh => by
  obtain ⟨a, b, c⟩ := u
  simp only [neg3, Prod.mk.injEq] at hh
  exact h (by simp only [Prod.mk.injEq]; omega)
/-- One of two opposite ways is not upwards. -/
theorem down (c : V3) {u : V3} (h : u ≠ z3) : ∃ w, w ≠ z3 ∧ dot c w ≤ 0 ∧ ∀ d, dot d w = 0 ↔ dot d u = 0 := by
  by_cases hc : dot c u ≤ 0
  · exact ⟨u, h, hc, fun d => Iff.rfl⟩
  · exact ⟨neg3 u, neg3_ne h, by rw [dot_neg3]; omega, fun d => by rw [dot_neg3]; omega⟩
/-- A vector at right angles to another one. -/
theorem right_angle (d : V3) : ∃ u : V3, u ≠ z3 ∧ dot d u = 0 := by
  obtain ⟨a, b, c⟩ := d
  by_cases h : a = 0
  · exact ⟨(1, 0, 0), by decide, by simp [dot, h]⟩
  · exact ⟨(b, -a, 0), fun hh => by simp only [Prod.mk.injEq] at hh; omega, by simp only [dot]; grind⟩
theorem tight_keep {r : Rd} {p p' : V3} {q q' : Int} (hq : 0 < q) (h : tight r p q) (he : dot r.1 p' * q = dot r.1 p * q') : tight r p' q' := by
  have key : ∀ x : Int, dot r.1 p = x * q → dot r.1 p' = x * q' := fun x hx => by
    refine Int.eq_of_mul_eq_mul_right (show q ≠ 0 by omega) ?_
    rw [he, hx]; grind
  rcases h with h | h
  · exact .inl (key _ h)
  · exact .inr (key _ h)
theorem par_zero {d e u : V3} (hd : d ≠ z3) (hc : cross d e = z3) (h : dot d u = 0) : dot e u = 0 := by
  obtain ⟨x1, x2, x3⟩ := d
  obtain ⟨y1, y2, y3⟩ := e
  obtain ⟨w1, w2, w3⟩ := u
  simp only [cross, Prod.mk.injEq] at hc
  obtain ⟨e1, e2, e3⟩ := hc
  simp only [dot] at h ⊢
  have key : ∀ {x y : Int}, x ≠ 0 → y * x = 0 → y = 0 := fun hx hy => (Int.mul_eq_zero.1 hy).resolve_right hx
  rcases v3_ne hd with hx | hx | hx
  · exact key hx (by dsimp only; grind)
  · exact key hx (by dsimp only; grind)
  · exact key hx (by dsimp only; grind)
/-- Three readings that hold a point. -/
theorem corner {l : List Rd} (h : RdOK l) (h3 : (rkOwn (l.map (·.1))).length = 3) {p : V3} {q : Int} (hq : 0 < q) (ha : agQ l p q) (c : V3) :
    ∃ p' q', 0 < q' ∧ agQ l p' q' ∧ dot c p' * q ≤ dot c p * q' ∧ ∃ r1 r2 r3, r1 ∈ l ∧ r2 ∈ l ∧ r3 ∈ l ∧ tight r1 p' q' ∧ tight r2 p' q' ∧ tight r3 p' q' ∧ det r1.1 r2.1 r3.1 ≠ 0 := by
  obtain ⟨u1, n1, c1, _⟩ := down c (show ((1, 0, 0) : V3) ≠ z3 by decide)
  obtain ⟨p1, q1, hq1, a1, l1, _, r1, m1, _, t1⟩ := move hq ha c1 (full_dir h h3 n1)
  obtain ⟨v2, nv2, dv2⟩ := right_angle r1.1
  obtain ⟨u2, n2, c2, i2⟩ := down c nv2
  obtain ⟨p2, q2, hq2, a2, l2, k2, r2, m2, g2, t2⟩ := move hq1 a1 c2 (full_dir h h3 n2)
  have z2 : dot r1.1 u2 = 0 := (i2 _).2 dv2
  have t1' : tight r1 p2 q2 := tight_keep hq1 t1 (k2 _ z2)
  have nx : cross r1.1 r2.1 ≠ z3 := fun hh => g2 (par_zero (h.dir r1 m1).2 hh z2)
  obtain ⟨u3, n3, c3, i3⟩ := down c nx
  obtain ⟨p3, q3, hq3, a3, l3, k3, r3, m3, g3, t3⟩ := move hq2 a2 c3 (full_dir h h3 n3)
  obtain ⟨s1, s2⟩ := dot_cr_l r1.1 r2.1
  rw [dot_comm] at s1 s2
  refine ⟨p3, q3, hq3, a3, ?_, r1, r2, r3, m1, m2, m3, tight_keep hq2 t1' (k3 _ ((i3 _).2 s1)), tight_keep hq2 t2 (k3 _ ((i3 _).2 s2)), t3, ?_⟩
  · exact q_le hq3 hq2 hq l3 (q_le hq2 hq1 hq l2 l1)
  · rw [det_dot, dot_comm]
    exact fun hh => g3 ((i3 _).2 hh)
theorem ends_bits (x y z : Nat) (hx : x < 2) (hy : y < 2) (hz : z < 2) : (x + 2 * y + 4 * z) % 2 = x ∧ (x + 2 * y + 4 * z) / 2 % 2 = y ∧ (x + 2 * y + 4 * z) / 4 % 2 = z := by omega
theorem tight_end {r : Rd} {p : V3} {q : Int} (h : tight r p q) : ∃ n, n < 2 ∧ dot r.1 p = endR r.2 n * q := by
  rcases h with h | h
  · exact ⟨0, by omega, h⟩
  · exact ⟨1, by omega, h⟩
theorem endR_congr {r : Int × Int} {m n : Nat} (h : m % 2 = n % 2) : endR r m = endR r n := by unfold endR; rw [h]
theorem cramer {m : M3} {v p : V3} {q : Int} (h0 : dot m.1 p = v.1 * q) (h1 : dot m.2.1 p = v.2.1 * q) (h2 : dot m.2.2 p = v.2.2 * q) :
    det3 (c0 m v) * q = det3 m * p.1 ∧ det3 (c1 m v) * q = det3 m * p.2.1 ∧ det3 (c2 m v) * q = det3 m * p.2.2 := by
  obtain ⟨⟨a1, a2, a3⟩, ⟨b1, b2, b3⟩, e1, e2, e3⟩ := m
  obtain ⟨v1, v2, v3⟩ := v
  obtain ⟨p1, p2, p3⟩ := p
  simp only [dot] at h0 h1 h2
  simp only [det3, det, dot, cross, c0, c1, c2]
  refine ⟨by grind, by grind, by grind⟩
/-- A wind in lowest terms agrees with a reading as the machine says. -/
theorem agR_iff {r : Rd} {v : WV} (hd : V3.le r.1 9) (hr : (-10000 ≤ r.2.1 ∧ r.2.1 ≤ 10000) ∧ -10000 ≤ r.2.2 ∧ r.2.2 ≤ 10000) (hv : V3.le (wpt v) 1000000000000) (h0 : 0 < v.2.2.2) (h9 : v.2.2.2 ≤ 1000000000) :
    agR r v = true ↔ r.2.1 * v.2.2.2 ≤ dot r.1 (wpt v) ∧ dot r.1 (wpt v) ≤ r.2.2 * v.2.2.2 := by
  have h1 := mul_le hr.1 (show -1000000000 ≤ v.2.2.2 ∧ v.2.2.2 ≤ 1000000000 by omega)
  have h2 := mul_le hr.2 (show -1000000000 ≤ v.2.2.2 ∧ v.2.2.2 ≤ 1000000000 by omega)
  have h3 := dot_le hd hv
  unfold agR
  rw [w64_in (by omega) (by omega), w64_in (by omega) (by omega), w64_in (by omega) (by omega)]
  exact decide_eq_true_iff
theorem ag_move {r : Rd} {p w : V3} {q d : Int} (hq : 0 < q) (hd : 0 < d) (he : dot r.1 w * q = dot r.1 p * d) (h : r.2.1 * q ≤ dot r.1 p ∧ dot r.1 p ≤ r.2.2 * q) : r.2.1 * d ≤ dot r.1 w ∧ dot r.1 w ≤ r.2.2 * d := by
  have b1 : r.2.1 * q * d ≤ dot r.1 p * d := Int.mul_le_mul_of_nonneg_right h.1 (by omega)
  have b2 : dot r.1 p * d ≤ r.2.2 * q * d := Int.mul_le_mul_of_nonneg_right h.2 (by omega)
  rw [← he] at b1 b2
  refine ⟨Int.le_of_mul_le_mul_right (a := q) ?_ hq, Int.le_of_mul_le_mul_right (a := q) ?_ hq⟩
  · have : r.2.1 * d * q = r.2.1 * q * d := by grind
    omega
  · have : r.2.2 * d * q = r.2.2 * q * d := by grind
    omega
theorem dot_par {d p w : V3} {q n : Int} (h0 : w.1 * q = p.1 * n) (h1 : w.2.1 * q = p.2.1 * n) (h2 : w.2.2 * q = p.2.2 * n) : dot d w * q = dot d p * n := by
  simp only [dot]; grind
/-- A corner is a vertex. -/
theorem vertex_of {l : List Rd} (h : RdLe l) {p : V3} {q : Int} (hq : 0 < q) (ha : agQ l p q) {a b c : Nat} (hab : a < b) (hbc : b < c) (hc : c < l.length)
    (ta : tight (l.getD a rd0) p q) (tb : tight (l.getD b rd0) p q) (tc : tight (l.getD c rd0) p q) (hd : det3 (rows3 l a b c) ≠ 0) :
    ∃ v ∈ vtx l, v.1 * q = p.1 * v.2.2.2 ∧ v.2.1 * q = p.2.1 * v.2.2.2 ∧ v.2.2.1 * q = p.2.2 * v.2.2.2 := by
  obtain ⟨x, hx, ex⟩ := tight_end ta
  obtain ⟨y, hy, ey⟩ := tight_end tb
  obtain ⟨z, hz, ez⟩ := tight_end tc
  obtain ⟨b1, b2, b3⟩ := ends_bits x y z hx hy hz
  have m1 : x % 2 = x := by omega
  have m2 : y % 2 = y := by omega
  have m3 : z % 2 = z := by omega
  have hs := sol1_eq h (show a < l.length by omega) (show b < l.length by omega) hc (x + 2 * y + 4 * z)
  have hok := sol1_ok h (show a < l.length by omega) (show b < l.length by omega) hc (x + 2 * y + 4 * z) hd
  obtain ⟨k1, k2, k3⟩ := cramer (m := rows3 l a b c) (v := ends3 l a b c (x + 2 * y + 4 * z)) (p := p) (q := q)
    (by rw [show (ends3 l a b c (x + 2 * y + 4 * z)).1 = endR (l.getD a rd0).2 x from endR_congr (by omega)]; exact ex)
    (by rw [show (ends3 l a b c (x + 2 * y + 4 * z)).2.1 = endR (l.getD b rd0).2 y from endR_congr (by omega)]; exact ey)
    (by rw [show (ends3 l a b c (x + 2 * y + 4 * z)).2.2 = endR (l.getD c rd0).2 z from endR_congr (by omega)]; exact ez)
  obtain ⟨j1, j2, j3⟩ := lowV_mul (det3 (c0 (rows3 l a b c) (ends3 l a b c (x + 2 * y + 4 * z))), det3 (c1 (rows3 l a b c) (ends3 l a b c (x + 2 * y + 4 * z))), det3 (c2 (rows3 l a b c) (ends3 l a b c (x + 2 * y + 4 * z)))) (det3 (rows3 l a b c)) hd
  rw [← hs] at j1 j2 j3
  have hsw := (h.sml (show a < l.length by omega) (show b < l.length by omega) hc (x + 2 * y + 4 * z) : Sml (rows3 l a b c) _).w
  have hmem : ∀ v, v = sol1 l a b c (x + 2 * y + 4 * z) → l.all (agR · v) = true → v ∈ vtx l := fun v hv hg => vtx_mem.2 (cands_mem.2 ⟨a, b, c, x + 2 * y + 4 * z, hab, hbc, hc, by omega, by rw [hsw]; exact hd, hv, hg⟩)
  generalize sol1 l a b c (x + 2 * y + 4 * z) = v at *
  dsimp only at j1 j2 j3
  generalize det3 (c0 (rows3 l a b c) (ends3 l a b c (x + 2 * y + 4 * z))) = D0 at *
  generalize det3 (c1 (rows3 l a b c) (ends3 l a b c (x + 2 * y + 4 * z))) = D1 at *
  generalize det3 (c2 (rows3 l a b c) (ends3 l a b c (x + 2 * y + 4 * z))) = D2 at *
  generalize det3 (rows3 l a b c) = D at *
  have key : ∀ {n X P : Int}, n * v.2.2.2 = X * D → n * q = D * P → X * q = P * v.2.2.2 := fun {n X P} e1 e2 => by
    refine Int.eq_of_mul_eq_mul_right hd ?_
    have : X * q * D = (X * D) * q := by grind
    rw [this, ← e1, show n * v.2.2.2 * q = (n * q) * v.2.2.2 by grind, e2]; grind
  have e1 := key j1 k1
  have e2 := key j2 k2
  have e3 := key j3 k3
  obtain ⟨⟨w1, w2⟩, w3, w4⟩ := hok
  refine ⟨v, hmem v rfl ?_, e1, e2, e3⟩
  rw [List.all_eq_true]
  intro r hr
  have w5 : V3.le (wpt v) 1000000000000 := by
    obtain ⟨p1, p2, p3⟩ := w4
    exact ⟨by omega, by omega, by omega⟩
  exact (agR_iff (h.dir r hr) (h.rng r hr) w5 w1 (by omega)).2 (ag_move hq w1 (dot_par (p := p) (w := wpt v) e1 e2 e3) (ha r hr))
theorem det3_rows (l : List Rd) (a b c : Nat) : det3 (rows3 l a b c) = det (l.getD a rd0).1 (l.getD b rd0).1 (l.getD c rd0).1 := rfl
/-- The least product of a direction and the winds that agree is that of a vertex. -/
theorem lp {l : List Rd} (h : RdOK l) (h3 : (rkOwn (l.map (·.1))).length = 3) {p : V3} {q : Int} (hq : 0 < q) (ha : agQ l p q) (c : V3) :
    ∃ v ∈ vtx l, dot c (wpt v) * q ≤ dot c p * v.2.2.2 := by
  obtain ⟨p', q', hq', a', le, r1, r2, r3, m1, m2, m3, t1, t2, t3, hd⟩ := corner h h3 hq ha c
  obtain ⟨i, hi, e1⟩ := List.getElem_of_mem m1
  obtain ⟨k, hk, e2⟩ := List.getElem_of_mem m2
  obtain ⟨j, hj, e3⟩ := List.getElem_of_mem m3
  have g1 : l.getD i rd0 = r1 := by rw [getD_lt hi, e1]
  have g2 : l.getD k rd0 = r2 := by rw [getD_lt hk, e2]
  have g3 : l.getD j rd0 = r3 := by rw [getD_lt hj, e3]
  subst g1 g2 g3
  have n1 : i ≠ k := fun hh => hd (by rw [hh]; exact (det_same _ _).1)
  have n2 : i ≠ j := fun hh => hd (by rw [hh]; exact (det_same _ _).2.1)
  have n3 : k ≠ j := fun hh => hd (by rw [hh]; exact (det_same _ _).2.2)
  obtain ⟨p1, p2, p3, p4, p5⟩ := det_perm (l.getD i rd0).1 (l.getD k rd0).1 (l.getD j rd0).1
  have fin : ∀ {a b e : Nat}, a < b → b < e → e < l.length → tight (l.getD a rd0) p' q' → tight (l.getD b rd0) p' q' → tight (l.getD e rd0) p' q' → det (l.getD a rd0).1 (l.getD b rd0).1 (l.getD e rd0).1 ≠ 0 → ∃ v ∈ vtx l, dot c (wpt v) * q ≤ dot c p * v.2.2.2 := fun {a b e} x1 x2 x3 y1 y2 y3 y4 => by
    obtain ⟨v, hv, f1, f2, f3⟩ := vertex_of h.rdLe hq' a' x1 x2 x3 y1 y2 y3 (by rw [det3_rows]; exact y4)
    have hw := (cands_ok h.rdLe v (vtx_mem.1 hv)).1.den
    refine ⟨v, hv, q_le (b := dot c p') hw hq' hq ?_ le⟩
    rw [dot_par (d := c) (p := p') (w := wpt v) f1 f2 f3]
    exact Int.le_refl _
  rcases Nat.lt_or_ge i k with a | a
  · rcases Nat.lt_or_ge k j with b | b
    · exact fin a b hj t1 t2 t3 hd
    · rcases Nat.lt_or_ge i j with x | x
      · exact fin x (by omega) hk t1 t3 t2 (by rw [p2]; omega)
      · exact fin (by omega) a hk t3 t1 t2 (by rw [p5]; omega)
  · rcases Nat.lt_or_ge k j with b | b
    · rcases Nat.lt_or_ge i j with x | x
      · exact fin (by omega) x hj t2 t1 t3 (by rw [p1]; omega)
      · exact fin b (by omega) hi t2 t3 t1 (by rw [p4]; omega)
    · exact fin (by omega) (by omega) hi t3 t2 t1 (by rw [p3]; omega)
theorem flatMap_lenV {α : Type} (f : Nat → List α) : ∀ n, ((List.range n).flatMap f).length = ((List.range n).map fun i => (f i).length).sum
  | n => by rw [List.length_flatMap]
theorem sum_le {f g : Nat → Nat} (h : ∀ i, f i ≤ g i) : ∀ n, ((List.range n).map f).sum ≤ ((List.range n).map g).sum
  | 0 => by simp
  | n + 1 => by
    rw [List.range_succ, List.map_append, List.map_append, List.sum_append, List.sum_append]
    have := sum_le h n
    have := h n
    simp
    omega
theorem sum_mono (f : Nat → Nat) {m n : Nat} (h : m ≤ n) : ((List.range m).map f).sum ≤ ((List.range n).map f).sum := by
  obtain ⟨k, rfl⟩ := Nat.le.dest h
  induction k with
  | zero => simp
  | succ k ih =>
    rw [← Nat.add_assoc, List.range_succ, List.map_append, List.sum_append]
    have := ih (by omega)
    omega
theorem cands_160 {l : List Rd} (h : l.length ≤ 6) : (cands l).length ≤ 160 := by
  have hE : ∀ a b c e, (candE l a b c e).length ≤ 1 := fun a b c e => by unfold candE; split <;> simp
  have hA : ∀ c b a, (candA l c b a).length ≤ 8 := fun c b a => by
    unfold candA
    split
    · simp
    · rw [flatMap_lenV]; exact Nat.le_trans (sum_le (fun e => hE a b c e) 8) (by decide)
  have hB : ∀ c b, (candB l c b).length ≤ ((List.range b).map fun _ => 8).sum := fun c b => by
    unfold candB; rw [flatMap_lenV]; exact sum_le (fun a => hA c b a) b
  have hC : ∀ c, (candC l c).length ≤ ((List.range c).map fun b => ((List.range b).map fun _ => 8).sum).sum := fun c => by
    unfold candC; rw [flatMap_lenV]; exact sum_le (fun b => hB c b) c
  unfold cands
  rw [flatMap_lenV]
  exact Nat.le_trans (sum_le hC l.length) (Nat.le_trans (sum_mono _ h) (by decide))
theorem vtx_160 {l : List Rd} (h : l.length ≤ 6) : (vtx l).length ≤ 160 := by
  have h1 := cands_160 h
  have h2 : ((cands l).foldl insW []).length ≤ 0 + (cands l).length := sortW_len (cands l) []
  have e : (vtx l).length = ((cands l).foldl insW []).length := rfl
  omega
end Go.Pi
end
