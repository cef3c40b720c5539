/- What functions of the program compute, each proved once, part 15. -/
import Derived.Test.YtglijnhkdnhofaaGreatFnN
import Derived.Test.YtglijnhkdnhofaaGreatPiD
import Derived.Test.YtglijnhkdnhofaaGreatFnA
import Derived.Test.YtglijnhkdnhofaaGreatFnI

section
namespace Go.Pi
set_option linter.unusedVariables false
set_option linter.unusedSimpArgs false
theorem cr_ne {a b : V3} : cross a b ≠ z3 ↔ cross b a ≠ z3 := ⟨fun h hh => h (cross_neg hh), fun h hh => h (cross_neg hh)⟩
theorem cr_eq {a b : V3} : cross a b = z3 ↔ cross b a = z3 := ⟨cross_neg, cross_neg⟩
theorem Dirs.sub {l m : List V3} (h : Dirs l) (hs : ∀ d ∈ m, d ∈ l) : Dirs m := ⟨fun d hd => h.1 d (hs d hd), fun d hd => h.2 d (hs d hd)⟩
theorem P2_at {l : List V3} (h : Dirs l) {i k : Nat} (hi : i < l.length) (hk : k < l.length) : P2 l i k = decide (cross (l.getD k z3) (l.getD i z3) ≠ z3) := by
  unfold P2
  rw [cr_w (h.1 _ (getD_mem3 hi)) (h.1 _ (getD_mem3 hk))]
  by_cases c : cross (l.getD i z3) (l.getD k z3) = z3
  · rw [decide_eq_false (fun hh => hh c), decide_eq_false (fun hh => hh (cross_neg c))]
  · rw [decide_eq_true (show cross (l.getD i z3) (l.getD k z3) ≠ z3 from c), decide_eq_true (show cross (l.getD k z3) (l.getD i z3) ≠ z3 from fun hh => c (cross_neg hh))]
theorem P3_at {l : List V3} (h : Dirs l) {i k j : Nat} (hi : i < l.length) (hk : k < l.length) (hj : j < l.length) : P3 l i k j = decide (det (l.getD j z3) (l.getD k z3) (l.getD i z3) ≠ 0) := by
  unfold P3
  rw [det_w (h.1 _ (getD_mem3 hi)) (h.1 _ (getD_mem3 hk)) (h.1 _ (getD_mem3 hj)), (det_perm (l.getD j z3) (l.getD k z3) (l.getD i z3)).2.2.1]
  by_cases c : det (l.getD j z3) (l.getD k z3) (l.getD i z3) = 0
  · rw [c]; rfl
  · rw [decide_eq_true c, decide_eq_true (by omega)]
theorem P1_at {l : List V3} (h : Dirs l) {i : Nat} (hi : i < l.length) : P1 l i = true := decide_eq_true (h.2 _ (getD_mem3 hi))
theorem rk_one {a : V3} (h : Dirs [a]) : rkR [a] = 1 := by
  have e1 : any1 [a] 1 = P1 [a] 0 := by simp [any1, List.range_succ]
  have e2 : any2 [a] 1 = false := by simp [any2, an2, List.range_succ]
  have e3 : any3 [a] 1 = false := by simp [any3, an3', an3, List.range_succ]
  show rk3 (any1 [a] 1) (any2 [a] 1) (any3 [a] 1) = 1
  rw [e1, e2, e3, P1_at h (by simp)]; rfl
theorem rk_two {a b : V3} (h : Dirs [a, b]) : rkR [a, b] = if cross a b = z3 then 1 else 2 := by
  have e1 : any1 [a, b] 2 = true := by simp [any1, List.range_succ, P1_at h]
  have e2 : any2 [a, b] 2 = P2 [a, b] 1 0 := by simp [any2, an2, List.range_succ]
  have e3 : any3 [a, b] 2 = false := by simp [any3, an3', an3, List.range_succ]
  show rk3 (any1 [a, b] 2) (any2 [a, b] 2) (any3 [a, b] 2) = _
  rw [e1, e2, e3, P2_at h (by simp) (by simp)]
  show rk3 true (decide (cross a b ≠ z3)) false = _
  by_cases c : cross a b = z3
  · rw [if_pos c, decide_eq_false (fun hh => hh c)]; rfl
  · rw [if_neg c, decide_eq_true c]; rfl
theorem rk_three {a b c : V3} (h : Dirs [a, b, c]) : rkR [a, b, c] = if det a b c ≠ 0 then 3 else if cross a b = z3 ∧ cross a c = z3 ∧ cross b c = z3 then 1 else 2 := by
  have e1 : any1 [a, b, c] 3 = true := by simp [any1, List.range_succ, P1_at h]
  have e2 : any2 [a, b, c] 3 = (P2 [a, b, c] 1 0 || (P2 [a, b, c] 2 0 || P2 [a, b, c] 2 1)) := by simp [any2, an2, List.range_succ]
  have e3 : any3 [a, b, c] 3 = P3 [a, b, c] 2 1 0 := by simp [any3, an3', an3, List.range_succ]
  show rk3 (any1 [a, b, c] 3) (any2 [a, b, c] 3) (any3 [a, b, c] 3) = _
  rw [e1, e2, e3, P2_at h (by simp) (by simp), P2_at h (by simp) (by simp), P2_at h (by simp) (by simp), P3_at h (by simp) (by simp) (by simp)]
  show rk3 true (decide (cross a b ≠ z3) || (decide (cross a c ≠ z3) || decide (cross b c ≠ z3))) (decide (det a b c ≠ 0)) = _
  by_cases d : det a b c ≠ 0
  · rw [if_pos d, decide_eq_true d]; rfl
  · rw [if_neg d, decide_eq_false d]
    by_cases c1 : cross a b = z3 <;> by_cases c2 : cross a c = z3 <;> by_cases c3 : cross b c = z3 <;> simp [c1, c2, c3, rk3]
theorem rk_four {a b c d : V3} (h : Dirs [a, b, c, d]) (hd : det a b c ≠ 0) : rkR [a, b, c, d] = 3 := by
  have e3 : any3 [a, b, c, d] 4 = true := by
    have : P3 [a, b, c, d] 2 1 0 = true := by rw [P3_at h (by simp) (by simp) (by simp)]; exact decide_eq_true hd
    simp [any3, an3', an3, List.range_succ, this]
  show rk3 (any1 [a, b, c, d] 4) (any2 [a, b, c, d] 4) (any3 [a, b, c, d] 4) = _
  rw [e3]; rfl
/-- The raw factors. -/
def rawR (l : List V3) : List Int := match l with
  | [a, b] => rr2 a b
  | [a, b, c] => rr3 a b c
  | [a, b, c, d] => raw4 a b c d
  | _ => []
def RkOK (l : List V3) : Prop := (∀ k, k < l.length → rkR (l.eraseIdx k) = (l.length : Int) - 1) ∧ rkR l = (l.length : Int) - 1
theorem fac_is {l : List V3} (hD : Dirs l) (h2 : 2 ≤ l.length) (h4 : l.length ≤ 4) : (RkOK l → facR l = (nrm (rawR l), true) ∧ Nz (rawR l)) ∧ (¬ RkOK l → facR l = ([], false)) := by
  match l, h2, h4, hD with
  | [a, b], _, _, hD =>
    have ha := hD.2 a (by simp)
    have hb := hD.2 b (by simp)
    have r := rk_two hD
    have r1 := rk_one (hD.sub (m := [a]) (by simp))
    have r2 := rk_one (hD.sub (m := [b]) (by simp))
    obtain ⟨n, y⟩ := fac2 ha hb
    constructor
    · intro h
      refine y (Classical.byContradiction fun c => ?_)
      have := h.2
      rw [r, if_neg c] at this
      simp at this
    · intro h
      refine n fun c => h ⟨fun k hk => ?_, by rw [r, if_pos c]; rfl⟩
      match k, hk with
      | 0, _ => exact r2
      | 1, _ => exact r1
  | [a, b, c], _, _, hD =>
    have ha := hD.2 a (by simp)
    have hb := hD.2 b (by simp)
    have hc := hD.2 c (by simp)
    have r := rk_three hD
    have r0 := rk_two (hD.sub (m := [b, c]) (by simp))
    have r1 := rk_two (hD.sub (m := [a, c]) (by simp))
    have r2 := rk_two (hD.sub (m := [a, b]) (by simp))
    obtain ⟨n, y⟩ := fac3 ha hb hc
    constructor
    · intro h
      have k0 : cross b c ≠ z3 := fun q => by
        have := h.1 0 (by simp)
        rw [show [a, b, c].eraseIdx 0 = [b, c] from rfl, r0, if_pos q] at this
        simp at this
      have k1 : cross a c ≠ z3 := fun q => by
        have := h.1 1 (by simp)
        rw [show [a, b, c].eraseIdx 1 = [a, c] from rfl, r1, if_pos q] at this
        simp at this
      have k2 : cross a b ≠ z3 := fun q => by
        have := h.1 2 (by simp)
        rw [show [a, b, c].eraseIdx 2 = [a, b] from rfl, r2, if_pos q] at this
        simp at this
      refine y (Classical.byContradiction fun d => ?_) k0 k1 k2
      have := h.2
      rw [r, if_pos d] at this
      simp at this
    · intro h
      refine n (Classical.byContradiction fun q => ?_)
      have q0 : det a b c = 0 := Classical.byContradiction fun d => q (.inl d)
      have q1 : cross b c ≠ z3 := fun d => q (.inr (.inl d))
      have q2 : cross a c ≠ z3 := fun d => q (.inr (.inr (.inl d)))
      have q3 : cross a b ≠ z3 := fun d => q (.inr (.inr (.inr d)))
      refine h ⟨fun k hk => ?_, by rw [r, if_neg (fun hh => hh q0), if_neg (fun hh => q3 hh.1)]; rfl⟩
      match k, hk with
      | 0, _ => show rkR [b, c] = 2; rw [r0, if_neg q1]
      | 1, _ => show rkR [a, c] = 2; rw [r1, if_neg q2]
      | 2, _ => show rkR [a, b] = 2; rw [r2, if_neg q3]
  | [a, b, c, d], _, _, hD =>
    have ha := hD.2 a (by simp)
    have hb := hD.2 b (by simp)
    have hc := hD.2 c (by simp)
    have hd := hD.2 d (by simp)
    have r0 := rk_three (hD.sub (m := [b, c, d]) (by simp))
    have r1 := rk_three (hD.sub (m := [a, c, d]) (fun x hx => by simp at hx ⊢; rcases hx with h | h | h <;> simp [h]))
    have r2 := rk_three (hD.sub (m := [a, b, d]) (fun x hx => by simp at hx ⊢; rcases hx with h | h | h <;> simp [h]))
    have r3 := rk_three (hD.sub (m := [a, b, c]) (fun x hx => by simp at hx ⊢; rcases hx with h | h | h <;> simp [h]))
    obtain ⟨n, y⟩ := fac4 ha hb hc hd
    have key : ∀ {p q s : V3} {t : Int}, rkR [p, q, s] = t → t = 3 → rkR [p, q, s] = (if det p q s ≠ 0 then 3 else if cross p q = z3 ∧ cross p s = z3 ∧ cross q s = z3 then 1 else 2) → det p q s ≠ 0 := fun {p q s t} h1 ht h2 hz => by
      rw [if_neg (fun hh => hh hz)] at h2
      rw [h2] at h1
      split at h1 <;> omega
    constructor
    · intro h
      exact y (key (h.1 0 (by simp)) rfl r0) (key (h.1 1 (by simp)) rfl r1) (key (h.1 2 (by simp)) rfl r2) (key (h.1 3 (by simp)) rfl r3)
    · intro h
      refine n (Classical.byContradiction fun q => ?_)
      have q0 : det b c d ≠ 0 := fun e => q (.inl e)
      have q1 : det a c d ≠ 0 := fun e => q (.inr (.inl e))
      have q2 : det a b d ≠ 0 := fun e => q (.inr (.inr (.inl e)))
      have q3 : det a b c ≠ 0 := fun e => q (.inr (.inr (.inr e)))
      refine h ⟨fun k hk => ?_, rk_four hD q3⟩
      match k, hk with
      | 0, _ => show rkR [b, c, d] = 3; rw [r0, if_pos q0]
      | 1, _ => show rkR [a, c, d] = 3; rw [r1, if_pos q1]
      | 2, _ => show rkR [a, b, d] = 3; rw [r2, if_pos q2]
      | 3, _ => show rkR [a, b, c] = 3; rw [r3, if_pos q3]
end Go.Pi
end

section
namespace Go.Pi
set_option linter.unusedVariables false
set_option linter.unusedSimpArgs false
abbrev upN (s : List Nat) : List Int := s.map fun n : Nat => (n : Int)
def lexI : List Int → List Int → Bool
  | a :: r, b :: t => if a = b then lexI r t else decide (a < b)
  | _, _ => false
theorem lexI_at : ∀ {a b : List Int} {k : Nat}, a.length = b.length → (∀ j, j < k → a.getD j 0 = b.getD j 0) → k < a.length → a.getD k 0 ≠ b.getD k 0 → lexI a b = decide (a.getD k 0 < b.getD k 0)
  | [], b, k, _, _, h, _ => by simp at h
  | x :: a, [], k, h, _, _, _ => by simp at h
  | x :: a, y :: b, 0, _, _, _, hn => by
    unfold lexI
    rw [if_neg (show ¬ x = y from hn)]; rfl
  | x :: a, y :: b, k + 1, hl, he, hk, hn => by
    unfold lexI
    rw [if_pos (show x = y from he 0 (by omega))]
    exact lexI_at (by simpa using hl) (fun j hj => he (j + 1) (by omega)) (by simpa using hk) hn
theorem lexI_same : ∀ {a b : List Int}, a.length = b.length → (∀ j, j < a.length → a.getD j 0 = b.getD j 0) → lexI a b = false
  | [], [], _, _ => rfl
  | [], y :: b, h, _ => by simp at h
  | x :: a, [], h, _ => by simp at h
  | x :: a, y :: b, hl, he => by
    unfold lexI
    rw [if_pos (show x = y from he 0 (by simp))]
    exact lexI_same (by simpa using hl) fun j hj => he (j + 1) (by simp; omega)
theorem lexI_up : ∀ a b : List Nat, lexI (upN a) (upN b) = true ↔ lexN a b
  | [], b => by simp [lexI, lexN]
  | x :: a, [] => by simp [lexI, lexN]
  | x :: a, y :: b => by
    have ih := lexI_up a b
    show (if (x : Int) = (y : Int) then lexI (upN a) (upN b) else decide ((x : Int) < (y : Int))) = true ↔ x < y ∨ x = y ∧ lexN a b
    by_cases h : x = y
    · rw [if_pos (by omega), ih]
      exact ⟨fun q => .inr ⟨h, q⟩, fun q => by rcases q with q | q; omega; exact q.2⟩
    · rw [if_neg (by omega), decide_eq_true_iff]
      exact ⟨fun q => .inl (by omega), fun q => by rcases q with q | q; omega; exact absurd q.1 h⟩
theorem lexN_trans : ∀ {a b c : List Nat}, lexN a b → lexN b c → lexN a c
  | [], _, _, h, _ => h.elim
  | x :: a, [], _, h, _ => h.elim
  | x :: a, y :: b, [], _, h => h.elim
  | x :: a, y :: b, z :: c, h1, h2 => by
    rcases h1 with h1 | ⟨h1, h1'⟩
    · rcases h2 with h2 | ⟨h2, h2'⟩
      · exact .inl (by omega)
      · exact .inl (by omega)
    · rcases h2 with h2 | ⟨h2, h2'⟩
      · exact .inl (by omega)
      · exact .inr ⟨by omega, lexN_trans h1' h2'⟩
theorem lexN_irr : ∀ {a : List Nat}, ¬ lexN a a
  | [], h => h
  | x :: a, h => by
    rcases h with h | ⟨_, h⟩
    · omega
    · exact lexN_irr h
theorem lexN_tot : ∀ {a b : List Nat}, a.length = b.length → ¬ lexN a b → ¬ lexN b a → a = b
  | [], [], _, _, _ => rfl
  | [], y :: b, h, _, _ => by simp at h
  | x :: a, [], h, _, _ => by simp at h
  | x :: a, y :: b, h, h1, h2 => by
    have e : x = y := by
      by_cases q : x < y
      · exact absurd (.inl q) h1
      · by_cases q2 : y < x
        · exact absurd (.inl q2) h2
        · omega
    subst e
    rw [lexN_tot (by simpa using h) (fun q => h1 (.inr ⟨rfl, q⟩)) (fun q => h2 (.inr ⟨rfl, q⟩))]
/-- Is a set before another one? -/
def Bet (a b : List Nat) : Prop := a.length < b.length ∨ a.length = b.length ∧ lexN a b
theorem Bet.trans {a b c : List Nat} (h1 : Bet a b) (h2 : Bet b c) : Bet a c := by
  rcases h1 with h1 | ⟨h1, h1'⟩
  · rcases h2 with h2 | ⟨h2, h2'⟩
    · exact .inl (by omega)
    · exact .inl (by omega)
  · rcases h2 with h2 | ⟨h2, h2'⟩
    · exact .inl (by omega)
    · exact .inr ⟨by omega, lexN_trans h1' h2'⟩
theorem Bet.irr {a : List Nat} : ¬ Bet a a := fun h => by
  rcases h with h | ⟨_, h⟩
  · omega
  · exact lexN_irr h
/-- The set of a number's bits. -/
def subsN (n t : Nat) : List Nat := (List.range n).filter fun i => t.testBit i
theorem subsN_succ (n t : Nat) : subsN (n + 1) t = if t.testBit n = true then subsN n t ++ [n] else subsN n t := by
  unfold subsN
  rw [List.range_succ, List.filter_append]
  by_cases h : t.testBit n = true
  · rw [if_pos h, List.filter_cons, if_pos h]; rfl
  · rw [if_neg h, List.filter_cons, if_neg h]; simp
theorem subsN_asc (n t : Nat) : Asc3 n (subsN n t) := ⟨(List.pairwise_lt_range).sublist List.filter_sublist, fun k hk => List.mem_range.1 (List.mem_filter.1 hk).1⟩
theorem asc_ext : ∀ {a b : List Nat}, a.Pairwise (· < ·) → b.Pairwise (· < ·) → (∀ x, x ∈ a ↔ x ∈ b) → a = b
  | [], [], _, _, _ => rfl
  | [], y :: b, _, _, h => by have := (h y).2 (.head _); cases this
  | x :: a, [], _, _, h => by have := (h x).1 (.head _); cases this
  | x :: a, y :: b, ha, hb, h => by
    have pa := List.pairwise_cons.1 ha
    have pb := List.pairwise_cons.1 hb
    have e : x = y := by
      have h1 := (h x).1 (.head _)
      have h2 := (h y).2 (.head _)
      rcases List.mem_cons.1 h1 with h1 | h1
      · exact h1
      · rcases List.mem_cons.1 h2 with h2 | h2
        · exact h2.symm
        · have := pb.1 x h1; have := pa.1 y h2; omega
    subst e
    rw [asc_ext pa.2 pb.2 fun z => ?_]
    constructor
    · intro hz
      have := pa.1 z hz
      rcases List.mem_cons.1 ((h z).1 (.tail _ hz)) with q | q
      · omega
      · exact q
    · intro hz
      have := pb.1 z hz
      rcases List.mem_cons.1 ((h z).2 (.tail _ hz)) with q | q
      · omega
      · exact q
def numN (s : List Nat) : Nat := s.foldr (fun i t => 2 ^ i ||| t) 0
theorem numN_bit : ∀ (s : List Nat) (i : Nat), (numN s).testBit i = decide (i ∈ s)
  | [], i => by simp [numN]
  | a :: s, i => by
    have ih := numN_bit s i
    show (2 ^ a ||| numN s).testBit i = _
    rw [Nat.testBit_or, ih, Nat.testBit_two_pow]
    by_cases h : i = a
    · simp [h]
    · have : ¬ a = i := fun q => h q.symm
      simp [h, this]
theorem numN_lt {n : Nat} : ∀ {s : List Nat}, (∀ i ∈ s, i < n) → numN s < 2 ^ n
  | [], _ => Nat.two_pow_pos n
  | a :: s, h => Nat.or_lt_two_pow (Nat.pow_lt_pow_right (by omega) (h a (.head _))) (numN_lt fun i hi => h i (.tail _ hi))
theorem subsN_all {n : Nat} {s : List Nat} (h : Asc3 n s) : numN s < 2 ^ n ∧ subsN n (numN s) = s := by
  refine ⟨numN_lt h.2, asc_ext (subsN_asc _ _).1 h.1 fun x => ?_⟩
  unfold subsN
  rw [List.mem_filter, numN_bit, List.mem_range, decide_eq_true_iff]
  exact ⟨fun q => q.2, fun q => ⟨h.2 x q, q⟩⟩
/-- The reference's test of a set. -/
def TR (m : List Rd) : Option (List Int) := if (facR (dirs m)).2 = true ∧ apart (totL m (facR (dirs m)).1) = true then some (facR (dirs m)).1 else none
theorem TR_T {m : List Rd} {f : List Int} : TR m = some f ↔ T m = some f ∧ Nz f := by
  by_cases hc : (relL (dirs m)).2 = true ∧ Nz (relL (dirs m)).1
  · have e : facR (dirs m) = ((relL (dirs m)).1, true) := if_pos hc
    have e1 : TR m = T m := by
      unfold TR T
      rw [e]
      by_cases ha : apart (totL m (relL (dirs m)).1) = true
      · rw [if_pos ⟨rfl, ha⟩, if_pos ⟨hc.1, ha⟩]
      · rw [if_neg (fun q => ha q.2), if_neg (fun q => ha q.2)]
    rw [e1]
    refine ⟨fun h => ⟨h, ?_⟩, fun h => h.1⟩
    unfold T at h
    split at h
    · exact Option.some.inj h ▸ hc.2
    · cases h
  · have e : facR (dirs m) = ([], false) := if_neg hc
    have e1 : TR m = none := by
      unfold TR
      rw [e]
      exact if_neg fun q => by cases q.1
    rw [e1]
    refine ⟨fun h => (by cases h), fun h => ?_⟩
    obtain ⟨h, hz⟩ := h
    unfold T at h
    split at h
    · rename_i q
      exact absurd ⟨q.1, Option.some.inj h ▸ hz⟩ hc
    · cases h
def Ok3 (l : List Rd) (t : Nat) (f : List Int) : Prop := (2 ≤ (subsN l.length t).length ∧ (subsN l.length t).length ≤ 4) ∧ TR (pick3 l (subsN l.length t)) = some f
/-- What is known after so many sets. -/
def Inv (l : List Rd) (s : Nat) (found : Bool) (b f : List Int) : Prop :=
  found = false ∧ b = [] ∧ f = [] ∧ (∀ t g, t < s → ¬ Ok3 l t g) ∨
  found = true ∧ ∃ t0, t0 < s ∧ b = upN (subsN l.length t0) ∧ Ok3 l t0 f ∧ ∀ t g, t < s → Ok3 l t g → ¬ Bet (subsN l.length t) (subsN l.length t0)
theorem Inv.zero (l : List Rd) : Inv l 0 false [] [] := .inl ⟨rfl, rfl, rfl, fun t g h => by omega⟩
theorem Inv.skip {l : List Rd} {s : Nat} {found : Bool} {b f : List Int} (h : Inv l s found b f) (hn : ∀ g, ¬ Ok3 l s g) : Inv l (s + 1) found b f := by
  rcases h with ⟨h1, h2, h3, h4⟩ | ⟨h1, t0, h2, h3, h4, h5⟩
  · refine .inl ⟨h1, h2, h3, fun t g ht => ?_⟩
    by_cases e : t = s
    · rw [e]; exact hn g
    · exact h4 t g (by omega)
  · refine .inr ⟨h1, t0, by omega, h3, h4, fun t g ht ho => ?_⟩
    by_cases e : t = s
    · rw [e] at ho; exact absurd ho (hn g)
    · exact h5 t g (by omega) ho
theorem Inv.worse {l : List Rd} {s : Nat} {b f : List Int} (h : Inv l s true b f) (hn : (subsN l.length s).length > b.length ∨ (subsN l.length s).length = b.length ∧ lexI (upN (subsN l.length s)) b = false) : Inv l (s + 1) true b f := by
  rcases h with ⟨h1, _⟩ | ⟨h1, t0, h2, h3, h4, h5⟩
  · cases h1
  · subst h3
    refine .inr ⟨h1, t0, by omega, rfl, h4, fun t g ht ho => ?_⟩
    by_cases e : t = s
    · subst e
      rw [List.length_map] at hn
      intro hb
      rcases hb with hb | hb
      · omega
      · rcases hn with hn | hn
        · omega
        · rw [(lexI_up _ _).2 hb.2] at hn; cases hn.2
    · exact h5 t g (by omega) ho
theorem Inv.take {l : List Rd} {s : Nat} {found : Bool} {b f g : List Int} (h : Inv l s found b f)
    (hn : found = true → ¬ ((subsN l.length s).length > b.length ∨ (subsN l.length s).length = b.length ∧ lexI (upN (subsN l.length s)) b = false)) (ho : Ok3 l s g) : Inv l (s + 1) true (upN (subsN l.length s)) g := by
  refine .inr ⟨rfl, s, by omega, rfl, ho, fun t g' ht ho' => ?_⟩
  by_cases e : t = s
  · rw [e]; exact Bet.irr
  · rcases h with ⟨h1, h2, h3, h4⟩ | ⟨h1, t0, h2, h3, h4, h5⟩
    · exact absurd ho' (h4 t g' (by omega))
    · intro hb
      subst h3
      have hn := hn h1
      rw [List.length_map] at hn
      refine h5 t g' (by omega) ho' (hb.trans ?_)
      by_cases hl : (subsN l.length s).length < (subsN l.length t0).length
      · exact .inl hl
      · refine .inr ⟨by omega, (lexI_up _ _).1 ?_⟩
        cases hx : lexI (upN (subsN l.length s)) (upN (subsN l.length t0)) with
        | true => rfl
        | false => exact absurd (.inr ⟨by omega, hx⟩) hn
/-- What the reference finds. -/
def conF (l : List Rd) : (List Int × List Int) × Bool := match conL l with
  | some x => ((upN x.1, x.2), true)
  | none => (([], []), false)
theorem Con.ok3 {l : List Rd} (hd : ∀ r ∈ l, r.1 ≠ z3) {x : Fnd} (h : Con l x) : Ok3 l (numN x.1) x.2 := by
  have e := (subsN_all h.asc).2
  unfold Ok3
  rw [e]
  refine ⟨⟨h.lo, h.hi⟩, TR_T.2 ⟨h.t, fun n hn hz => ?_⟩⟩
  obtain ⟨i, hi, e⟩ := mem_getD0 hn
  have hl : x.2.length = x.1.length := by rw [T_len h.t, pick3_len]
  exact h.ne hd i (by omega) (by omega)
theorem Inv.last {l : List Rd} (hd : ∀ r ∈ l, r.1 ≠ z3) {found : Bool} {b f : List Int} (h : Inv l (2 ^ l.length) found b f) : ((b, f), found) = conF l := by
  unfold conF
  cases hc : conL l with
  | none =>
    rcases h with ⟨h1, h2, h3, h4⟩ | ⟨h1, t0, h2, h3, h4, h5⟩
    · rw [h1, h2, h3]
    · have := conL_none hc (subsN_asc l.length t0) h4.1.1 h4.1.2
      rw [(TR_T.1 h4.2).1] at this; cases this
  | some x =>
    have hC := conL_some hc
    have hx := hC.ok3 hd
    obtain ⟨n1, n2⟩ := subsN_all hC.asc
    rcases h with ⟨h1, h2, h3, h4⟩ | ⟨h1, t0, h2, h3, h4, h5⟩
    · exact absurd hx (h4 _ _ n1)
    · have k1 := h5 _ _ n1 hx
      rw [n2] at k1
      have hT := (TR_T.1 h4.2).1
      have hl : (subsN l.length t0).length = x.1.length := by
        by_cases q : x.1.length < (subsN l.length t0).length
        · exact absurd (.inl q) k1
        · by_cases q2 : (subsN l.length t0).length < x.1.length
          · rw [hC.fewer _ (subsN_asc _ _) h4.1.1 q2] at hT; cases hT
          · omega
      have e : subsN l.length t0 = x.1 := lexN_tot hl (fun q => by rw [hC.lex _ (subsN_asc _ _) hl q] at hT; cases hT) fun q => k1 (.inr ⟨hl.symm, q⟩)
      rw [e] at hT h3
      rw [hC.t] at hT
      have hf : x.2 = f := Option.some.inj hT
      subst hf
      rw [h1, h3]
end Go.Pi
end

section
namespace Go.Proofs.YtglijnhkdnhofaaGreat
open Go Go.Pi Go.RowKit
set_option maxRecDepth 100000
set_option linter.unusedVariables false
set_option linter.unusedSimpArgs false

def f89 (x : List Int × List Int) : Bool := lexI x.1 x.2
def f89_pre (x : List Int × List Int) : Prop := x.1.length = x.2.length
def f89_e : Entry := { doms := [(false, (.sl (.int .i64))), (false, (.sl (.int .i64)))], cods := [(false, .bool)], pre := f89_pre, fn := f89, uq := false, total := false }
def f89_E : Env := []
def f89_A : Anns := { loops := [(1048576, { tms := [(0, .keep), (1, .keep), (5, .data false (.int .i64))], obs := [], fz := [] })], own := [] }
theorem f89_run (a0 : List Int) (a1 : List Int) (K : Bool → Prop) : runF Tryz.prog f89_E f89_A 6 Tryz.f89 f89_e.doms f89_e.cods (a0, a1) K =
    (LoopP (V := Int × Unit) (fun again v => (fun (again1 : Int → Prop) (v1_0 : Int) =>
    br (lenOk (a0.length))
    (br (decide (v1_0 < ((a0.length) : Int)))
    (br (decide (0 ≤ v1_0) && decide (v1_0 < ((a0.length) : Int)))
    (br (decide (0 ≤ v1_0) && decide (v1_0 < ((a1.length) : Int)))
    (br ((a0.getD v1_0.toNat 0) != (a1.getD v1_0.toNat 0))
    (br (decide (0 ≤ v1_0) && decide (v1_0 < ((a0.length) : Int)))
    (br (decide (0 ≤ v1_0) && decide (v1_0 < ((a1.length) : Int)))
    (K (decide ((a0.getD v1_0.toNat 0) < (a1.getD v1_0.toNat 0))))
    False)
    False)
    (again1 (IntKind.i64.wrap (v1_0 + 1))))
    False)
    False)
    (K false))
    True)
    (fun v1_0 => again (v1_0, ())) v.1) (0, ())) := by kernel_rfl
theorem f89_t (a0 : List Int) (a1 : List Int) (hpre : f89_pre (a0, a1)) (K : Bool → Prop) (hK : ∀ y : Bool, y = f89 (a0, a1) → K y) : RunF Tryz.prog f89_E f89_A 6 Tryz.f89 f89_e.doms f89_e.cods (a0, a1) K := by
  refine ⟨?_⟩
  rw [f89_run a0 a1 K]
  have hl : a0.length = a1.length := hpre
  refine LoopP.up (a0.length : Int) (fun i _ => ∀ j, j < i.toNat → a0.getD j 0 = a1.getD j 0) (fun again i v hi0 hin hI hag => ?_) (by omega) (fun j hj => by simp at hj)
  obtain ⟨k, rfl⟩ := Int.eq_ofNat_of_zero_le hi0
  rw [Int.toNat_natCast] at hI
  dsimp only
  refine br_true_.2 fun hlo => ?_
  have hlo := lenOk_iff.1 hlo
  refine br_if (fun hlt => ?_) fun hge => hK _ ?_
  · have b1 := inb (i := (k : Int)) (n := a0.length) (by omega) hlt
    have b2 := inb (i := (k : Int)) (n := a1.length) (by omega) (by omega)
    simp only [Int.toNat_natCast]
    refine br_must b1 (br_must b2 (br_two (fun q => br_must b1 (br_must b2 (hK _ ?_))) fun q => ?_))
    · exact (lexI_at hl hI (by omega) (bne_iff_ne.1 q)).symm
    · rw [wr (by omega) (by omega)]
      refine hag () hlt fun j hj => ?_
      by_cases e : j = k
      · rw [e]; exact bne_f.1 q
      · exact hI j (by omega)
  · exact (lexI_same hl fun j hj => hI j (by omega)).symm
theorem f89_fn : f89_e.fn = f89 := rfl
theorem f89_ok : EntryOK Tryz.prog 89 f89_e := by
  refine entryF progOK (EnvOK.nil) (A := f89_A) (d := 6) Tryz.func89 rfl rfl rfl rfl (fun h => by cases h) fun x hpre => ?_
  obtain ⟨a0, a1⟩ := x
  exact f89_t a0 a1 hpre _ fun _ h => h.trans (congrFun f89_fn.symm _)
end Go.Proofs.YtglijnhkdnhofaaGreat
end

section
namespace Go.Proofs.YtglijnhkdnhofaaGreat
open Go Go.Pi Go.RowKit
set_option maxRecDepth 100000
set_option linter.unusedVariables false
set_option linter.unusedSimpArgs false

def f36 (x : (Int × Int × Int) × Int × Int × Int) : Int := w64 (dot x.1 x.2)
def f36_e : Entry := { doms := [(true, (.pair (.int .i64) (.pair (.int .i64) (.int .i64)))), (true, (.pair (.int .i64) (.pair (.int .i64) (.int .i64))))], cods := [(false, (.int .i64))], pre := fun _ => True, fn := f36, uq := false, total := true }
def f36_E : Env := []
def f36_A : Anns := { loops := [], own := [] }
theorem f36_run (a0 : Int × Int × Int) (a1 : Int × Int × Int) (K : Int → Prop) : runF Tryz.prog f36_E f36_A 6 Tryz.f36 f36_e.doms f36_e.cods (a0, a1) K =
    (K (IntKind.i64.wrap ((IntKind.i64.wrap ((IntKind.i64.wrap (a0.1 * a1.1)) + (IntKind.i64.wrap (a0.2.1 * a1.2.1)))) + (IntKind.i64.wrap (a0.2.2 * a1.2.2))))) := by kernel_rfl
theorem f36_t (a0 : Int × Int × Int) (a1 : Int × Int × Int) (K : Int → Prop) (hK : ∀ y : Int, y = f36 (a0, a1) → K y) : RunF Tryz.prog f36_E f36_A 6 Tryz.f36 f36_e.doms f36_e.cods (a0, a1) K := by
  refine ⟨?_⟩
  rw [f36_run a0 a1 K]
  exact hK _ (by simp only [f36, w64, dot, wrap_add_l, wrap_add_r])
theorem f36_fn : f36_e.fn = f36 := rfl
theorem f36_ok : EntryOK Tryz.prog 36 f36_e := by
  refine entryF progOK (EnvOK.nil) (A := f36_A) (d := 6) Tryz.func36 rfl rfl rfl rfl (fun _ _ => trivial) fun x hpre => ?_
  obtain ⟨a0, a1⟩ := x
  exact f36_t a0 a1 _ fun _ h => h.trans (congrFun f36_fn.symm _)
end Go.Proofs.YtglijnhkdnhofaaGreat
end

section
namespace Go.Proofs.YtglijnhkdnhofaaGreat
open Go Go.Pi Go.RowKit
set_option maxRecDepth 100000
set_option linter.unusedVariables false
set_option linter.unusedSimpArgs false

def f93 (x : (Int × Int × Int) × Int × Int × Int) : Int × Int × Int := w3 (cross x.1 x.2)
def f93_e : Entry := { doms := [(true, (.pair (.int .i64) (.pair (.int .i64) (.int .i64)))), (true, (.pair (.int .i64) (.pair (.int .i64) (.int .i64))))], cods := [(true, (.pair (.int .i64) (.pair (.int .i64) (.int .i64))))], pre := fun _ => True, fn := f93, uq := false, total := true }
def f93_E : Env := []
def f93_A : Anns := { loops := [], own := [] }
theorem f93_run (a0 : Int × Int × Int) (a1 : Int × Int × Int) (K : (Int × Int × Int) → Prop) : runF Tryz.prog f93_E f93_A 6 Tryz.f93 f93_e.doms f93_e.cods (a0, a1) K =
    (K ((IntKind.i64.wrap ((IntKind.i64.wrap (a0.2.1 * a1.2.2)) - (IntKind.i64.wrap (a0.2.2 * a1.2.1)))), ((IntKind.i64.wrap ((IntKind.i64.wrap (a0.2.2 * a1.1)) - (IntKind.i64.wrap (a0.1 * a1.2.2)))), (IntKind.i64.wrap ((IntKind.i64.wrap (a0.1 * a1.2.1)) - (IntKind.i64.wrap (a0.2.1 * a1.1))))))) := by kernel_rfl
theorem f93_t (a0 : Int × Int × Int) (a1 : Int × Int × Int) (K : (Int × Int × Int) → Prop) (hK : ∀ y : Int × Int × Int, y = f93 (a0, a1) → K y) : RunF Tryz.prog f93_E f93_A 6 Tryz.f93 f93_e.doms f93_e.cods (a0, a1) K := by
  refine ⟨?_⟩
  rw [f93_run a0 a1 K]
  exact hK _ (by simp only [f93, w3, w64, cross, wrap_sub_l, wrap_sub_r])
theorem f93_fn : f93_e.fn = f93 := rfl
theorem f93_ok : EntryOK Tryz.prog 93 f93_e := by
  refine entryF progOK (EnvOK.nil) (A := f93_A) (d := 6) Tryz.func93 rfl rfl rfl rfl (fun _ _ => trivial) fun x hpre => ?_
  obtain ⟨a0, a1⟩ := x
  exact f93_t a0 a1 _ fun _ h => h.trans (congrFun f93_fn.symm _)
end Go.Proofs.YtglijnhkdnhofaaGreat
end

section
namespace Go.Proofs.YtglijnhkdnhofaaGreat
open Go Go.Pi Go.RowKit
set_option maxRecDepth 100000
set_option linter.unusedVariables false
set_option linter.unusedSimpArgs false

def f72 (x : (Int × Int × Int) × (Int × Int × Int) × Int × Int × Int) : Int := w64 (det x.1 x.2.1 x.2.2)
def f72_e : Entry := { doms := [(true, (.pair (.int .i64) (.pair (.int .i64) (.int .i64)))), (true, (.pair (.int .i64) (.pair (.int .i64) (.int .i64)))), (true, (.pair (.int .i64) (.pair (.int .i64) (.int .i64))))], cods := [(false, (.int .i64))], pre := fun _ => True, fn := f72, uq := false, total := true }
def f72_E : Env := [(36, f36_e), (93, f93_e)]
def f72_A : Anns := { loops := [], own := [] }
theorem f72_run (a0 : Int × Int × Int) (a1 : Int × Int × Int) (a2 : Int × Int × Int) (K : Int → Prop) : runF Tryz.prog f72_E f72_A 6 Tryz.f72 f72_e.doms f72_e.cods (a0, a1, a2) K =
    (K (f36 (a0, ((f93 (a1, a2)).1, ((f93 (a1, a2)).2))))) := by kernel_rfl
theorem f72_t (a0 : Int × Int × Int) (a1 : Int × Int × Int) (a2 : Int × Int × Int) (K : Int → Prop) (hK : ∀ y : Int, y = f72 (a0, a1, a2) → K y) : RunF Tryz.prog f72_E f72_A 6 Tryz.f72 f72_e.doms f72_e.cods (a0, a1, a2) K := by
  refine ⟨?_⟩
  rw [f72_run a0 a1 a2 K]
  refine hK _ ?_
  show f36 (a0, f93 (a1, a2)) = _
  simp only [f36, f93, f72, det, dot_w]
theorem f72_fn : f72_e.fn = f72 := rfl
theorem f72_ok : EntryOK Tryz.prog 72 f72_e := by
  refine entryF progOK (EnvOK.cons f36_ok (EnvOK.cons f93_ok (EnvOK.nil))) (A := f72_A) (d := 6) Tryz.func72 rfl rfl rfl rfl (fun _ _ => trivial) fun x hpre => ?_
  obtain ⟨a0, a1, a2⟩ := x
  exact f72_t a0 a1 a2 _ fun _ h => h.trans (congrFun f72_fn.symm _)
end Go.Proofs.YtglijnhkdnhofaaGreat
end

section
namespace Go.Proofs.YtglijnhkdnhofaaGreat
open Go Go.Pi Go.RowKit
set_option maxRecDepth 100000
set_option linter.unusedVariables false
set_option linter.unusedSimpArgs false

def f29 (l : List (Int × Int × Int)) : Int := rkR l
theorem mm_max (a b : Int) : minmax true a b = max a b := by simp only [minmax]; rw [Int.max_def]; split <;> split <;> omega
theorem zt (x : V3) : (!((x.1 == 0) && ((x.2.1 == 0) && ((x.2.2 == 0) && true)))) = decide (x ≠ z3) := by
  rw [v3_z]
  by_cases h : x = z3
  · subst h; rfl
  · rw [decide_eq_false h, decide_eq_true h]; rfl
def f29_e : Entry := { doms := [(false, (.sl (.pair (.int .i64) (.pair (.int .i64) (.int .i64)))))], cods := [(false, (.int .i64))], pre := fun _ => True, fn := f29, uq := false, total := true }
def f29_E : Env := [(72, f72_e), (93, f93_e)]
def f29_A : Anns := { loops := [(1048576, { tms := [(0, .keep), (3, .data false (.int .i64)), (4, .data false (.int .i64))], obs := [], fz := [] }),
  (1048578, { tms := [(0, .keep), (3, .data false (.int .i64)), (4, .keep), (5, .data false (.int .i64))], obs := [], fz := [] }),
  (1048580, { tms := [(0, .keep), (3, .data false (.int .i64)), (4, .keep), (5, .keep), (6, .data false (.int .i64))], obs := [], fz := [] }),
  (1572893, { tms := [(0, .keep), (3, .data false (.int .i64)), (4, .keep)], obs := [], fz := [] })], own := [] }
theorem f29_run (a0 : List (Int × Int × Int)) (K : Int → Prop) : runF Tryz.prog f29_E f29_A 6 Tryz.f29 f29_e.doms f29_e.cods a0 K =
    (LoopP (V := Int × Int × Unit) (fun again v => (fun (again1 : Int → Int → Prop) (v1_0 : Int) (v1_1 : Int) =>
    br (lenOk (a0.length))
    (br (decide (v1_1 < ((a0.length) : Int)))
    (JoinQ (V := Int × Unit) (fun J => (fun (join2 : Int → Prop) =>
    br (decide (0 ≤ v1_1) && decide (v1_1 < ((a0.length) : Int)))
    (br (!(((a0.getD v1_1.toNat (0, (0, 0))).1 == 0) && ((((a0.getD v1_1.toNat (0, (0, 0))).2).1 == 0) && ((((a0.getD v1_1.toNat (0, (0, 0))).2).2 == 0) && true))))
    (join2 (minmax true v1_0 1))
    (join2 v1_0))
    False) (fun j2_0 => J (j2_0, ()))) (fun v => (fun (j2_0 : Int) =>
    LoopP (V := Int × Int × Unit) (fun again v => (fun (again3 : Int → Int → Prop) (v3_0 : Int) (v3_1 : Int) =>
    br (decide (v3_1 < v1_1))
    (br (decide (0 ≤ v1_1) && decide (v1_1 < ((a0.length) : Int)))
    (br (decide (0 ≤ v3_1) && decide (v3_1 < ((a0.length) : Int)))
    (br (!(((f93 (((a0.getD v1_1.toNat (0, (0, 0))).1, ((a0.getD v1_1.toNat (0, (0, 0))).2)), ((a0.getD v3_1.toNat (0, (0, 0))).1, ((a0.getD v3_1.toNat (0, (0, 0))).2)))).1 == 0) && ((((f93 (((a0.getD v1_1.toNat (0, (0, 0))).1, ((a0.getD v1_1.toNat (0, (0, 0))).2)), ((a0.getD v3_1.toNat (0, (0, 0))).1, ((a0.getD v3_1.toNat (0, (0, 0))).2)))).2).1 == 0) && ((((f93 (((a0.getD v1_1.toNat (0, (0, 0))).1, ((a0.getD v1_1.toNat (0, (0, 0))).2)), ((a0.getD v3_1.toNat (0, (0, 0))).1, ((a0.getD v3_1.toNat (0, (0, 0))).2)))).2).2 == 0) && true))))
    (LoopP (V := Int × Int × Unit) (fun again v => (fun (again4 : Int → Int → Prop) (v4_0 : Int) (v4_1 : Int) =>
    br (decide (v4_1 < v3_1))
    (br (decide (0 ≤ v1_1) && decide (v1_1 < ((a0.length) : Int)))
    (br (decide (0 ≤ v3_1) && decide (v3_1 < ((a0.length) : Int)))
    (br (decide (0 ≤ v4_1) && decide (v4_1 < ((a0.length) : Int)))
    (br ((f72 (((a0.getD v1_1.toNat (0, (0, 0))).1, ((a0.getD v1_1.toNat (0, (0, 0))).2)), (((a0.getD v3_1.toNat (0, (0, 0))).1, ((a0.getD v3_1.toNat (0, (0, 0))).2)), ((a0.getD v4_1.toNat (0, (0, 0))).1, ((a0.getD v4_1.toNat (0, (0, 0))).2))))) != 0)
    (again4 3 (IntKind.i64.wrap (v4_1 + 1)))
    (again4 v4_0 (IntKind.i64.wrap (v4_1 + 1))))
    False)
    False)
    False)
    (again3 v4_0 (IntKind.i64.wrap (v3_1 + 1))))
    (fun v4_0 v4_1 => again (v4_0, v4_1, ())) v.1 v.2.1) ((minmax true v3_0 2), 0, ()))
    (LoopP (V := Int × Int × Unit) (fun again v => (fun (again5 : Int → Int → Prop) (v5_0 : Int) (v5_1 : Int) =>
    br (decide (v5_1 < v3_1))
    (br (decide (0 ≤ v1_1) && decide (v1_1 < ((a0.length) : Int)))
    (br (decide (0 ≤ v3_1) && decide (v3_1 < ((a0.length) : Int)))
    (br (decide (0 ≤ v5_1) && decide (v5_1 < ((a0.length) : Int)))
    (br ((f72 (((a0.getD v1_1.toNat (0, (0, 0))).1, ((a0.getD v1_1.toNat (0, (0, 0))).2)), (((a0.getD v3_1.toNat (0, (0, 0))).1, ((a0.getD v3_1.toNat (0, (0, 0))).2)), ((a0.getD v5_1.toNat (0, (0, 0))).1, ((a0.getD v5_1.toNat (0, (0, 0))).2))))) != 0)
    (again5 3 (IntKind.i64.wrap (v5_1 + 1)))
    (again5 v5_0 (IntKind.i64.wrap (v5_1 + 1))))
    False)
    False)
    False)
    (again3 v5_0 (IntKind.i64.wrap (v3_1 + 1))))
    (fun v5_0 v5_1 => again (v5_0, v5_1, ())) v.1 v.2.1) (v3_0, 0, ())))
    False)
    False)
    (again1 v3_0 (IntKind.i64.wrap (v1_1 + 1))))
    (fun v3_0 v3_1 => again (v3_0, v3_1, ())) v.1 v.2.1) (j2_0, 0, ())) v.1))
    (K v1_0))
    True)
    (fun v1_0 v1_1 => again (v1_0, v1_1, ())) v.1 v.2.1) (0, 0, ())) := by kernel_rfl
theorem f29_t (a0 : List (Int × Int × Int)) (K : Int → Prop) (hK : ∀ y : Int, y = f29 a0 → K y) : RunF Tryz.prog f29_E f29_A 6 Tryz.f29 f29_e.doms f29_e.cods a0 K := by
  refine ⟨?_⟩
  rw [f29_run a0 K]
  have e93 : ∀ a b : V3, f93 (a, b) = w3 (cross a b) := fun _ _ => rfl
  have e72 : ∀ a b c : V3, f72 (a, b, c) = w64 (det a b c) := fun _ _ _ => rfl
  have b1 : ∀ i : Nat, (!(((a0.getD i z3).1 == 0) && (((a0.getD i z3).2.1 == 0) && (((a0.getD i z3).2.2 == 0) && true)))) = P1 a0 i := fun i => zt _
  have b2 : ∀ i k : Nat, (!(((f93 (a0.getD i z3, a0.getD k z3)).1 == 0) && (((f93 (a0.getD i z3, a0.getD k z3)).2.1 == 0) && (((f93 (a0.getD i z3, a0.getD k z3)).2.2 == 0) && true)))) = P2 a0 i k := fun i k => zt _
  have b3 : ∀ i k j : Nat, (f72 (a0.getD i z3, a0.getD k z3, a0.getD j z3) != 0) = P3 a0 i k j := fun i k j => by
    rw [e72, P3]
    by_cases h : w64 (det (a0.getD i z3) (a0.getD k z3) (a0.getD j z3)) = 0
    · rw [h, decide_eq_false (fun hh => hh rfl)]; rfl
    · rw [decide_eq_true h]; exact bne_iff_ne.2 h
  refine LoopP.up2 a0.length (fun i r (_ : Unit) => r = rk3 (any1 a0 i.toNat) (any2 a0 i.toNat) (any3 a0 i.toNat)) (fun again1 r1 i1 _ h10 h1n G1 H1 => ?_) (by omega) rfl
  obtain ⟨i, rfl⟩ := Int.eq_ofNat_of_zero_le h10
  dsimp only at G1 ⊢
  rw [br_true_, lenOk_iff]
  intro hl
  refine br_if (fun hi => ?_) fun hi => hK _ ?_
  rotate_left
  · have : i = a0.length := by omega
    subst this
    rw [G1]; rfl
  have hi : i < a0.length := by omega
  have bi := inb (show (0 : Int) ≤ i by omega) (show (i : Int) < (a0.length : Int) by omega)
  rw [wr (n := (i : Int) + 1) (by omega) (by omega)]
  rw [Int.toNat_natCast] at G1 ⊢
  have s1 : any1 a0 (i + 1) = (any1 a0 i || P1 a0 i) := any_succ _ _
  have s2 : any2 a0 (i + 1) = (any2 a0 i || an2 a0 i i) := any_succ _ _
  have s3 : any3 a0 (i + 1) = (any3 a0 i || an3' a0 i i) := any_succ _ _
  refine JoinQ.use (fun q => q = (rk3 (any1 a0 (i + 1)) (any2 a0 i) (any3 a0 i), ())) (fun G hG => ?_) fun q hq => ?_
  · refine br_must bi ?_
    rw [b1, mm_max, G1, rk3_max1]
    refine br_two (fun h => hG _ (by rw [s1, h, Bool.or_true])) fun h => hG _ (by rw [s1, h, Bool.or_false])
  subst hq
  dsimp only
  refine LoopP.up2 i (fun k r (_ : Unit) => r = rk3 (any1 a0 (i + 1)) (any2 a0 i || an2 a0 i k.toNat) (any3 a0 i || an3' a0 i k.toNat)) (fun again2 r2 k2 _ h20 h2n G2 H2 => ?_) (by omega) (by simp [an2, an3'])
  obtain ⟨k, rfl⟩ := Int.eq_ofNat_of_zero_le h20
  dsimp only at G2 ⊢
  refine br_if (fun hk => ?_) fun hk => H1 _ () (by omega) ?_
  rotate_left
  · have : k = i := by omega
    subst this
    rw [G2, show ((k : Int) + 1).toNat = k + 1 by omega, Int.toNat_natCast, s2, s3]
  have hk : k < i := by omega
  have bk := inb (show (0 : Int) ≤ k by omega) (show (k : Int) < (a0.length : Int) by omega)
  rw [wr (n := (k : Int) + 1) (by omega) (by omega)]
  rw [Int.toNat_natCast] at G2 ⊢
  have t2 : an2 a0 i (k + 1) = (an2 a0 i k || P2 a0 i k) := any_succ _ _
  have t3 : an3' a0 i (k + 1) = (an3' a0 i k || an3 a0 i k k) := any_succ _ _
  refine br_must bi (br_must bk ?_)
  show br (!(((f93 (a0.getD i z3, a0.getD k z3)).1 == 0) && (((f93 (a0.getD i z3, a0.getD k z3)).2.1 == 0) && (((f93 (a0.getD i z3, a0.getD k z3)).2.2 == 0) && true)))) _ _
  rw [b2, mm_max, G2, rk3_max2]
  have hs : ∀ b, P2 a0 i k = b → rk3 (any1 a0 (i + 1)) (if b then true else (any2 a0 i || an2 a0 i k)) (any3 a0 i || an3' a0 i k) = rk3 (any1 a0 (i + 1)) (any2 a0 i || an2 a0 i (k + 1)) (any3 a0 i || an3' a0 i k) := fun b h => by
    rw [t2, h]
    cases b <;> simp
  refine br_two (fun h => ?_) fun h => ?_
  · rw [show rk3 (any1 a0 (i + 1)) true (any3 a0 i || an3' a0 i k) = _ from hs true h]
    refine LoopP.up2 k (fun j r (_ : Unit) => r = rk3 (any1 a0 (i + 1)) (any2 a0 i || an2 a0 i (k + 1)) (any3 a0 i || an3' a0 i k || an3 a0 i k j.toNat)) (fun again3 r3 j3 _ h30 h3n G3 H3 => ?_) (by omega) (by simp [an3])
    obtain ⟨j, rfl⟩ := Int.eq_ofNat_of_zero_le h30
    dsimp only at G3 ⊢
    refine br_if (fun hj => ?_) fun hj => H2 _ () (by omega) ?_
    rotate_left
    · have : j = k := by omega
      subst this
      rw [G3, show ((j : Int) + 1).toNat = j + 1 by omega, Int.toNat_natCast, t3, Bool.or_assoc]
    have hj : j < k := by omega
    have u3 : an3 a0 i k (j + 1) = (an3 a0 i k j || P3 a0 i k j) := any_succ _ _
    rw [wr (n := (j : Int) + 1) (by omega) (by omega)]
    rw [Int.toNat_natCast] at G3 ⊢
    refine br_must bi (br_must bk (br_must (inb (by omega) (by omega)) ?_))
    show br (f72 (a0.getD i z3, a0.getD k z3, a0.getD j z3) != 0) _ _
    rw [b3, G3]
    refine br_two (fun h => H3 _ () (by omega) ?_) fun h => H3 _ () (by omega) ?_
    · rw [show ((j : Int) + 1).toNat = j + 1 by omega, u3, h, Bool.or_true, Bool.or_true]; rfl
    · rw [show ((j : Int) + 1).toNat = j + 1 by omega, u3, h, Bool.or_false]
  · rw [show rk3 (any1 a0 (i + 1)) (any2 a0 i || an2 a0 i k) (any3 a0 i || an3' a0 i k) = _ from hs false h]
    refine LoopP.up2 k (fun j r (_ : Unit) => r = rk3 (any1 a0 (i + 1)) (any2 a0 i || an2 a0 i (k + 1)) (any3 a0 i || an3' a0 i k || an3 a0 i k j.toNat)) (fun again3 r3 j3 _ h30 h3n G3 H3 => ?_) (by omega) (by simp [an3])
    obtain ⟨j, rfl⟩ := Int.eq_ofNat_of_zero_le h30
    dsimp only at G3 ⊢
    refine br_if (fun hj => ?_) fun hj => H2 _ () (by omega) ?_
    rotate_left
    · have : j = k := by omega
      subst this
      rw [G3, show ((j : Int) + 1).toNat = j + 1 by omega, Int.toNat_natCast, t3, Bool.or_assoc]
    have hj : j < k := by omega
    have u3 : an3 a0 i k (j + 1) = (an3 a0 i k j || P3 a0 i k j) := any_succ _ _
    rw [wr (n := (j : Int) + 1) (by omega) (by omega)]
    rw [Int.toNat_natCast] at G3 ⊢
    refine br_must bi (br_must bk (br_must (inb (by omega) (by omega)) ?_))
    show br (f72 (a0.getD i z3, a0.getD k z3, a0.getD j z3) != 0) _ _
    rw [b3, G3]
    refine br_two (fun h => H3 _ () (by omega) ?_) fun h => H3 _ () (by omega) ?_
    · rw [show ((j : Int) + 1).toNat = j + 1 by omega, u3, h, Bool.or_true, Bool.or_true]; rfl
    · rw [show ((j : Int) + 1).toNat = j + 1 by omega, u3, h, Bool.or_false]
theorem f29_fn : f29_e.fn = f29 := rfl
theorem f29_ok : EntryOK Tryz.prog 29 f29_e := by
  refine entryF progOK (EnvOK.cons f72_ok (EnvOK.cons f93_ok (EnvOK.nil))) (A := f29_A) (d := 6) Tryz.func29 rfl rfl rfl rfl (fun _ _ => trivial) fun x hpre => ?_
  exact f29_t x _ fun _ h => h.trans (congrFun f29_fn.symm _)
end Go.Proofs.YtglijnhkdnhofaaGreat
end

section
namespace Go.Proofs.YtglijnhkdnhofaaGreat
open Go Go.Pi Go.RowKit
set_option maxRecDepth 100000
set_option linter.unusedVariables false
set_option linter.unusedSimpArgs false

def f138 (n : Int) : Int := minmax true n (IntKind.i64.wrap (0 - n))
def f138_e : Entry := { doms := [(false, (.int .i64))], cods := [(false, (.int .i64))], pre := fun _ => True, fn := f138, uq := false, total := true }
def f138_E : Env := []
def f138_A : Anns := { loops := [], own := [] }
theorem f138_run (a0 : Int) (K : Int → Prop) : runF Tryz.prog f138_E f138_A 6 Tryz.f138 f138_e.doms f138_e.cods a0 K =
    (K (minmax true a0 (IntKind.i64.wrap (0 - a0)))) := by kernel_rfl
theorem f138_t (a0 : Int) (K : Int → Prop) (hK : ∀ y : Int, y = f138 a0 → K y) : RunF Tryz.prog f138_E f138_A 6 Tryz.f138 f138_e.doms f138_e.cods a0 K := by
  refine ⟨?_⟩
  rw [f138_run a0 K]
  exact hK _ rfl
theorem f138_fn : f138_e.fn = f138 := rfl
theorem f138_ok : EntryOK Tryz.prog 138 f138_e := by
  refine entryF progOK (EnvOK.nil) (A := f138_A) (d := 6) Tryz.func138 rfl rfl rfl rfl (fun _ _ => trivial) fun x hpre => ?_
  exact f138_t x _ fun _ h => h.trans (congrFun f138_fn.symm _)
end Go.Proofs.YtglijnhkdnhofaaGreat
end

section
namespace Go.Proofs.YtglijnhkdnhofaaGreat
open Go Go.Pi Go.RowKit
set_option maxRecDepth 100000
set_option linter.unusedVariables false
set_option linter.unusedSimpArgs false

def f94 (x : Int × Int) : Int := (Nat.gcd x.1.natAbs x.2.natAbs : Int)
def f94_pre (x : Int × Int) : Prop := Fit x.1 ∧ Fit x.2
def f94_e : Entry := { doms := [(false, (.int .i64)), (false, (.int .i64))], cods := [(false, (.int .i64))], pre := f94_pre, fn := f94, uq := false, total := false }
def f94_E : Env := [(138, f138_e)]
def f94_A : Anns := { loops := [(1048576, { tms := [(0, .data false (.int .i64)), (1, .data false (.int .i64))], obs := [], fz := [] })], own := [] }
theorem f94_run (a0 : Int) (a1 : Int) (K : Int → Prop) : runF Tryz.prog f94_E f94_A 6 Tryz.f94 f94_e.doms f94_e.cods (a0, a1) K =
    (LoopP (V := Int × Int × Unit) (fun again v => (fun (again1 : Int → Int → Prop) (v1_0 : Int) (v1_1 : Int) =>
    br (v1_1 != 0)
    (br (!(decide (v1_1 = 0)))
    (again1 v1_1 (v1_0.tmod v1_1))
    False)
    (K (f138 v1_0)))
    (fun v1_0 v1_1 => again (v1_0, v1_1, ())) v.1 v.2.1) (a0, a1, ())) := by kernel_rfl
theorem f94_t (a0 : Int) (a1 : Int) (hpre : f94_pre (a0, a1)) (K : Int → Prop) (hK : ∀ y : Int, y = f94 (a0, a1) → K y) : RunF Tryz.prog f94_E f94_A 6 Tryz.f94 f94_e.doms f94_e.cods (a0, a1) K := by
  refine ⟨?_⟩
  rw [f94_run a0 a1 K]
  obtain ⟨h1, h2⟩ := hpre
  refine LoopP.of (fun q : Int × Int × Unit => Fit q.1 ∧ Fit q.2.1 ∧ Nat.gcd q.1.natAbs q.2.1.natAbs = Nat.gcd a0.natAbs a1.natAbs) (fun q => q.2.1.natAbs) (fun again q hq hag => ?_) ⟨h1, h2, rfl⟩
  obtain ⟨a, b, u⟩ := q
  obtain ⟨qf1, qf2, hg⟩ := hq
  dsimp only at qf1 qf2 hg ⊢
  refine br_two (fun hb => ?_) fun hb => ?_
  · have hb := bne_t.1 hb
    exact br_must (ne_zero_b hb) (hag (b, a.tmod b, ()) ⟨qf2, tmod_fit qf1 hb, (gcd_step a b hb).trans hg⟩ (tmod_lt hb))
  · have hb := bne_f.1 hb
    subst hb
    refine hK _ ?_
    simp only [f138, f94, minmax_abs qf1, ← hg]
    simp
theorem f94_fn : f94_e.fn = f94 := rfl
theorem f94_ok : EntryOK Tryz.prog 94 f94_e := by
  refine entryF progOK (EnvOK.cons f138_ok (EnvOK.nil)) (A := f94_A) (d := 6) Tryz.func94 rfl rfl rfl rfl (fun h => by cases h) fun x hpre => ?_
  obtain ⟨a0, a1⟩ := x
  exact f94_t a0 a1 hpre _ fun _ h => h.trans (congrFun f94_fn.symm _)
end Go.Proofs.YtglijnhkdnhofaaGreat
end
