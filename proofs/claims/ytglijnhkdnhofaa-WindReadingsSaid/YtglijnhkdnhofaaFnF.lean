/- What functions of the program compute, each proved once, part 6. -/
import Derived.Test.YtglijnhkdnhofaaPiD
import Derived.Test.YtglijnhkdnhofaaFnA
import Derived.Test.YtglijnhkdnhofaaFnC
import Derived.Test.YtglijnhkdnhofaaFnB

section
namespace Go.Proofs.Ytglijnhkdnhofaa
open Go Go.Pi Go.RowKit
set_option maxRecDepth 100000
set_option linter.unusedVariables false
set_option linter.unusedSimpArgs false

def f21 (l : List ((Int × Int × Int) × Int × Int)) : Bool := decide (l.length ≤ 8)
def f21_e : Entry := { doms := [(false, (.sl (.pair (.pair (.int .i64) (.pair (.int .i64) (.int .i64))) (.pair (.int .i64) (.int .i64)))))], cods := [(false, .bool)], pre := fun _ => True, fn := f21, uq := false, total := true }
def f21_E : Env := []
def f21_A : Anns := { loops := [], own := [] }
theorem f21_run (a0 : List ((Int × Int × Int) × Int × Int)) (K : Bool → Prop) : runF Try.prog f21_E f21_A 6 Try.f21 f21_e.doms f21_e.cods a0 K =
    (br (lenOk (a0.length))
    (K (decide (((a0.length) : Int) ≤ 8)))
    True) := by kernel_rfl
theorem f21_t (a0 : List ((Int × Int × Int) × Int × Int)) (K : Bool → Prop) (hK : ∀ y : Bool, y = f21 a0 → K y) : RunF Try.prog f21_E f21_A 6 Try.f21 f21_e.doms f21_e.cods a0 K := by
  refine ⟨?_⟩
  rw [f21_run a0 K]
  rw [br_true_]
  intro _
  refine hK _ ?_
  show _ = decide (a0.length ≤ 8)
  rw [Bool.eq_iff_iff, decide_eq_true_iff, decide_eq_true_iff]
  omega
theorem f21_fn : f21_e.fn = f21 := rfl
theorem f21_ok : EntryOK Try.prog 21 f21_e := by
  refine entryF progOK (EnvOK.nil) (A := f21_A) (d := 6) Try.func21 rfl rfl rfl rfl (fun _ _ => trivial) fun x hpre => ?_
  exact f21_t x _ fun _ h => h.trans (congrFun f21_fn.symm _)
end Go.Proofs.Ytglijnhkdnhofaa
end

section
namespace Go.Proofs.Ytglijnhkdnhofaa
open Go Go.Pi Go.RowKit
set_option maxRecDepth 100000
set_option linter.unusedVariables false
set_option linter.unusedSimpArgs false

def f23 (l : List ((Int × Int × Int) × Int × Int)) : List ((Int × Int × Int) × Int × Int) := l
def f23_pre (l : List ((Int × Int × Int) × Int × Int)) : Prop := l.length ≤ 1048576
def f23_e : Entry := { doms := [(false, (.sl (.pair (.pair (.int .i64) (.pair (.int .i64) (.int .i64))) (.pair (.int .i64) (.int .i64)))))], cods := [(false, (.sl (.pair (.pair (.int .i64) (.pair (.int .i64) (.int .i64))) (.pair (.int .i64) (.int .i64)))))], pre := f23_pre, fn := f23, uq := true, total := false }
def f23_E : Env := []
def f23_A : Anns := { loops := [], own := [1049600] }
theorem f23_run (a0 : List ((Int × Int × Int) × Int × Int)) (K : (List ((Int × Int × Int) × Int × Int)) → Prop) : runU Try.prog f23_E f23_A 6 Try.f23 f23_e.doms f23_e.cods a0 K =
    (br (roomOk (0 + (a0.length)) 40)
    (K (([] : List ((Int × Int × Int) × Int × Int)) ++ a0))
    False) := by kernel_rfl
theorem f23_t (a0 : List ((Int × Int × Int) × Int × Int)) (hpre : f23_pre a0) (K : (List ((Int × Int × Int) × Int × Int)) → Prop) (hK : ∀ y : List ((Int × Int × Int) × Int × Int), y = f23 a0 → K y) : RunU Try.prog f23_E f23_A 6 Try.f23 f23_e.doms f23_e.cods a0 K := by
  refine ⟨?_⟩
  rw [f23_run a0 K]
  simp only [br_false_, roomOk_iff]
  have : a0.length ≤ 1048576 := hpre
  exact ⟨by omega, hK _ (by simp [f23])⟩
theorem f23_fn : f23_e.fn = f23 := rfl
theorem f23_ok : EntryOK Try.prog 23 f23_e := by
  refine entryFU progOK (EnvOK.nil) (A := f23_A) (d := 6) Try.func23 rfl rfl rfl (fun h => by cases h) fun x hpre => ?_
  exact f23_t x hpre _ fun _ h => h.trans (congrFun f23_fn.symm _)
end Go.Proofs.Ytglijnhkdnhofaa
end

section
namespace Go.Pi
set_option linter.unusedVariables false
abbrev z3 : V3 := (0, 0, 0)
def P1 (l : List V3) (i : Nat) : Bool := decide (l.getD i z3 ≠ z3)
def P2 (l : List V3) (i k : Nat) : Bool := decide (w3 (cross (l.getD i z3) (l.getD k z3)) ≠ z3)
def P3 (l : List V3) (i k j : Nat) : Bool := decide (w64 (det (l.getD i z3) (l.getD k z3) (l.getD j z3)) ≠ 0)
def rk3 (a b c : Bool) : Int := if c then 3 else if b then 2 else if a then 1 else 0
def any1 (l : List V3) (n : Nat) : Bool := (List.range n).any (P1 l)
def an2 (l : List V3) (i k : Nat) : Bool := (List.range k).any (P2 l i)
def any2 (l : List V3) (n : Nat) : Bool := (List.range n).any fun i => an2 l i i
def an3 (l : List V3) (i k j : Nat) : Bool := (List.range j).any (P3 l i k)
def an3' (l : List V3) (i k : Nat) : Bool := (List.range k).any fun k => an3 l i k k
def any3 (l : List V3) (n : Nat) : Bool := (List.range n).any fun i => an3' l i i
def rkR (l : List V3) : Int := rk3 (any1 l l.length) (any2 l l.length) (any3 l l.length)
theorem any_succ (f : Nat → Bool) (n : Nat) : (List.range (n + 1)).any f = ((List.range n).any f || f n) := by rw [List.range_succ, List.any_append]; simp
theorem rk3_le (a b c : Bool) : 0 ≤ rk3 a b c ∧ rk3 a b c ≤ 3 := by cases a <;> cases b <;> cases c <;> decide
theorem rk3_max1 (a b c : Bool) : max (rk3 a b c) 1 = rk3 true b c := by cases a <;> cases b <;> cases c <;> decide
theorem rk3_max2 (a b c : Bool) : max (rk3 a b c) 2 = rk3 a true c := by cases a <;> cases b <;> cases c <;> decide

/-! ### what the loops look for -/
theorem any1_iff {l : List V3} : any1 l l.length = true ↔ ∃ d ∈ l, d ≠ z3 := by
  unfold any1 P1
  simp only [List.any_eq_true, List.mem_range, decide_eq_true_eq]
  constructor
  · rintro ⟨i, hi, h⟩
    exact ⟨l.getD i z3, by rw [getD_lt hi]; exact List.getElem_mem _, h⟩
  · rintro ⟨d, hd, h⟩
    obtain ⟨i, hi, e⟩ := List.getElem_of_mem hd
    exact ⟨i, hi, by rw [getD_lt hi, e]; exact h⟩
structure Dirs (l : List V3) : Prop where
  le : ∀ d ∈ l, V3.le d 9
  ne : ∀ d ∈ l, d ≠ z3
theorem cr_w {d e : V3} (hd : V3.le d 9) (he : V3.le e 9) : w3 (cross d e) = cross d e := by
  have h := cross_le hd he
  unfold w3
  rw [w64_fit (fit_le h.1 (by omega)), w64_fit (fit_le h.2.1 (by omega)), w64_fit (fit_le h.2.2 (by omega))]
theorem det_w {d e f : V3} (hd : V3.le d 9) (he : V3.le e 9) (hf : V3.le f 9) : w64 (det d e f) = det d e f := by
  have h := det_le hd he hf
  exact w64_fit ⟨by omega, by omega⟩
theorem getD_mem3 {l : List V3} {i : Nat} (h : i < l.length) : l.getD i z3 ∈ l := by rw [getD_lt h]; exact List.getElem_mem _
theorem cross_neg {d e : V3} (h : cross d e = z3) : cross e d = z3 := by
  obtain ⟨a, b, c⟩ := d
  obtain ⟨x, y, z⟩ := e
  simp only [cross, Prod.mk.injEq] at h ⊢
  obtain ⟨h1, h2, h3⟩ := h
  refine ⟨by grind, by grind, by grind⟩
theorem cross_self (d : V3) : cross d d = z3 := by
  obtain ⟨a, b, c⟩ := d
  simp only [cross, Prod.mk.injEq]
  refine ⟨by grind, by grind, by grind⟩
theorem any2_iff {l : List V3} (h : ∀ d ∈ l, V3.le d 9) : any2 l l.length = true ↔ ∃ d e, d ∈ l ∧ e ∈ l ∧ cross d e ≠ z3 := by
  unfold any2 an2 P2
  simp only [List.any_eq_true, List.mem_range, decide_eq_true_eq]
  constructor
  · rintro ⟨i, hi, k, hk, hc⟩
    have m1 := getD_mem3 hi
    have m2 := getD_mem3 (show k < l.length by omega)
    rw [cr_w (h _ m1) (h _ m2)] at hc
    exact ⟨_, _, m1, m2, hc⟩
  · rintro ⟨d, e, hd, he, hc⟩
    obtain ⟨i, hi, ei⟩ := List.getElem_of_mem hd
    obtain ⟨k, hk, ek⟩ := List.getElem_of_mem he
    have ei' : l.getD i z3 = d := by rw [getD_lt hi, ei]
    have ek' : l.getD k z3 = e := by rw [getD_lt hk, ek]
    rcases Nat.lt_trichotomy i k with hik | hik | hik
    · refine ⟨k, hk, i, hik, ?_⟩
      rw [ei', ek', cr_w (h _ he) (h _ hd)]
      exact fun hh => hc (cross_neg hh)
    · subst hik
      rw [ei'] at ek'
      subst ek'
      exact absurd (cross_self _) hc
    · refine ⟨i, hi, k, hik, ?_⟩
      rw [ei', ek', cr_w (h _ hd) (h _ he)]
      exact hc
theorem det_perm (d e f : V3) : det e d f = -det d e f ∧ det d f e = -det d e f ∧ det f e d = -det d e f ∧ det e f d = det d e f ∧ det f d e = det d e f := by
  simp only [det, dot, cross]
  refine ⟨by grind, by grind, by grind, by grind, by grind⟩
theorem det_same (d e : V3) : det d d e = 0 ∧ det d e d = 0 ∧ det e d d = 0 := by
  simp only [det, dot, cross]
  refine ⟨by grind, by grind, by grind⟩
theorem any3_iff {l : List V3} (h : ∀ d ∈ l, V3.le d 9) : any3 l l.length = true ↔ ∃ d e f, d ∈ l ∧ e ∈ l ∧ f ∈ l ∧ det d e f ≠ 0 := by
  unfold any3 an3' an3 P3
  simp only [List.any_eq_true, List.mem_range, decide_eq_true_eq]
  constructor
  · rintro ⟨i, hi, k, hk, j, hj, hc⟩
    have m1 := getD_mem3 hi
    have m2 := getD_mem3 (show k < l.length by omega)
    have m3 := getD_mem3 (show j < l.length by omega)
    rw [det_w (h _ m1) (h _ m2) (h _ m3)] at hc
    exact ⟨_, _, _, m1, m2, m3, hc⟩
  · rintro ⟨d, e, f, hd, he, hf, hc⟩
    obtain ⟨i, hi, ei⟩ := List.getElem_of_mem hd
    obtain ⟨k, hk, ek⟩ := List.getElem_of_mem he
    obtain ⟨j, hj, ej⟩ := List.getElem_of_mem hf
    have ei' : l.getD i z3 = d := by rw [getD_lt hi, ei]
    have ek' : l.getD k z3 = e := by rw [getD_lt hk, ek]
    have ej' : l.getD j z3 = f := by rw [getD_lt hj, ej]
    obtain ⟨p1, p2, p3, p4, p5⟩ := det_perm d e f
    have fin : ∀ (a b c : Nat), a < l.length → b < a → c < b → det (l.getD a z3) (l.getD b z3) (l.getD c z3) ≠ 0 → ∃ i, i < l.length ∧ ∃ k, k < i ∧ ∃ j, j < k ∧ w64 (det (l.getD i z3) (l.getD k z3) (l.getD j z3)) ≠ 0 := fun a b c ha hb hc hn =>
      ⟨a, ha, b, hb, c, hc, by rwa [det_w (h _ (getD_mem3 ha)) (h _ (getD_mem3 (show b < l.length by omega))) (h _ (getD_mem3 (show c < l.length by omega)))]⟩
    have n1 : i ≠ k := fun hh => by rw [hh, ek'] at ei'; rw [← ei'] at hc; exact hc (det_same _ _).1
    have n2 : i ≠ j := fun hh => by rw [hh, ej'] at ei'; rw [← ei'] at hc; exact hc (det_same _ _).2.1
    have n3 : k ≠ j := fun hh => by rw [hh, ej'] at ek'; rw [← ek'] at hc; exact hc (det_same _ _).2.2
    rcases Nat.lt_or_ge i k with a | a
    · rcases Nat.lt_or_ge k j with b | b
      · exact fin j k i hj b a (by rw [ei', ek', ej', p3]; omega)
      · rcases Nat.lt_or_ge i j with c | c
        · exact fin k j i hk (by omega) c (by rw [ei', ek', ej', p4]; omega)
        · exact fin k i j hk a (by omega) (by rw [ei', ek', ej', p1]; omega)
    · rcases Nat.lt_or_ge k j with b | b
      · rcases Nat.lt_or_ge i j with c | c
        · exact fin j i k hj c (by omega) (by rw [ei', ek', ej', p5]; omega)
        · exact fin i j k hi (by omega) b (by rw [ei', ek', ej', p2]; omega)
      · exact fin i k j hi (by omega) (by omega) (by rw [ei', ek', ej']; omega)

/-! ### found step by step -/
def RkInv (seen : List V3) : List V3 → Prop
  | [] => seen = []
  | [a] => a ∈ seen ∧ a ≠ z3 ∧ ∀ d ∈ seen, cross a d = z3
  | [a, b] => a ∈ seen ∧ b ∈ seen ∧ cross a b ≠ z3 ∧ ∀ d ∈ seen, dot (cross a b) d = 0
  | [a, b, c] => a ∈ seen ∧ b ∈ seen ∧ c ∈ seen ∧ det a b c ≠ 0
  | _ => False
theorem dot_cr_l (a b : V3) : dot (cross a b) a = 0 ∧ dot (cross a b) b = 0 := by
  simp only [dot, cross]
  exact ⟨by grind, by grind⟩
theorem par_dot {a b d : V3} (h : cross a d = z3) : dot (cross a b) d = 0 := by
  obtain ⟨a1, a2, a3⟩ := a
  obtain ⟨b1, b2, b3⟩ := b
  obtain ⟨d1, d2, d3⟩ := d
  simp only [cross, Prod.mk.injEq] at h
  obtain ⟨h1, h2, h3⟩ := h
  simp only [dot, cross]
  grind
theorem dot_dw {a b d : V3} (ha : V3.le a 9) (hb : V3.le b 9) (hd : V3.le d 9) : w64 (dot (w3 (cross a b)) d) = dot (cross a b) d := by
  have h := dot_le (cross_le ha hb) hd
  rw [cr_w ha hb]
  exact w64_fit ⟨by omega, by omega⟩
theorem det_dot (a b c : V3) : det a b c = dot (cross a b) c := by simp only [det, dot, cross]; grind
theorem rk_inv : ∀ (l seen own : List V3), Dirs (seen ++ l) → RkInv seen own → RkInv (seen ++ l) (l.foldl rkStep own)
  | [], seen, own, _, h => by rw [List.append_nil]; exact h
  | d :: l, seen, own, hd, h => by
    have e : seen ++ d :: l = (seen ++ [d]) ++ l := by simp
    rw [List.foldl_cons, e]
    rw [e] at hd
    refine rk_inv l _ _ hd ?_
    have md : d ∈ seen ++ [d] := by simp
    have mv : ∀ x, x ∈ seen → x ∈ seen ++ [d] := fun x hx => List.mem_append_left _ hx
    have le : ∀ x, x ∈ seen ++ [d] → V3.le x 9 := fun x hx => hd.le x (List.mem_append_left _ hx)
    have cs : ∀ {P : V3 → Prop}, (∀ x ∈ seen, P x) → P d → ∀ x ∈ seen ++ [d], P x := fun h1 h2 x hx => by
      rcases List.mem_append.1 hx with hx | hx
      · exact h1 x hx
      · rw [List.mem_singleton] at hx; rw [hx]; exact h2
    match own, h with
    | [], h =>
      have h : seen = [] := h
      subst h
      exact ⟨md, hd.ne d (by simp), fun x hx => by
        have : x = d := by simpa using hx
        rw [this]; exact cross_self d⟩
    | [a], ⟨ha, hn, hc⟩ =>
      have hw := cr_w (le a (mv a ha)) (le d md)
      show RkInv _ (if w3 (cross a d) = (0, 0, 0) then [a] else [a, d])
      rw [hw]
      by_cases h0 : cross a d = (0, 0, 0)
      · rw [if_pos h0]; exact ⟨mv a ha, hn, cs hc h0⟩
      · rw [if_neg h0]; exact ⟨mv a ha, md, h0, cs (fun x hx => par_dot (hc x hx)) (dot_cr_l a d).2⟩
    | [a, b], ⟨ha, hb, hn, hc⟩ =>
      have hw := dot_dw (le a (mv a ha)) (le b (mv b hb)) (le d md)
      show RkInv _ (if w64 (dot (w3 (cross a b)) d) = 0 then [a, b] else [a, b, d])
      rw [hw]
      by_cases h0 : dot (cross a b) d = 0
      · rw [if_pos h0]; exact ⟨mv a ha, mv b hb, hn, cs hc h0⟩
      · rw [if_neg h0]; exact ⟨mv a ha, mv b hb, md, by rw [det_dot]; exact h0⟩
    | [a, b, c], ⟨ha, hb, hc, hn⟩ => exact ⟨mv a ha, mv b hb, mv c hc, hn⟩
theorem rkOwn_inv {l : List V3} (h : Dirs l) : RkInv l (rkOwn l) := rk_inv l [] [] h rfl
theorem v3_ne {n : V3} (h : n ≠ z3) : n.1 ≠ 0 ∨ n.2.1 ≠ 0 ∨ n.2.2 ≠ 0 := by
  obtain ⟨a, b, c⟩ := n
  rcases Classical.em (a = 0) with h1 | h1
  · rcases Classical.em (b = 0) with h2 | h2
    · rcases Classical.em (c = 0) with h3 | h3
      · subst h1 h2 h3; exact absurd rfl h
      · exact .inr (.inr h3)
    · exact .inr (.inl h2)
  · exact .inl h1
/-- Three vectors that are all at right angles to one. -/
theorem det_flat {n d e f : V3} (hn : n ≠ z3) (h1 : dot n d = 0) (h2 : dot n e = 0) (h3 : dot n f = 0) : det d e f = 0 := by
  obtain ⟨n1, n2, n3⟩ := n
  have k1 : det d e f * n1 = 0 := by simp only [det, dot, cross] at *; grind
  have k2 : det d e f * n2 = 0 := by simp only [det, dot, cross] at *; grind
  have k3 : det d e f * n3 = 0 := by simp only [det, dot, cross] at *; grind
  rcases v3_ne hn with h | h | h
  · exact (Int.mul_eq_zero.1 k1).resolve_right h
  · exact (Int.mul_eq_zero.1 k2).resolve_right h
  · exact (Int.mul_eq_zero.1 k3).resolve_right h
/-- Two vectors along one. -/
theorem cross_par {a d e : V3} (ha : a ≠ z3) (h1 : cross a d = z3) (h2 : cross a e = z3) : cross d e = z3 := by
  obtain ⟨a1, a2, a3⟩ := a
  obtain ⟨d1, d2, d3⟩ := d
  obtain ⟨e1, e2, e3⟩ := e
  simp only [cross, Prod.mk.injEq] at h1 h2 ⊢
  obtain ⟨p1, p2, p3⟩ := h1
  obtain ⟨q1, q2, q3⟩ := h2
  have key : ∀ {x y : Int}, x ≠ 0 → y * x = 0 → y = 0 := fun hx hy => (Int.mul_eq_zero.1 hy).resolve_right hx
  rcases v3_ne ha with h | h | h
  · exact ⟨key h (by grind), key h (by grind), key h (by grind)⟩
  · exact ⟨key h (by grind), key h (by grind), key h (by grind)⟩
  · exact ⟨key h (by grind), key h (by grind), key h (by grind)⟩
theorem det_cross0 {d e : V3} (f : V3) (h : cross d e = z3) : det d e f = 0 := by rw [det_dot, h]; simp [dot]
/-- Both ranks are the same. -/
theorem rkR_eq {l : List V3} (h : Dirs l) : rkR l = ((rkOwn l).length : Int) := by
  have hi := rkOwn_inv h
  unfold rkR
  generalize rkOwn l = own at hi
  match own, hi with
  | [], hi =>
    have hi : l = [] := hi
    subst hi; rfl
  | [a], ⟨ha, hn, hc⟩ =>
    have e3 : any3 l l.length = false := by
      rw [← Bool.not_eq_true, any3_iff h.le]
      rintro ⟨d, e, f, hd, he, hf, hh⟩
      exact hh (det_cross0 f (cross_par hn (hc d hd) (hc e he)))
    have e2 : any2 l l.length = false := by
      rw [← Bool.not_eq_true, any2_iff h.le]
      rintro ⟨d, e, hd, he, hh⟩
      exact hh (cross_par hn (hc d hd) (hc e he))
    rw [e3, e2, any1_iff.2 ⟨a, ha, hn⟩]; rfl
  | [a, b], ⟨ha, hb, hn, hc⟩ =>
    have e3 : any3 l l.length = false := by
      rw [← Bool.not_eq_true, any3_iff h.le]
      rintro ⟨d, e, f, hd, he, hf, hh⟩
      exact hh (det_flat hn (hc d hd) (hc e he) (hc f hf))
    rw [e3, (any2_iff h.le).2 ⟨a, b, ha, hb, hn⟩]; rfl
  | [a, b, c], ⟨ha, hb, hc, hn⟩ =>
    rw [(any3_iff h.le).2 ⟨a, b, c, ha, hb, hc, hn⟩]; rfl
end Go.Pi
end

section
namespace Go.Proofs.Ytglijnhkdnhofaa
open Go Go.Pi Go.RowKit
set_option maxRecDepth 100000
set_option linter.unusedVariables false
set_option linter.unusedSimpArgs false

def f24 (l : List ((Int × Int × Int) × Int × Int)) : Int × Int := if (rdOf l).2 ≠ 0 then (0, (rdOf l).2) else (((rkOwn (l.map (·.1))).length : Int), 0)
def f24_e : Entry := { doms := [(false, (.sl (.pair (.pair (.int .i64) (.pair (.int .i64) (.int .i64))) (.pair (.int .i64) (.int .i64)))))], cods := [(false, (.int .i64)), (false, (.int .i64))], pre := fun _ => True, fn := f24, uq := false, total := true }
def f24_E : Env := [(71, f71_e), (72, f72_e)]
def f24_A : Anns := { loops := [], own := [] }
theorem f24_run (a0 : List ((Int × Int × Int) × Int × Int)) (K : (Int × Int) → Prop) : runF Try.prog f24_E f24_A 6 Try.f24 f24_e.doms f24_e.cods a0 K =
    (br ((f71 a0).2 != 0)
    (K (0, (f71 a0).2))
    (K ((f72 ((f71 a0).1)).1, 0))) := by kernel_rfl
theorem f24_t (a0 : List ((Int × Int × Int) × Int × Int)) (K : (Int × Int) → Prop) (hK : ∀ y : Int × Int, y = f24 a0 → K y) : RunF Try.prog f24_E f24_A 6 Try.f24 f24_e.doms f24_e.cods a0 K := by
  refine ⟨?_⟩
  rw [f24_run a0 K]
  refine br_two (fun h => hK _ ?_) fun h => hK _ ?_
  · have h : (rdOf a0).2 ≠ 0 := bne_t.1 h
    rw [f24, if_pos h]; rfl
  · have h : (rdOf a0).2 = 0 := bne_f.1 h
    rw [f24, if_neg (fun hh => hh h)]; rfl
theorem f24_fn : f24_e.fn = f24 := rfl
theorem f24_ok : EntryOK Try.prog 24 f24_e := by
  refine entryF progOK (EnvOK.cons f71_ok (EnvOK.cons f72_ok (EnvOK.nil))) (A := f24_A) (d := 6) Try.func24 rfl rfl rfl rfl (fun _ _ => trivial) fun x hpre => ?_
  exact f24_t x _ fun _ h => h.trans (congrFun f24_fn.symm _)
end Go.Proofs.Ytglijnhkdnhofaa
end

section
namespace Go.Pi
set_option linter.unusedVariables false
def at3 (v : V3) (k : Int) : Int := ([v.1, v.2.1, v.2.2] : List Int).getD k.toNat 0
def g3 (v : V3) : Nat := gcdL [v.1, v.2.1, v.2.2]
def gS (v : V3) (k : Int) : Int := if at3 v k < 0 then 0 - (g3 v : Int) else (g3 v : Int)
/-- A vector without a common divisor, a part of it not negative. -/
def prim (v : V3) (k : Int) : V3 := (v.1.tdiv (gS v k), v.2.1.tdiv (gS v k), v.2.2.tdiv (gS v k))
theorem g3_dvd (v : V3) : g3 v ∣ v.1.natAbs ∧ g3 v ∣ v.2.1.natAbs ∧ g3 v ∣ v.2.2.natAbs := by
  unfold g3
  rw [gcdL_three]
  exact ⟨Nat.gcd_dvd_left _ _, Nat.dvd_trans (Nat.gcd_dvd_right _ _) (Nat.gcd_dvd_left _ _), Nat.dvd_trans (Nat.gcd_dvd_right _ _) (Nat.gcd_dvd_right _ _)⟩
theorem g3_pos {v : V3} (h : v ≠ z3) : 0 < g3 v := by
  rcases Nat.eq_zero_or_pos (g3 v) with h0 | h0
  · exfalso
    obtain ⟨h1, h2, h3⟩ := g3_dvd v
    rw [h0] at h1 h2 h3
    have h1 := Nat.zero_dvd.1 h1
    have h2 := Nat.zero_dvd.1 h2
    have h3 := Nat.zero_dvd.1 h3
    exact h (Prod.ext (by show v.1 = 0; omega) (Prod.ext (by show v.2.1 = 0; omega) (by show v.2.2 = 0; omega)))
  · exact h0
theorem gS_abs (v : V3) (k : Int) : (gS v k).natAbs = g3 v := by unfold gS; split <;> omega
theorem g3_le {v : V3} {m : Int} (h : v ≠ z3) (hv : V3.le v m) : (g3 v : Int) ≤ m := by
  obtain ⟨h1, h2, h3⟩ := g3_dvd v
  obtain ⟨b1, b2, b3⟩ := hv
  rcases v3_ne h with hn | hn | hn
  · have := Nat.le_of_dvd (by omega) h1; omega
  · have := Nat.le_of_dvd (by omega) h2; omega
  · have := Nat.le_of_dvd (by omega) h3; omega
theorem prim_mul {v : V3} (k : Int) (h : v ≠ z3) : gS v k ≠ 0 ∧ v = (gS v k * (prim v k).1, gS v k * (prim v k).2.1, gS v k * (prim v k).2.2) := by
  have hp := g3_pos h
  have ha := gS_abs v k
  have hd : ∀ {n : Int}, g3 v ∣ n.natAbs → gS v k * n.tdiv (gS v k) = n := fun hn => Int.mul_tdiv_cancel' (by rw [← Int.natAbs_dvd_natAbs, ha]; exact hn)
  obtain ⟨h1, h2, h3⟩ := g3_dvd v
  exact ⟨by omega, Prod.ext (hd h1).symm (Prod.ext (hd h2).symm (hd h3).symm)⟩
theorem prim_dot {v d : V3} (k : Int) (h : v ≠ z3) (h0 : dot d v = 0) : dot d (prim v k) = 0 := by
  obtain ⟨h1, h2⟩ := prim_mul k h
  have e : dot d v = gS v k * dot d (prim v k) := by
    have q1 : v.1 = gS v k * (prim v k).1 := congrArg (·.1) h2
    have q2 : v.2.1 = gS v k * (prim v k).2.1 := congrArg (·.2.1) h2
    have q3 : v.2.2 = gS v k * (prim v k).2.2 := congrArg (·.2.2) h2
    clear h2
    generalize gS v k = s at *
    generalize prim v k = p at *
    simp only [dot]
    rw [q1, q2, q3]
    grind
  rw [e] at h0
  exact (Int.mul_eq_zero.1 h0).resolve_left h1
theorem prim_le {v : V3} (k : Int) {m : Int} (hv : V3.le v m) : V3.le (prim v k) m := ⟨tdiv_size hv.1, tdiv_size hv.2.1, tdiv_size hv.2.2⟩
/-- What is undecided. -/
def und : List V3 → List V3
  | [d] => if d.1 ≠ 0 then [prim (-d.2.1, d.1, 0) 1, prim (-d.2.2, 0, d.1) 2] else if d.2.1 ≠ 0 then [prim (d.2.1, -d.1, 0) 0, prim (0, -d.2.2, d.2.1) 2] else [prim (d.2.2, 0, -d.1) 0, prim (0, d.2.2, -d.2.1) 1]
  | [a, b] => if (cross a b).2.2 ≠ 0 then [prim (cross a b) 2] else if (cross a b).2.1 ≠ 0 then [prim (cross a b) 1] else [prim (cross a b) 0]
  | _ => []
theorem und_len {own : List V3} (h0 : own ≠ []) (h : own.length ≤ 3) : (und own).length = 3 - own.length := by
  match own, h0, h with
  | [], h0, _ => exact absurd rfl h0
  | [d], _, _ =>
    simp only [und]
    split
    · rfl
    · split <;> rfl
  | [a, b], _, _ =>
    simp only [und]
    split
    · rfl
    · split <;> rfl
  | a :: b :: c :: r, _, h =>
    have : (a :: b :: c :: r).length = 3 := by simp only [List.length_cons] at h ⊢; omega
    rw [this]; rfl
theorem par_of {a d : V3} {n : V3} (h : cross a d = z3) (ha : a ≠ z3) (hn : dot a n = 0) : dot d n = 0 := by
  obtain ⟨a1, a2, a3⟩ := a
  obtain ⟨d1, d2, d3⟩ := d
  obtain ⟨n1, n2, n3⟩ := n
  simp only [cross, Prod.mk.injEq] at h
  obtain ⟨h1, h2, h3⟩ := h
  simp only [dot] at hn ⊢
  have key : ∀ {x y : Int}, x ≠ 0 → y * x = 0 → y = 0 := fun hx hy => (Int.mul_eq_zero.1 hy).resolve_right hx
  rcases v3_ne ha with h | h | h
  · exact key h (by grind)
  · exact key h (by grind)
  · exact key h (by grind)
/-- The undecided vectors are at right angles to all directions, and not great. -/
theorem und_ok {l : List V3} (h : Dirs l) : ∀ u ∈ und (rkOwn l), V3.le u 162 ∧ ∀ d ∈ l, dot d u = 0 := by
  have hi := rkOwn_inv h
  generalize rkOwn l = own at hi
  match own, hi with
  | [], _ => intro u hu; cases hu
  | [a], ⟨ha, hn, hc⟩ =>
    have hle := h.le a ha
    obtain ⟨x, y, z⟩ := a
    obtain ⟨b1, b2, b3⟩ := hle
    dsimp only at b1 b2 b3
    have fin : ∀ (v : V3) (k : Int), v ≠ z3 → V3.le v 9 → dot (x, y, z) v = 0 → V3.le (prim v k) 162 ∧ ∀ d ∈ l, dot d (prim v k) = 0 := fun v k hv hl h0 =>
      ⟨by have := prim_le k hl; exact ⟨by have := this.1; omega, by have := this.2.1; omega, by have := this.2.2; omega⟩, fun d hd => prim_dot k hv (par_of (hc d hd) hn h0)⟩
    intro u hu
    unfold und at hu
    dsimp only at hu
    split at hu
    · rename_i h1
      rcases List.mem_cons.1 hu with rfl | hu
      · exact fin _ _ (fun hh => h1 (congrArg (·.2.1) hh)) ⟨by dsimp only; omega, by dsimp only; omega, by dsimp only; omega⟩ (by simp only [dot]; grind)
      · rw [List.mem_singleton] at hu
        subst hu
        exact fin _ _ (fun hh => h1 (congrArg (·.2.2) hh)) ⟨by dsimp only; omega, by dsimp only; omega, by dsimp only; omega⟩ (by simp only [dot]; grind)
    · rename_i h1
      split at hu
      · rename_i h2
        rcases List.mem_cons.1 hu with rfl | hu
        · exact fin _ _ (fun hh => h2 (congrArg (·.1) hh)) ⟨by dsimp only; omega, by dsimp only; omega, by dsimp only; omega⟩ (by simp only [dot]; grind)
        · rw [List.mem_singleton] at hu
          subst hu
          exact fin _ _ (fun hh => h2 (congrArg (·.2.2) hh)) ⟨by dsimp only; omega, by dsimp only; omega, by dsimp only; omega⟩ (by simp only [dot]; grind)
      · rename_i h2
        have h3 : z ≠ 0 := fun hh => hn (by
          have h1 : x = 0 := Classical.byContradiction h1
          have h2 : y = 0 := Classical.byContradiction h2
          subst h1 h2 hh; rfl)
        rcases List.mem_cons.1 hu with rfl | hu
        · exact fin _ _ (fun hh => h3 (congrArg (·.1) hh)) ⟨by dsimp only; omega, by dsimp only; omega, by dsimp only; omega⟩ (by simp only [dot]; grind)
        · rw [List.mem_singleton] at hu
          subst hu
          exact fin _ _ (fun hh => h3 (congrArg (·.2.1) hh)) ⟨by dsimp only; omega, by dsimp only; omega, by dsimp only; omega⟩ (by simp only [dot]; grind)
  | [a, b], ⟨ha, hb, hn, hc⟩ =>
    have hl : V3.le (cross a b) 162 := cross_le (h.le a ha) (h.le b hb)
    have fin : ∀ k, V3.le (prim (cross a b) k) 162 ∧ ∀ d ∈ l, dot d (prim (cross a b) k) = 0 := fun k =>
      ⟨prim_le k hl, fun d hd => prim_dot k hn (by have := hc d hd; simp only [dot] at this ⊢; grind)⟩
    intro u hu
    unfold und at hu
    dsimp only at hu
    split at hu
    · rw [List.mem_singleton] at hu; subst hu; exact fin _
    · split at hu
      · rw [List.mem_singleton] at hu; subst hu; exact fin _
      · rw [List.mem_singleton] at hu; subst hu; exact fin _
  | [a, b, c], _ => intro u hu; cases hu
end Go.Pi
end

section
namespace Go.Proofs.Ytglijnhkdnhofaa
open Go Go.Pi Go.RowKit
set_option maxRecDepth 100000
set_option linter.unusedVariables false
set_option linter.unusedSimpArgs false

def f75 (x : (Int × Int × Int) × Int) : Int × Int × Int := prim x.1 x.2
def f75_pre (x : (Int × Int × Int) × Int) : Prop := V3.le x.1 1000000000 ∧ x.1 ≠ z3 ∧ 0 ≤ x.2 ∧ x.2 < 3
def f75_e : Entry := { doms := [(true, (.pair (.int .i64) (.pair (.int .i64) (.int .i64)))), (false, (.int .i64))], cods := [(true, (.pair (.int .i64) (.pair (.int .i64) (.int .i64))))], pre := f75_pre, fn := f75, uq := false, total := false }
def f75_E : Env := [(109, f109_e)]
def f75_A : Anns := { loops := [], own := [1048576] }
theorem f75_run (a0 : Int × Int × Int) (a1 : Int) (K : (Int × Int × Int) → Prop) : runF Try.prog f75_E f75_A 6 Try.f75 f75_e.doms f75_e.cods (a0, a1) K =
    (f109_pre ([a0.1, a0.2.1, a0.2.2] : List Int) ∧
    br (decide (0 ≤ a1) && decide (a1 < 3))
    (br (decide ((([a0.1, a0.2.1, a0.2.2] : List Int).getD a1.toNat 0) < 0))
    (br (!(decide ((IntKind.i64.wrap (0 - (f109 ([a0.1, a0.2.1, a0.2.2] : List Int)))) = 0)))
    (br (!(decide ((IntKind.i64.wrap (0 - (f109 ([a0.1, a0.2.1, a0.2.2] : List Int)))) = 0)))
    (br (!(decide ((IntKind.i64.wrap (0 - (f109 ([a0.1, a0.2.1, a0.2.2] : List Int)))) = 0)))
    (K ((IntKind.i64.wrap (a0.1.tdiv (IntKind.i64.wrap (0 - (f109 ([a0.1, a0.2.1, a0.2.2] : List Int)))))), ((IntKind.i64.wrap (a0.2.1.tdiv (IntKind.i64.wrap (0 - (f109 ([a0.1, a0.2.1, a0.2.2] : List Int)))))), (IntKind.i64.wrap (a0.2.2.tdiv (IntKind.i64.wrap (0 - (f109 ([a0.1, a0.2.1, a0.2.2] : List Int)))))))))
    False)
    False)
    False)
    (br (!(decide ((f109 ([a0.1, a0.2.1, a0.2.2] : List Int)) = 0)))
    (br (!(decide ((f109 ([a0.1, a0.2.1, a0.2.2] : List Int)) = 0)))
    (br (!(decide ((f109 ([a0.1, a0.2.1, a0.2.2] : List Int)) = 0)))
    (K ((IntKind.i64.wrap (a0.1.tdiv (f109 ([a0.1, a0.2.1, a0.2.2] : List Int)))), ((IntKind.i64.wrap (a0.2.1.tdiv (f109 ([a0.1, a0.2.1, a0.2.2] : List Int)))), (IntKind.i64.wrap (a0.2.2.tdiv (f109 ([a0.1, a0.2.1, a0.2.2] : List Int)))))))
    False)
    False)
    False))
    False) := by kernel_rfl
theorem f75_t (a0 : Int × Int × Int) (a1 : Int) (hpre : f75_pre (a0, a1)) (K : (Int × Int × Int) → Prop) (hK : ∀ y : Int × Int × Int, y = f75 (a0, a1) → K y) : RunF Try.prog f75_E f75_A 6 Try.f75 f75_e.doms f75_e.cods (a0, a1) K := by
  refine ⟨?_⟩
  rw [f75_run a0 a1 K]
  obtain ⟨⟨h1, h2, h3⟩, hn, k0, k1⟩ := hpre
  dsimp only at h1 h2 h3 hn k0 k1
  have eg : f109 [a0.1, a0.2.1, a0.2.2] = (g3 a0 : Int) := rfl
  have hp := g3_pos hn
  have hl := g3_le hn ⟨h1, h2, h3⟩
  have w : ∀ (n s : Int), (-1000000000 ≤ n ∧ n ≤ 1000000000) → IntKind.i64.wrap (n.tdiv s) = n.tdiv s := fun n s h => by
    have := tdiv_size (d := s) h
    exact wr (by omega) (by omega)
  rw [eg, wr (n := 0 - (g3 a0 : Int)) (by omega) (by omega)]
  simp only [w _ _ h1, w _ _ h2, w _ _ h3]
  refine ⟨fun n hm => ?_, br_must (by simp; omega) (br_if (fun hn => ?_) fun hn => ?_)⟩
  · simp only [List.mem_cons, List.not_mem_nil, or_false] at hm
    rcases hm with rfl | rfl | rfl
    · exact fit_le h1 (by omega)
    · exact fit_le h2 (by omega)
    · exact fit_le h3 (by omega)
  · have b : (!(decide ((0 - (g3 a0 : Int)) = 0))) = true := by rw [decide_eq_false (by omega)]; rfl
    refine br_must b (br_must b (br_must b (hK _ ?_)))
    have e : gS a0 a1 = 0 - (g3 a0 : Int) := by rw [gS]; exact if_pos hn
    rw [← e]; rfl
  · have b : (!(decide ((g3 a0 : Int) = 0))) = true := by rw [decide_eq_false (by omega)]; rfl
    refine br_must b (br_must b (br_must b (hK _ ?_)))
    have e : gS a0 a1 = (g3 a0 : Int) := by rw [gS]; exact if_neg hn
    rw [← e]; rfl
theorem f75_fn : f75_e.fn = f75 := rfl
theorem f75_ok : EntryOK Try.prog 75 f75_e := by
  refine entryF progOK (EnvOK.cons f109_ok (EnvOK.nil)) (A := f75_A) (d := 6) Try.func75 rfl rfl rfl rfl (fun h => by cases h) fun x hpre => ?_
  obtain ⟨a0, a1⟩ := x
  exact f75_t a0 a1 hpre _ fun _ h => h.trans (congrFun f75_fn.symm _)
end Go.Proofs.Ytglijnhkdnhofaa
end

section
namespace Go.Proofs.Ytglijnhkdnhofaa
open Go Go.Pi Go.RowKit
set_option maxRecDepth 100000
set_option linter.unusedVariables false
set_option linter.unusedSimpArgs false

def f25 (l : List ((Int × Int × Int) × Int × Int)) : List (Int × Int × Int) × Int := if (rdOf l).2 ≠ 0 then ([], (rdOf l).2) else (und (rkOwn (l.map (·.1))), 0)
theorem dirs_ok {l : List Rd} (h : RdOK l) : Dirs (l.map (·.1)) := by
  refine ⟨fun d hd => ?_, fun d hd => ?_⟩
  · obtain ⟨r, hr, rfl⟩ := List.mem_map.1 hd; exact (h.dir r hr).1
  · obtain ⟨r, hr, rfl⟩ := List.mem_map.1 hd; exact (h.dir r hr).2
def f25_e : Entry := { doms := [(false, (.sl (.pair (.pair (.int .i64) (.pair (.int .i64) (.int .i64))) (.pair (.int .i64) (.int .i64)))))], cods := [(false, (.sl (.pair (.int .i64) (.pair (.int .i64) (.int .i64))))), (false, (.int .i64))], pre := fun _ => True, fn := f25, uq := false, total := true }
def f25_E : Env := [(71, f71_e), (72, f72_e), (75, f75_e), (76, f76_e)]
def f25_A : Anns := { loops := [], own := [1056771, 1152921573327388549, 1152921573328437125, 1152921573329485701, 2977131592168410951804598442310622710228824098664595135208912362377061545246220926349331582989803740803561984594990965059067143882158391174, 2977131592171118637052763300571929755330526328843732280790334058251251466711664892470235514262303715809523058401726698663521639557773672326, 2977131592173826322300928158833236800432228559022869426371755754125441388177108858591139445534803690815484132208462432267976135233388953478], unroll := 5 }
theorem f25_run (a0 : List ((Int × Int × Int) × Int × Int)) (K : (List (Int × Int × Int) × Int) → Prop) : runF Try.prog f25_E f25_A 6 Try.f25 f25_e.doms f25_e.cods a0 K =
    (br ((f71 a0).2 != 0)
    (K (([] : List (Int × Int × Int)), (f71 a0).2))
    (br ((f72 ((f71 a0).1)).1 == 1)
    (br (decide (0 ≤ 0) && decide (0 < ((((f72 ((f71 a0).1)).2).length) : Int)))
    (br ((((f72 ((f71 a0).1)).2).getD 0 (0, (0, 0))).1 != 0)
    (f75_pre (((IntKind.i64.wrap (0 - ((((f72 ((f71 a0).1)).2).getD 0 (0, (0, 0))).2).1)), ((((f72 ((f71 a0).1)).2).getD 0 (0, (0, 0))).1, 0)), 1) ∧
    f75_pre (((IntKind.i64.wrap (0 - ((((f72 ((f71 a0).1)).2).getD 0 (0, (0, 0))).2).2)), (0, (((f72 ((f71 a0).1)).2).getD 0 (0, (0, 0))).1)), 2) ∧
    K (([((f75 (((IntKind.i64.wrap (0 - ((((f72 ((f71 a0).1)).2).getD 0 (0, (0, 0))).2).1)), ((((f72 ((f71 a0).1)).2).getD 0 (0, (0, 0))).1, 0)), 1)).1, ((f75 (((IntKind.i64.wrap (0 - ((((f72 ((f71 a0).1)).2).getD 0 (0, (0, 0))).2).1)), ((((f72 ((f71 a0).1)).2).getD 0 (0, (0, 0))).1, 0)), 1)).2)), ((f75 (((IntKind.i64.wrap (0 - ((((f72 ((f71 a0).1)).2).getD 0 (0, (0, 0))).2).2)), (0, (((f72 ((f71 a0).1)).2).getD 0 (0, (0, 0))).1)), 2)).1, ((f75 (((IntKind.i64.wrap (0 - ((((f72 ((f71 a0).1)).2).getD 0 (0, (0, 0))).2).2)), (0, (((f72 ((f71 a0).1)).2).getD 0 (0, (0, 0))).1)), 2)).2))] : List (Int × Int × Int)), 0))
    (br (((((f72 ((f71 a0).1)).2).getD 0 (0, (0, 0))).2).1 != 0)
    (f75_pre ((((((f72 ((f71 a0).1)).2).getD 0 (0, (0, 0))).2).1, ((IntKind.i64.wrap (0 - (((f72 ((f71 a0).1)).2).getD 0 (0, (0, 0))).1)), 0)), 0) ∧
    f75_pre ((0, ((IntKind.i64.wrap (0 - ((((f72 ((f71 a0).1)).2).getD 0 (0, (0, 0))).2).2)), ((((f72 ((f71 a0).1)).2).getD 0 (0, (0, 0))).2).1)), 2) ∧
    K (([((f75 ((((((f72 ((f71 a0).1)).2).getD 0 (0, (0, 0))).2).1, ((IntKind.i64.wrap (0 - (((f72 ((f71 a0).1)).2).getD 0 (0, (0, 0))).1)), 0)), 0)).1, ((f75 ((((((f72 ((f71 a0).1)).2).getD 0 (0, (0, 0))).2).1, ((IntKind.i64.wrap (0 - (((f72 ((f71 a0).1)).2).getD 0 (0, (0, 0))).1)), 0)), 0)).2)), ((f75 ((0, ((IntKind.i64.wrap (0 - ((((f72 ((f71 a0).1)).2).getD 0 (0, (0, 0))).2).2)), ((((f72 ((f71 a0).1)).2).getD 0 (0, (0, 0))).2).1)), 2)).1, ((f75 ((0, ((IntKind.i64.wrap (0 - ((((f72 ((f71 a0).1)).2).getD 0 (0, (0, 0))).2).2)), ((((f72 ((f71 a0).1)).2).getD 0 (0, (0, 0))).2).1)), 2)).2))] : List (Int × Int × Int)), 0))
    (br (((((f72 ((f71 a0).1)).2).getD 0 (0, (0, 0))).2).2 != 0)
    (f75_pre ((((((f72 ((f71 a0).1)).2).getD 0 (0, (0, 0))).2).2, (0, (IntKind.i64.wrap (0 - (((f72 ((f71 a0).1)).2).getD 0 (0, (0, 0))).1)))), 0) ∧
    f75_pre ((0, (((((f72 ((f71 a0).1)).2).getD 0 (0, (0, 0))).2).2, (IntKind.i64.wrap (0 - ((((f72 ((f71 a0).1)).2).getD 0 (0, (0, 0))).2).1)))), 1) ∧
    K (([((f75 ((((((f72 ((f71 a0).1)).2).getD 0 (0, (0, 0))).2).2, (0, (IntKind.i64.wrap (0 - (((f72 ((f71 a0).1)).2).getD 0 (0, (0, 0))).1)))), 0)).1, ((f75 ((((((f72 ((f71 a0).1)).2).getD 0 (0, (0, 0))).2).2, (0, (IntKind.i64.wrap (0 - (((f72 ((f71 a0).1)).2).getD 0 (0, (0, 0))).1)))), 0)).2)), ((f75 ((0, (((((f72 ((f71 a0).1)).2).getD 0 (0, (0, 0))).2).2, (IntKind.i64.wrap (0 - ((((f72 ((f71 a0).1)).2).getD 0 (0, (0, 0))).2).1)))), 1)).1, ((f75 ((0, (((((f72 ((f71 a0).1)).2).getD 0 (0, (0, 0))).2).2, (IntKind.i64.wrap (0 - ((((f72 ((f71 a0).1)).2).getD 0 (0, (0, 0))).2).1)))), 1)).2))] : List (Int × Int × Int)), 0))
    (False))))
    False)
    (br ((f72 ((f71 a0).1)).1 == 2)
    (br (decide (0 ≤ 0) && decide (0 < ((((f72 ((f71 a0).1)).2).length) : Int)))
    (br (decide (0 ≤ 1) && decide (1 < ((((f72 ((f71 a0).1)).2).length) : Int)))
    (br (((f76 (((((f72 ((f71 a0).1)).2).getD 0 (0, (0, 0))).1, ((((f72 ((f71 a0).1)).2).getD 0 (0, (0, 0))).2)), ((((f72 ((f71 a0).1)).2).getD 1 (0, (0, 0))).1, ((((f72 ((f71 a0).1)).2).getD 1 (0, (0, 0))).2)))).2).2 == 0)
    (br (((f76 (((((f72 ((f71 a0).1)).2).getD 0 (0, (0, 0))).1, ((((f72 ((f71 a0).1)).2).getD 0 (0, (0, 0))).2)), ((((f72 ((f71 a0).1)).2).getD 1 (0, (0, 0))).1, ((((f72 ((f71 a0).1)).2).getD 1 (0, (0, 0))).2)))).2).1 == 0)
    (br ((f76 (((((f72 ((f71 a0).1)).2).getD 0 (0, (0, 0))).1, ((((f72 ((f71 a0).1)).2).getD 0 (0, (0, 0))).2)), ((((f72 ((f71 a0).1)).2).getD 1 (0, (0, 0))).1, ((((f72 ((f71 a0).1)).2).getD 1 (0, (0, 0))).2)))).1 == 0)
    (False)
    (f75_pre (((f76 (((((f72 ((f71 a0).1)).2).getD 0 (0, (0, 0))).1, ((((f72 ((f71 a0).1)).2).getD 0 (0, (0, 0))).2)), ((((f72 ((f71 a0).1)).2).getD 1 (0, (0, 0))).1, ((((f72 ((f71 a0).1)).2).getD 1 (0, (0, 0))).2)))).1, ((f76 (((((f72 ((f71 a0).1)).2).getD 0 (0, (0, 0))).1, ((((f72 ((f71 a0).1)).2).getD 0 (0, (0, 0))).2)), ((((f72 ((f71 a0).1)).2).getD 1 (0, (0, 0))).1, ((((f72 ((f71 a0).1)).2).getD 1 (0, (0, 0))).2)))).2)), 0) ∧
    K (([((f75 (((f76 (((((f72 ((f71 a0).1)).2).getD 0 (0, (0, 0))).1, ((((f72 ((f71 a0).1)).2).getD 0 (0, (0, 0))).2)), ((((f72 ((f71 a0).1)).2).getD 1 (0, (0, 0))).1, ((((f72 ((f71 a0).1)).2).getD 1 (0, (0, 0))).2)))).1, ((f76 (((((f72 ((f71 a0).1)).2).getD 0 (0, (0, 0))).1, ((((f72 ((f71 a0).1)).2).getD 0 (0, (0, 0))).2)), ((((f72 ((f71 a0).1)).2).getD 1 (0, (0, 0))).1, ((((f72 ((f71 a0).1)).2).getD 1 (0, (0, 0))).2)))).2)), 0)).1, ((f75 (((f76 (((((f72 ((f71 a0).1)).2).getD 0 (0, (0, 0))).1, ((((f72 ((f71 a0).1)).2).getD 0 (0, (0, 0))).2)), ((((f72 ((f71 a0).1)).2).getD 1 (0, (0, 0))).1, ((((f72 ((f71 a0).1)).2).getD 1 (0, (0, 0))).2)))).1, ((f76 (((((f72 ((f71 a0).1)).2).getD 0 (0, (0, 0))).1, ((((f72 ((f71 a0).1)).2).getD 0 (0, (0, 0))).2)), ((((f72 ((f71 a0).1)).2).getD 1 (0, (0, 0))).1, ((((f72 ((f71 a0).1)).2).getD 1 (0, (0, 0))).2)))).2)), 0)).2))] : List (Int × Int × Int)), 0)))
    (f75_pre (((f76 (((((f72 ((f71 a0).1)).2).getD 0 (0, (0, 0))).1, ((((f72 ((f71 a0).1)).2).getD 0 (0, (0, 0))).2)), ((((f72 ((f71 a0).1)).2).getD 1 (0, (0, 0))).1, ((((f72 ((f71 a0).1)).2).getD 1 (0, (0, 0))).2)))).1, ((f76 (((((f72 ((f71 a0).1)).2).getD 0 (0, (0, 0))).1, ((((f72 ((f71 a0).1)).2).getD 0 (0, (0, 0))).2)), ((((f72 ((f71 a0).1)).2).getD 1 (0, (0, 0))).1, ((((f72 ((f71 a0).1)).2).getD 1 (0, (0, 0))).2)))).2)), 1) ∧
    K (([((f75 (((f76 (((((f72 ((f71 a0).1)).2).getD 0 (0, (0, 0))).1, ((((f72 ((f71 a0).1)).2).getD 0 (0, (0, 0))).2)), ((((f72 ((f71 a0).1)).2).getD 1 (0, (0, 0))).1, ((((f72 ((f71 a0).1)).2).getD 1 (0, (0, 0))).2)))).1, ((f76 (((((f72 ((f71 a0).1)).2).getD 0 (0, (0, 0))).1, ((((f72 ((f71 a0).1)).2).getD 0 (0, (0, 0))).2)), ((((f72 ((f71 a0).1)).2).getD 1 (0, (0, 0))).1, ((((f72 ((f71 a0).1)).2).getD 1 (0, (0, 0))).2)))).2)), 1)).1, ((f75 (((f76 (((((f72 ((f71 a0).1)).2).getD 0 (0, (0, 0))).1, ((((f72 ((f71 a0).1)).2).getD 0 (0, (0, 0))).2)), ((((f72 ((f71 a0).1)).2).getD 1 (0, (0, 0))).1, ((((f72 ((f71 a0).1)).2).getD 1 (0, (0, 0))).2)))).1, ((f76 (((((f72 ((f71 a0).1)).2).getD 0 (0, (0, 0))).1, ((((f72 ((f71 a0).1)).2).getD 0 (0, (0, 0))).2)), ((((f72 ((f71 a0).1)).2).getD 1 (0, (0, 0))).1, ((((f72 ((f71 a0).1)).2).getD 1 (0, (0, 0))).2)))).2)), 1)).2))] : List (Int × Int × Int)), 0)))
    (f75_pre (((f76 (((((f72 ((f71 a0).1)).2).getD 0 (0, (0, 0))).1, ((((f72 ((f71 a0).1)).2).getD 0 (0, (0, 0))).2)), ((((f72 ((f71 a0).1)).2).getD 1 (0, (0, 0))).1, ((((f72 ((f71 a0).1)).2).getD 1 (0, (0, 0))).2)))).1, ((f76 (((((f72 ((f71 a0).1)).2).getD 0 (0, (0, 0))).1, ((((f72 ((f71 a0).1)).2).getD 0 (0, (0, 0))).2)), ((((f72 ((f71 a0).1)).2).getD 1 (0, (0, 0))).1, ((((f72 ((f71 a0).1)).2).getD 1 (0, (0, 0))).2)))).2)), 2) ∧
    K (([((f75 (((f76 (((((f72 ((f71 a0).1)).2).getD 0 (0, (0, 0))).1, ((((f72 ((f71 a0).1)).2).getD 0 (0, (0, 0))).2)), ((((f72 ((f71 a0).1)).2).getD 1 (0, (0, 0))).1, ((((f72 ((f71 a0).1)).2).getD 1 (0, (0, 0))).2)))).1, ((f76 (((((f72 ((f71 a0).1)).2).getD 0 (0, (0, 0))).1, ((((f72 ((f71 a0).1)).2).getD 0 (0, (0, 0))).2)), ((((f72 ((f71 a0).1)).2).getD 1 (0, (0, 0))).1, ((((f72 ((f71 a0).1)).2).getD 1 (0, (0, 0))).2)))).2)), 2)).1, ((f75 (((f76 (((((f72 ((f71 a0).1)).2).getD 0 (0, (0, 0))).1, ((((f72 ((f71 a0).1)).2).getD 0 (0, (0, 0))).2)), ((((f72 ((f71 a0).1)).2).getD 1 (0, (0, 0))).1, ((((f72 ((f71 a0).1)).2).getD 1 (0, (0, 0))).2)))).1, ((f76 (((((f72 ((f71 a0).1)).2).getD 0 (0, (0, 0))).1, ((((f72 ((f71 a0).1)).2).getD 0 (0, (0, 0))).2)), ((((f72 ((f71 a0).1)).2).getD 1 (0, (0, 0))).1, ((((f72 ((f71 a0).1)).2).getD 1 (0, (0, 0))).2)))).2)), 2)).2))] : List (Int × Int × Int)), 0)))
    False)
    False)
    (K (([] : List (Int × Int × Int)), 0))))) := by kernel_rfl
theorem f25_t (a0 : List ((Int × Int × Int) × Int × Int)) (K : (List (Int × Int × Int) × Int) → Prop) (hK : ∀ y : List (Int × Int × Int) × Int, y = f25 a0 → K y) : RunF Try.prog f25_E f25_A 6 Try.f25 f25_e.doms f25_e.cods a0 K := by
  refine ⟨?_⟩
  rw [f25_run a0 K]
  refine br_two (fun h => hK _ ?_) fun h => ?_
  · have h : (rdOf a0).2 ≠ 0 := bne_t.1 h
    rw [f25, if_pos h]; rfl
  have h : (rdOf a0).2 = 0 := bne_f.1 h
  have ok := rdOf_ok h
  have hd := dirs_ok ok
  have hi := rkOwn_inv hd
  have hl3 := rkOwn_len (a0.map (·.1))
  have e0 : f25 a0 = (und (rkOwn (a0.map (·.1))), 0) := by rw [f25, if_neg (fun hh => hh h)]
  have e72 : f72 (f71 a0).1 = (((rkOwn (a0.map (·.1))).length : Int), rkOwn (a0.map (·.1))) := rfl
  have e76 : ∀ a b : V3, f76 (a, b) = w3 (cross a b) := fun _ _ => rfl
  have e75 : ∀ (v : V3) (k : Int), f75 (v, k) = prim v k := fun _ _ => rfl
  simp only [e72]
  rw [e0] at hK
  clear e0
  generalize rkOwn (a0.map (·.1)) = own at *
  match own, hi, hl3 with
  | [], hi, _ =>
    refine br_two (fun h => by simp at h) fun _ => br_two (fun h => by simp at h) fun _ => hK _ rfl
  | [d], ⟨ha, hn, hc⟩, _ =>
    have hle := hd.le d ha
    obtain ⟨x, y, z⟩ := d
    obtain ⟨b1, b2, b3⟩ := hle
    dsimp only at b1 b2 b3
    have wn : ∀ n : Int, (-9 ≤ n ∧ n ≤ 9) → IntKind.i64.wrap (0 - n) = -n := fun n hn => by rw [wr (n := 0 - n) (by omega) (by omega)]; omega
    have pp : ∀ (v : V3) (k : Int), v ≠ z3 → V3.le v 9 → 0 ≤ k → k < 3 → f75_pre (v, k) := fun v k h1 h2 h3 h4 => ⟨⟨by have := h2.1; dsimp only; omega, by have := h2.2.1; dsimp only; omega, by have := h2.2.2; dsimp only; omega⟩, h1, h3, h4⟩
    have u1 : x ≠ 0 → und [(x, y, z)] = [prim (-y, x, 0) 1, prim (-z, 0, x) 2] := fun h => if_pos h
    have u2 : x = 0 → y ≠ 0 → und [(x, y, z)] = [prim (y, -x, 0) 0, prim (0, -z, y) 2] := fun h h' => (if_neg (fun hh => hh h)).trans (if_pos h')
    have u3 : x = 0 → y = 0 → und [(x, y, z)] = [prim (z, 0, -x) 0, prim (0, z, -y) 1] := fun h h' => (if_neg (fun hh => hh h)).trans (if_neg (fun hh => hh h'))
    simp only [List.getD_cons_zero, wn _ b1, wn _ b2, wn _ b3, e75]
    have le9 : ∀ {p q r : Int}, (-9 ≤ p ∧ p ≤ 9) → (-9 ≤ q ∧ q ≤ 9) → (-9 ≤ r ∧ r ≤ 9) → V3.le (p, q, r) 9 := fun h1 h2 h3 => ⟨h1, h2, h3⟩
    have z9 : -9 ≤ (0 : Int) ∧ (0 : Int) ≤ 9 := by omega
    have ng : ∀ {n : Int}, (-9 ≤ n ∧ n ≤ 9) → -9 ≤ -n ∧ -n ≤ 9 := fun h => by omega
    refine br_two (fun _ => br_must (by simp) (br_two (fun h1 => ?_) fun h1 => br_two (fun h2 => ?_) fun h2 => br_two (fun h3 => ?_) fun h3 => ?_)) fun h => by simp at h
    · have h1 := bne_t.1 h1
      exact ⟨pp _ _ (fun hh => h1 (congrArg (·.2.1) hh)) (le9 (ng b2) b1 z9) (by omega) (by omega), pp _ _ (fun hh => h1 (congrArg (·.2.2) hh)) (le9 (ng b3) z9 b1) (by omega) (by omega), hK _ (by rw [u1 h1])⟩
    · have h1 := bne_f.1 h1
      have h2 := bne_t.1 h2
      exact ⟨pp _ _ (fun hh => h2 (congrArg (·.1) hh)) (le9 b2 (ng b1) z9) (by omega) (by omega), pp _ _ (fun hh => h2 (congrArg (·.2.2) hh)) (le9 z9 (ng b3) b2) (by omega) (by omega), hK _ (by rw [u2 h1 h2])⟩
    · have h1 := bne_f.1 h1
      have h2 := bne_f.1 h2
      have h3 := bne_t.1 h3
      exact ⟨pp _ _ (fun hh => h3 (congrArg (·.1) hh)) (le9 b3 z9 (ng b1)) (by omega) (by omega), pp _ _ (fun hh => h3 (congrArg (·.2.1) hh)) (le9 z9 b3 (ng b2)) (by omega) (by omega), hK _ (by rw [u3 h1 h2])⟩
    · have h1 := bne_f.1 h1
      have h2 := bne_f.1 h2
      have h3 := bne_f.1 h3
      exact hn (by subst h1 h2 h3; rfl)
  | [a, b], ⟨ha, hb, hn, hc⟩, _ =>
    have hl : V3.le (cross a b) 162 := cross_le (hd.le a ha) (hd.le b hb)
    have ec : f76 (a, b) = cross a b := cr_w (hd.le a ha) (hd.le b hb)
    simp only [List.getD_cons_zero, List.getD_cons_succ, ec, e75]
    have uu : und [a, b] = if (cross a b).2.2 ≠ 0 then [prim (cross a b) 2] else if (cross a b).2.1 ≠ 0 then [prim (cross a b) 1] else [prim (cross a b) 0] := rfl
    have pp : ∀ k : Int, 0 ≤ k → k < 3 → f75_pre (cross a b, k) := fun k h3 h4 => ⟨⟨by have := hl.1; dsimp only; omega, by have := hl.2.1; dsimp only; omega, by have := hl.2.2; dsimp only; omega⟩, hn, h3, h4⟩
    refine br_two (fun h => by simp at h) fun _ => br_two (fun _ => br_must (by simp) (br_must (by simp) (br_two (fun h1 => br_two (fun h2 => br_two (fun h3 => ?_) fun h3 => ?_) fun h2 => ?_) fun h1 => ?_))) fun h => by simp at h
    · have h1 := beq_iff_eq.1 h1
      have h2 := beq_iff_eq.1 h2
      have h3 := beq_iff_eq.1 h3
      exact hn (Prod.ext h3 (Prod.ext h2 h1))
    · have h1 := beq_iff_eq.1 h1
      have h2 := beq_iff_eq.1 h2
      exact ⟨pp _ (by omega) (by omega), hK _ (by rw [uu, if_neg (fun hh => hh h1), if_neg (fun hh => hh h2)])⟩
    · have h1 := beq_iff_eq.1 h1
      have h2 := beq_eq_false_iff_ne.1 h2
      exact ⟨pp _ (by omega) (by omega), hK _ (by rw [uu, if_neg (fun hh => hh h1), if_pos h2])⟩
    · have h1 := beq_eq_false_iff_ne.1 h1
      exact ⟨pp _ (by omega) (by omega), hK _ (by rw [uu, if_pos h1])⟩
  | [a, b, c], _, _ =>
    refine br_two (fun h => by simp at h) fun _ => br_two (fun h => by simp at h) fun _ => hK _ rfl
  | a :: b :: c :: d :: r, _, h => simp at h
theorem f25_fn : f25_e.fn = f25 := rfl
theorem f25_ok : EntryOK Try.prog 25 f25_e := by
  refine entryF progOK (EnvOK.cons f71_ok (EnvOK.cons f72_ok (EnvOK.cons f75_ok (EnvOK.cons f76_ok (EnvOK.nil))))) (A := f25_A) (d := 6) Try.func25 rfl rfl rfl rfl (fun _ _ => trivial) fun x hpre => ?_
  exact f25_t x _ fun _ h => h.trans (congrFun f25_fn.symm _)
end Go.Proofs.Ytglijnhkdnhofaa
end

section
namespace Go.Proofs.Ytglijnhkdnhofaa
open Go Go.Pi Go.RowKit
set_option maxRecDepth 100000
set_option linter.unusedVariables false
set_option linter.unusedSimpArgs false

def f35 (x : Int × Int × Int) : Bool := decide (x.2.1 ≤ x.1) && decide (x.1 ≤ x.2.2)
def f35_e : Entry := { doms := [(false, (.int .i64)), (false, (.int .i64)), (false, (.int .i64))], cods := [(false, .bool)], pre := fun _ => True, fn := f35, uq := false, total := true }
def f35_E : Env := []
def f35_A : Anns := { loops := [], own := [] }
theorem f35_run (a0 : Int) (a1 : Int) (a2 : Int) (K : Bool → Prop) : runF Try.prog f35_E f35_A 6 Try.f35 f35_e.doms f35_e.cods (a0, a1, a2) K =
    (br (decide (a1 ≤ a0))
    (K (decide (a0 ≤ a2)))
    (K false)) := by kernel_rfl
theorem f35_t (a0 : Int) (a1 : Int) (a2 : Int) (K : Bool → Prop) (hK : ∀ y : Bool, y = f35 (a0, a1, a2) → K y) : RunF Try.prog f35_E f35_A 6 Try.f35 f35_e.doms f35_e.cods (a0, a1, a2) K := by
  refine ⟨?_⟩
  rw [f35_run a0 a1 a2 K]
  rw [br_dec]
  exact ⟨fun h => hK _ (by simp [f35, h]), fun h => hK _ (by simp [f35, h])⟩
theorem f35_fn : f35_e.fn = f35 := rfl
theorem f35_ok : EntryOK Try.prog 35 f35_e := by
  refine entryF progOK (EnvOK.nil) (A := f35_A) (d := 6) Try.func35 rfl rfl rfl rfl (fun _ _ => trivial) fun x hpre => ?_
  obtain ⟨a0, a1, a2⟩ := x
  exact f35_t a0 a1 a2 _ fun _ h => h.trans (congrFun f35_fn.symm _)
theorem f35_t1 {a b c : Int} : f35 (a, b, c) = true ↔ b ≤ a ∧ a ≤ c := by simp [f35]
theorem f35_f1 {a b c : Int} : f35 (a, b, c) = false ↔ ¬ (b ≤ a ∧ a ≤ c) := by rw [← Bool.not_eq_true, f35_t1]
end Go.Proofs.Ytglijnhkdnhofaa
end

section
namespace Go.Proofs.Ytglijnhkdnhofaa
open Go Go.Pi Go.RowKit
set_option maxRecDepth 100000
set_option linter.unusedVariables false
set_option linter.unusedSimpArgs false

def f77 (d : Int × Int × Int) : Int := dirE d
def f77_e : Entry := { doms := [(true, (.pair (.int .i64) (.pair (.int .i64) (.int .i64))))], cods := [(false, (.int .i64))], pre := fun _ => True, fn := f77, uq := false, total := true }
def f77_E : Env := [(35, f35_e)]
def f77_A : Anns := { loops := [], own := [], unroll := 4 }
theorem f77_run (a0 : Int × Int × Int) (K : Int → Prop) : runF Try.prog f77_E f77_A 6 Try.f77 f77_e.doms f77_e.cods a0 K =
    (br (!(f35 (a0.1, ((-9), 9))))
    (K 2)
    (br (!(f35 (a0.2.1, ((-9), 9))))
    (K 2)
    (br (!(f35 (a0.2.2, ((-9), 9))))
    (K 2)
    (br ((a0.1 == 0) && ((a0.2.1 == 0) && ((a0.2.2 == 0) && true)))
    (K 11)
    (K 0))))) := by kernel_rfl
theorem f77_t (a0 : Int × Int × Int) (K : Int → Prop) (hK : ∀ y : Int, y = f77 a0 → K y) : RunF Try.prog f77_E f77_A 6 Try.f77 f77_e.doms f77_e.cods a0 K := by
  refine ⟨?_⟩
  rw [f77_run a0 K]
  have e : ∀ n : Int, f35 (n, -9, 9) = decide (-9 ≤ n ∧ n ≤ 9) := fun n => by simp [f35]
  simp only [e]
  refine br_two (fun h1 => hK _ ?_) fun h1 => br_two (fun h2 => hK _ ?_) fun h2 => br_two (fun h3 => hK _ ?_) fun h3 => br_two (fun h4 => hK _ ?_) fun h4 => hK _ ?_
  · simp only [Bool.not_eq_true', decide_eq_false_iff_not] at h1
    rw [f77, dirE, if_pos (fun h => h1 h.1)]
  · simp only [Bool.not_eq_true', decide_eq_false_iff_not] at h2
    rw [f77, dirE, if_pos (fun h => h2 h.2.1)]
  · simp only [Bool.not_eq_true', decide_eq_false_iff_not] at h3
    rw [f77, dirE, if_pos (fun h => h3 h.2.2)]
  · simp only [Bool.not_eq_false', decide_eq_true_iff] at h1 h2 h3
    rw [f77, dirE, if_neg (fun h => h ⟨h1, h2, h3⟩)]
    obtain ⟨x, y, z⟩ := a0
    simp at h4
    simp [h4]
  · simp only [Bool.not_eq_false', decide_eq_true_iff] at h1 h2 h3
    rw [f77, dirE, if_neg (fun h => h ⟨h1, h2, h3⟩)]
    obtain ⟨x, y, z⟩ := a0
    simp at h4
    rw [if_neg (by simpa using h4)]
theorem f77_fn : f77_e.fn = f77 := rfl
theorem f77_ok : EntryOK Try.prog 77 f77_e := by
  refine entryF progOK (EnvOK.cons f35_ok (EnvOK.nil)) (A := f77_A) (d := 6) Try.func77 rfl rfl rfl rfl (fun _ _ => trivial) fun x hpre => ?_
  exact f77_t x _ fun _ h => h.trans (congrFun f77_fn.symm _)
end Go.Proofs.Ytglijnhkdnhofaa
end

section
namespace Go.Proofs.Ytglijnhkdnhofaa
open Go Go.Pi Go.RowKit
set_option maxRecDepth 100000
set_option linter.unusedVariables false
set_option linter.unusedSimpArgs false

def f26 (l : List ((Int × Int × Int) × Int × Int)) : Int × Int := rdOf l
def f26_e : Entry := { doms := [(false, (.sl (.pair (.pair (.int .i64) (.pair (.int .i64) (.int .i64))) (.pair (.int .i64) (.int .i64)))))], cods := [(false, (.int .i64)), (false, (.int .i64))], pre := fun _ => True, fn := f26, uq := false, total := true }
def f26_E : Env := [(35, f35_e), (77, f77_e)]
def f26_A : Anns := { loops := [(1048576, { tms := [(0, .keep), (4, .data false (.int .i64))], obs := [], fz := [] })], own := [] }
theorem f26_run (a0 : List ((Int × Int × Int) × Int × Int)) (K : (Int × Int) → Prop) : runF Try.prog f26_E f26_A 6 Try.f26 f26_e.doms f26_e.cods a0 K =
    (br (lenOk (a0.length))
    (br (((a0.length) : Int) == 0)
    (K (0, 10))
    (br (lenOk (a0.length))
    (br (decide (((a0.length) : Int) > 6))
    (K (0, 8))
    (LoopP (V := Int × Unit) (fun again v => (fun (again1 : Int → Prop) (v1_0 : Int) =>
    br (lenOk (a0.length))
    (br (decide (v1_0 < ((a0.length) : Int)))
    (br (decide (0 ≤ v1_0) && decide (v1_0 < ((a0.length) : Int)))
    (br ((f77 (((a0.getD v1_0.toNat ((0, (0, 0)), (0, 0))).1).1, (((a0.getD v1_0.toNat ((0, (0, 0)), (0, 0))).1).2))) != 0)
    (K (v1_0, (f77 (((a0.getD v1_0.toNat ((0, (0, 0)), (0, 0))).1).1, (((a0.getD v1_0.toNat ((0, (0, 0)), (0, 0))).1).2)))))
    (br (decide (0 ≤ v1_0) && decide (v1_0 < ((a0.length) : Int)))
    (br (!(f35 (((a0.getD v1_0.toNat ((0, (0, 0)), (0, 0))).2).1, ((-10000), 10000))))
    (K (v1_0, 2))
    (br (decide (0 ≤ v1_0) && decide (v1_0 < ((a0.length) : Int)))
    (br (!(f35 (((a0.getD v1_0.toNat ((0, (0, 0)), (0, 0))).2).2, ((-10000), 10000))))
    (K (v1_0, 2))
    (br (decide (0 ≤ v1_0) && decide (v1_0 < ((a0.length) : Int)))
    (br (decide (0 ≤ v1_0) && decide (v1_0 < ((a0.length) : Int)))
    (br (decide (((a0.getD v1_0.toNat ((0, (0, 0)), (0, 0))).2).1 > ((a0.getD v1_0.toNat ((0, (0, 0)), (0, 0))).2).2))
    (K (v1_0, 9))
    (again1 (IntKind.i64.wrap (v1_0 + 1))))
    False)
    False))
    False))
    False))
    False)
    (K (0, 0)))
    True)
    (fun v1_0 => again (v1_0, ())) v.1) (0, ())))
    True))
    True) := by kernel_rfl
theorem f26_t (a0 : List ((Int × Int × Int) × Int × Int)) (K : (Int × Int) → Prop) (hK : ∀ y : Int × Int, y = f26 a0 → K y) : RunF Try.prog f26_E f26_A 6 Try.f26 f26_e.doms f26_e.cods a0 K := by
  refine ⟨?_⟩
  rw [f26_run a0 K]
  rw [br_true_, lenOk_iff]
  intro hl
  refine br_two (fun h => hK _ ?_) fun h => br_weak (br_if (fun h2 => hK _ ?_) fun h2 => ?_)
  · have h : a0.length = 0 := by have := beq_iff_eq.1 h; omega
    rw [f26, rdOf, if_pos h]
  · have h : ¬ a0.length = 0 := by have := beq_eq_false_iff_ne.1 h; omega
    rw [f26, rdOf, if_neg h, if_pos (by omega)]
  · have h0 : ¬ a0.length = 0 := by have := beq_eq_false_iff_ne.1 h; omega
    have h1 : ¬ a0.length > 6 := by omega
    refine each_loop (K := K) (n := a0.length) (e := fun i => rdE (a0.getD i rd0)) (hK _ (by rw [f26, rdOf, if_neg h0, if_neg h1])) (fun again i hi hI good bad fin => ?_)
    dsimp only
    refine br_weak (br_if (fun hlt => ?_) fun hlt => fin (by omega))
    have hlt : i < a0.length := by omega
    have b0 : (decide (0 ≤ (i : Int)) && decide ((i : Int) < (a0.length : Int))) = true := inb (by omega) (by omega)
    have e35 : ∀ n : Int, f35 (n, -10000, 10000) = decide (-10000 ≤ n ∧ n ≤ 10000) := fun n => by simp [f35]
    rw [wr (n := (i : Int) + 1) (by omega) (by omega), Int.toNat_natCast]
    generalize hx : a0.getD i ((0, 0, 0), 0, 0) = x at *
    have hx : a0.getD i rd0 = x := hx
    rw [hx] at good bad
    have hd : f77 x.1 = dirE x.1 := rfl
    refine br_must b0 (br_two (fun he => ?_) fun he => br_must b0 (br_two (fun h3 => ?_) fun h3 => br_must b0 (br_two (fun h4 => ?_) fun h4 => br_must b0 (br_must b0 (br_if (fun h5 => ?_) fun h5 => ?_)))))
    · have he : dirE x.1 ≠ 0 := bne_t.1 he
      have := bad hlt (by rw [rdE, if_pos he]; exact he)
      rwa [rdE, if_pos he] at this
    · have he : dirE x.1 = 0 := bne_f.1 he
      rw [e35] at h3
      have e : rdE x = 2 := by rw [rdE, if_neg (fun h => h he), rngE, if_pos (fun h => nd_t.1 h3 h.1)]
      have := bad hlt (by rw [e]; decide)
      rwa [e] at this
    · have he : dirE x.1 = 0 := bne_f.1 he
      rw [e35] at h4
      have e : rdE x = 2 := by rw [rdE, if_neg (fun h => h he), rngE, if_pos (fun h => nd_t.1 h4 h.2)]
      have := bad hlt (by rw [e]; decide)
      rwa [e] at this
    · have he : dirE x.1 = 0 := bne_f.1 he
      rw [e35] at h3 h4
      have e : rdE x = 9 := by rw [rdE, if_neg (fun h => h he), rngE, if_neg (fun h => h ⟨nd_f.1 h3, nd_f.1 h4⟩), if_neg (by omega)]
      have := bad hlt (by rw [e]; decide)
      rwa [e] at this
    · have he : dirE x.1 = 0 := bne_f.1 he
      rw [e35] at h3 h4
      have e : rdE x = 0 := by rw [rdE, if_neg (fun h => h he), rngE, if_neg (fun h => h ⟨nd_f.1 h3, nd_f.1 h4⟩), if_pos (by omega)]
      exact good hlt e
theorem f26_fn : f26_e.fn = f26 := rfl
theorem f26_ok : EntryOK Try.prog 26 f26_e := by
  refine entryF progOK (EnvOK.cons f35_ok (EnvOK.cons f77_ok (EnvOK.nil))) (A := f26_A) (d := 6) Try.func26 rfl rfl rfl rfl (fun _ _ => trivial) fun x hpre => ?_
  exact f26_t x _ fun _ h => h.trans (congrFun f26_fn.symm _)
end Go.Proofs.Ytglijnhkdnhofaa
end

section
namespace Go.Proofs.Ytglijnhkdnhofaa
open Go Go.Pi Go.RowKit
set_option maxRecDepth 100000
set_option linter.unusedVariables false
set_option linter.unusedSimpArgs false

def f78 (x : (Int × Int × Int) × Int × Int × Int) : Int × Int × Int := w3 (cross x.1 x.2)
def f78_e : Entry := { doms := [(true, (.pair (.int .i64) (.pair (.int .i64) (.int .i64)))), (true, (.pair (.int .i64) (.pair (.int .i64) (.int .i64))))], cods := [(true, (.pair (.int .i64) (.pair (.int .i64) (.int .i64))))], pre := fun _ => True, fn := f78, uq := false, total := true }
def f78_E : Env := []
def f78_A : Anns := { loops := [], own := [] }
theorem f78_run (a0 : Int × Int × Int) (a1 : Int × Int × Int) (K : (Int × Int × Int) → Prop) : runF Try.prog f78_E f78_A 6 Try.f78 f78_e.doms f78_e.cods (a0, a1) K =
    (K ((IntKind.i64.wrap ((IntKind.i64.wrap (a0.2.1 * a1.2.2)) - (IntKind.i64.wrap (a0.2.2 * a1.2.1)))), ((IntKind.i64.wrap ((IntKind.i64.wrap (a0.2.2 * a1.1)) - (IntKind.i64.wrap (a0.1 * a1.2.2)))), (IntKind.i64.wrap ((IntKind.i64.wrap (a0.1 * a1.2.1)) - (IntKind.i64.wrap (a0.2.1 * a1.1))))))) := by kernel_rfl
theorem f78_t (a0 : Int × Int × Int) (a1 : Int × Int × Int) (K : (Int × Int × Int) → Prop) (hK : ∀ y : Int × Int × Int, y = f78 (a0, a1) → K y) : RunF Try.prog f78_E f78_A 6 Try.f78 f78_e.doms f78_e.cods (a0, a1) K := by
  refine ⟨?_⟩
  rw [f78_run a0 a1 K]
  exact hK _ (by simp only [f78, w3, w64, cross, wrap_sub_l, wrap_sub_r])
theorem f78_fn : f78_e.fn = f78 := rfl
theorem f78_ok : EntryOK Try.prog 78 f78_e := by
  refine entryF progOK (EnvOK.nil) (A := f78_A) (d := 6) Try.func78 rfl rfl rfl rfl (fun _ _ => trivial) fun x hpre => ?_
  obtain ⟨a0, a1⟩ := x
  exact f78_t a0 a1 _ fun _ h => h.trans (congrFun f78_fn.symm _)
end Go.Proofs.Ytglijnhkdnhofaa
end

section
namespace Go.Proofs.Ytglijnhkdnhofaa
open Go Go.Pi Go.RowKit
set_option maxRecDepth 100000
set_option linter.unusedVariables false
set_option linter.unusedSimpArgs false

def f37 (x : (Int × Int × Int) × Int × Int × Int) : Int := w64 (dot x.1 x.2)
def f37_e : Entry := { doms := [(true, (.pair (.int .i64) (.pair (.int .i64) (.int .i64)))), (true, (.pair (.int .i64) (.pair (.int .i64) (.int .i64))))], cods := [(false, (.int .i64))], pre := fun _ => True, fn := f37, uq := false, total := true }
def f37_E : Env := []
def f37_A : Anns := { loops := [], own := [] }
theorem f37_run (a0 : Int × Int × Int) (a1 : Int × Int × Int) (K : Int → Prop) : runF Try.prog f37_E f37_A 6 Try.f37 f37_e.doms f37_e.cods (a0, a1) K =
    (K (IntKind.i64.wrap ((IntKind.i64.wrap ((IntKind.i64.wrap (a0.1 * a1.1)) + (IntKind.i64.wrap (a0.2.1 * a1.2.1)))) + (IntKind.i64.wrap (a0.2.2 * a1.2.2))))) := by kernel_rfl
theorem f37_t (a0 : Int × Int × Int) (a1 : Int × Int × Int) (K : Int → Prop) (hK : ∀ y : Int, y = f37 (a0, a1) → K y) : RunF Try.prog f37_E f37_A 6 Try.f37 f37_e.doms f37_e.cods (a0, a1) K := by
  refine ⟨?_⟩
  rw [f37_run a0 a1 K]
  exact hK _ (by simp only [f37, w64, dot, wrap_add_l, wrap_add_r])
theorem f37_fn : f37_e.fn = f37 := rfl
theorem f37_ok : EntryOK Try.prog 37 f37_e := by
  refine entryF progOK (EnvOK.nil) (A := f37_A) (d := 6) Try.func37 rfl rfl rfl rfl (fun _ _ => trivial) fun x hpre => ?_
  obtain ⟨a0, a1⟩ := x
  exact f37_t a0 a1 _ fun _ h => h.trans (congrFun f37_fn.symm _)
end Go.Proofs.Ytglijnhkdnhofaa
end
