/- What functions of the program compute, each proved once, part 9. -/
import Derived.Test.YtglokajinehbmaaGreatPiD
import Derived.Test.YtglokajinehbmaaGreatFnA
import Derived.Test.YtglokajinehbmaaGreatFnB
import Derived.Test.YtglokajinehbmaaGreatFnF
import Derived.Test.YtglokajinehbmaaGreatFnG
import Derived.Test.YtglokajinehbmaaGreatFnH

section
namespace Go.Proofs.YtglokajinehbmaaGreat
open Go Go.Pi Go.RowKit
set_option maxRecDepth 100000
set_option linter.unusedVariables false
set_option linter.unusedSimpArgs false

/-- The smaller cost of both orders of a pair. -/
def pairB (p : Prob) (a b : Int) : Option Int := match contL p [] [a, b], contL p [] [b, a] with
  | some x, some y => some (min (costF p x) (costF p y))
  | some x, none => some (costF p x)
  | none, some y => some (costF p y)
  | none, none => none
def f44 (x : ((List (List Int) × List (List Int)) × List (ByteArray × Int × Int × Int × Int) × List Int) × Int × Int) : Int × Bool := match pairB x.1 x.2.1 x.2.2 with
  | some n => (n, true)
  | none => (0, false)
def f44_pre (x : ((List (List Int) × List (List Int)) × List (ByteArray × Int × Int × Int × Int) × List Int) × Int × Int) : Prop := okP x.1 ∧ inA x.1 x.2.1 ∧ inA x.1 x.2.2
def cheapLeaf (p : Prob) (o : List Int) (s : Int × Bool × Unit) (K : Int × Bool × Unit → Prop) : Prop :=
  f78_pre (p, (([] : List (Int × Int)), o)) ∧
  br (f78 (p, (([] : List (Int × Int)), o))).2
  (f71_pre (p, (f78 (p, (([] : List (Int × Int)), o))).1) ∧
  br (!s.2.1)
  (K (f71 (p, (f78 (p, (([] : List (Int × Int)), o))).1), true, ()))
  (br (decide (f71 (p, (f78 (p, (([] : List (Int × Int)), o))).1) < s.1))
  (K (f71 (p, (f78 (p, (([] : List (Int × Int)), o))).1), true, ()))
  (K (s.1, s.2.1, ()))))
  (K (s.1, s.2.1, ()))
def cheapStep (p : Prob) (s : Int × Bool × Unit) (o : List Int) : Int × Bool × Unit := match contL p [] o with
  | some l => if s.2.1 = false ∨ costF p l < s.1 then (costF p l, true, ()) else s
  | none => s
theorem perms_two (a b : Int) : perms 2 [a, b] = [[a, b], [b, a]] := rfl
theorem cheap_two (p : Prob) (a b : Int) : ([[a, b], [b, a]].foldl (cheapStep p) (0, false, ())) = ((match pairB p a b with | some n => (n, true) | none => (0, false) : Int × Bool).1, (match pairB p a b with | some n => (n, true) | none => (0, false) : Int × Bool).2, ()) := by
  simp only [List.foldl_cons, List.foldl_nil, cheapStep, pairB]
  cases h1 : contL p [] [a, b] with
  | none =>
    cases h2 : contL p [] [b, a] with
    | none => rfl
    | some y => rfl
  | some x =>
    cases h2 : contL p [] [b, a] with
    | none => rfl
    | some y =>
      simp only [if_pos (show false = false ∨ costF p x < 0 from .inl rfl)]
      by_cases h : costF p y < costF p x
      · rw [if_pos (.inr h)]
        have : min (costF p x) (costF p y) = costF p y := by omega
        rw [this]
      · rw [if_neg (by rintro (h1 | h1); cases h1; exact h h1)]
        have : min (costF p x) (costF p y) = costF p x := by omega
        rw [this]
        simp
def f44_e : Entry := { doms := [(true, (.pair (.pair (.sl (.sl (.int .i64))) (.sl (.sl (.int .i64)))) (.pair (.sl (.pair .str (.pair (.int .i64) (.pair (.int .i64) (.pair (.int .i64) (.int .i64)))))) (.sl (.int .i64))))), (true, (.pair (.int .i64) (.int .i64)))], cods := [(false, (.int .i64)), (false, .bool)], pre := f44_pre, fn := f44, uq := false, total := false }
def f44_E : Env := [(71, f71_e), (78, f78_e), (118, f118_e), (119, f119_e), (56, f56_e)]
def f44_A : Anns := { loops := [(2017617031110590464, { tms := [(0, .keep), (1, .keep), (2, .keep), (16, .keep), (17, .keep), (18, .data false (.int .i64))], obs := [(1048576, .keep), (1048577, .keep), (1049600, .cells [.data (.int .i64)]), (1049601, .cells [.data .bool]), (1101660160000, .keep)], fz := [] }),
  (2115624796013826029912064, { tms := [(0, .keep), (1, .keep), (2, .keep), (16, .keep), (17, .keep), (18, .data false (.int .i64))], obs := [(1048576, .keep), (1048577, .keep), (1049600, .cells [.data (.int .i64)]), (1049601, .cells [.data .bool]), (1101660160000, .keep)], fz := [] }),
  (2218393386104993643148595953664, { tms := [(0, .keep), (1, .keep), (2, .keep), (16, .keep), (17, .keep), (18, .data false (.int .i64))], obs := [(1048576, .keep), (1048577, .keep), (1049600, .keep), (1049601, .keep), (1101660160000, .keep)], fz := [] })], own := [1048577] }
theorem f44_run (a0 : (List (List Int) × List (List Int)) × List (ByteArray × Int × Int × Int × Int) × List Int) (a1 : Int × Int) (K : (Int × Bool) → Prop) : runF Tryz.prog f44_E f44_A 4 Tryz.f44 f44_e.doms f44_e.cods (a0, a1) K =
    (growG (cheapLeaf a0) 2 [] [a1.1, a1.2] (0, false, ()) (fun s => K (s.1, s.2.1))) := by kernel_rfl
theorem f44_t (a0 : (List (List Int) × List (List Int)) × List (ByteArray × Int × Int × Int × Int) × List Int) (a1 : Int × Int) (hpre : f44_pre (a0, a1)) (K : (Int × Bool) → Prop) (hK : ∀ y : Int × Bool, y = f44 (a0, a1) → K y) : RunF Tryz.prog f44_E f44_A 4 Tryz.f44 f44_e.doms f44_e.cods (a0, a1) K := by
  refine ⟨?_⟩
  rw [f44_run a0 a1 K]
  obtain ⟨hok, ha, hb⟩ := hpre
  simp only at hok ha hb
  have hv := hok.v
  refine growG_ok (inA a0) (fun done s => s = done.foldl (cheapStep a0) (0, false, ())) (fun done o s K hI ho hl hK => ?_) 2 _ _ _ _ [] (by simp) (fun a ha => (by cases ha)) (fun a h => ?_) (by simp) rfl (fun s' e => hK _ ?_)
  · have e : f78 (a0, ([], o)) = contF a0 [] o := rfl
    have hstep := hK (cheapStep a0 s o) (by rw [List.foldl_append, ← hI]; rfl)
    unfold cheapLeaf
    rw [e]
    refine ⟨⟨hok, ⟨fun s hs => (by cases hs), Nat.zero_le _⟩, ho, show o.length ≤ 1000 by omega⟩, ?_⟩
    unfold cheapStep at hstep
    unfold contF
    cases hc : contL a0 [] o with
    | none =>
      rw [hc] at hstep
      exact hstep
    | some l =>
      rw [hc] at hstep
      simp only at hstep
      obtain ⟨v1, v2⟩ := contL_ok hv o [] (fun s hs => (by cases hs)) ho l hc
      refine ⟨⟨hok, v1, show l.length ≤ 1000 by simp at v2; omega⟩, ?_⟩
      have e90 : f71 (a0, l) = costF a0 l := rfl
      simp only [e90]
      obtain ⟨le, fo, u⟩ := s
      cases fo with
      | false =>
        rw [if_pos (.inl rfl)] at hstep
        exact hstep
      | true =>
        simp only [Bool.not_true, br_f]
        rw [br_dec]
        refine ⟨fun h => ?_, fun h => ?_⟩
        · rw [if_pos (.inr h)] at hstep
          exact hstep
        · rw [if_neg (by rintro (h1 | h1); cases h1; exact h h1)] at hstep
          exact hstep
  · rcases List.mem_cons.1 h with rfl | h
    · exact ha
    · simp only [List.mem_singleton] at h
      rw [h]
      exact hb
  · have e2 := cheap_two a0 a1.1 a1.2
    have e3 : ([] : List (List Int)) ++ (perms 2 [a1.1, a1.2]).map (([] : List Int) ++ ·) = [[a1.1, a1.2], [a1.2, a1.1]] := rfl
    rw [e3, e2] at e
    rw [e]
    rfl
theorem f44_fn : f44_e.fn = f44 := rfl
theorem f44_ok : EntryOK Tryz.prog 44 f44_e := by
  refine entryF progOK (EnvOK.cons f71_ok (EnvOK.cons f78_ok (EnvOK.cons f118_ok (EnvOK.cons f119_ok (EnvOK.cons f56_ok (EnvOK.nil)))))) (A := f44_A) (d := 4) Tryz.func44 rfl rfl rfl rfl (fun h => by cases h) fun x hpre => ?_
  obtain ⟨a0, a1⟩ := x
  exact f44_t a0 a1 hpre _ fun _ h => h.trans (congrFun f44_fn.symm _)
end Go.Proofs.YtglokajinehbmaaGreat
end

section
namespace Go.Proofs.YtglokajinehbmaaGreat
set_option linter.unusedVariables false
set_option linter.unusedSimpArgs false
open Go Go.Pi
abbrev Prs := List (Int × Int)
def cst (p : Prob) (a b : Int) : Int := (pairB p a b).getD 0
def boundF (p : Prob) (l : Prs) : Int := l.foldl (fun n x => n + cst p x.1 x.2) 0
theorem boundF_snoc (p : Prob) (l : Prs) (x : Int × Int) : boundF p (l ++ [x]) = boundF p l + cst p x.1 x.2 := by
  unfold boundF
  rw [List.foldl_append]
  rfl
def usedB (l : Prs) (n : Int) : Bool := l.any fun o => o.1 == n || o.2 == n
def freeB (l : Prs) (a b : Int) : Bool := !usedB l a && !usedB l b
def matchL (count : Nat) : Nat → Nat → Prs → List Prs
  | 0, _, begun => [begun]
  | n + 1, from_, begun => begun :: (List.range count).flatMap fun a => if a < from_ then [] else (List.range count).flatMap fun b =>
      if a < b ∧ freeB begun a b = true then matchL count n (a + 1) (begun ++ [((a : Int), (b : Int))]) else []
def rowTo (count n : Nat) (begun : Prs) (a k : Nat) : List Prs := (List.range k).flatMap fun b =>
  if a < b ∧ freeB begun a b = true then matchL count n (a + 1) (begun ++ [((a : Int), (b : Int))]) else []
def colTo (count n from_ : Nat) (begun : Prs) (i : Nat) : List Prs := (List.range i).flatMap fun a => if a < from_ then [] else rowTo count n begun a count
theorem matchL_succ (count n from_ : Nat) (begun : Prs) : matchL count (n + 1) from_ begun = begun :: colTo count n from_ begun count := rfl
theorem rowTo_succ (count n : Nat) (begun : Prs) (a k : Nat) : rowTo count n begun a (k + 1) = rowTo count n begun a k ++ (if a < k ∧ freeB begun a k = true then matchL count n (a + 1) (begun ++ [((a : Int), (k : Int))]) else []) := by
  simp [rowTo, List.range_succ]
theorem colTo_succ (count n from_ : Nat) (begun : Prs) (i : Nat) : colTo count n from_ begun (i + 1) = colTo count n from_ begun i ++ (if i < from_ then [] else rowTo count n begun i count) := by
  simp [colTo, List.range_succ]
theorem rowTo_low (count n : Nat) (begun : Prs) (a : Nat) : ∀ k, k ≤ a + 1 → rowTo count n begun a k = []
  | 0, _ => rfl
  | k + 1, h => by
    rw [rowTo_succ, rowTo_low count n begun a k (by omega), if_neg (fun hh => by omega)]
    rfl
theorem colTo_low (count n from_ : Nat) (begun : Prs) : ∀ i, i ≤ from_ → colTo count n from_ begun i = []
  | 0, _ => rfl
  | i + 1, h => by
    rw [colTo_succ, colTo_low count n from_ begun i (by omega), if_pos (by omega)]
    rfl
theorem matchL_end (count n from_ : Nat) (begun : Prs) (h : count ≤ from_) : matchL count n from_ begun = [begun] := by
  cases n with
  | zero => rfl
  | succ n => rw [matchL_succ, colTo_low count n from_ begun count h]
/-- Pairs that begin as said: each of two arrivals, none of them twice. -/
def comps (l : Prs) : List Int := l.flatMap fun x => [x.1, x.2]
theorem comps_snoc (l : Prs) (x : Int × Int) : comps (l ++ [x]) = comps l ++ [x.1, x.2] := by simp [comps]
theorem comps_len : ∀ l : Prs, (comps l).length = 2 * l.length
  | [] => rfl
  | x :: r => by
    have := comps_len r
    simp only [comps, List.flatMap_cons, List.length_append, List.length_cons, List.length_nil] at this ⊢
    omega
theorem usedB_iff {l : Prs} {n : Int} : usedB l n = true ↔ n ∈ comps l := by
  unfold usedB comps
  simp only [List.any_eq_true, List.mem_flatMap, List.mem_cons, List.not_mem_nil, or_false, Bool.or_eq_true, beq_iff_eq]
  constructor
  · rintro ⟨x, hx, h | h⟩
    · exact ⟨x, hx, .inl h.symm⟩
    · exact ⟨x, hx, .inr h.symm⟩
  · rintro ⟨x, hx, h | h⟩
    · exact ⟨x, hx, .inl h.symm⟩
    · exact ⟨x, hx, .inr h.symm⟩
theorem freeB_iff {l : Prs} {a b : Int} : freeB l a b = true ↔ a ∉ comps l ∧ b ∉ comps l := by
  unfold freeB
  rw [Bool.and_eq_true, Pi.not_true, Pi.not_true, ← Bool.not_eq_true, ← Bool.not_eq_true, usedB_iff, usedB_iff]
structure PrsV (count : Nat) (l : Prs) : Prop where
  nd : (comps l).Nodup
  rng : ∀ x ∈ comps l, 0 ≤ x ∧ x < count
theorem PrsV.snoc {count : Nat} {l : Prs} (h : PrsV count l) {a b : Nat} (hab : a < b) (hb : b < count) (hf : freeB l a b = true) : PrsV count (l ++ [((a : Int), (b : Int))]) := by
  obtain ⟨h1, h2⟩ := freeB_iff.1 hf
  refine ⟨?_, fun x hx => ?_⟩
  · rw [comps_snoc]
    refine List.nodup_append.2 ⟨h.nd, ?_, fun x hx y hy e => ?_⟩
    · refine List.nodup_cons.2 ⟨fun hh => ?_, List.nodup_cons.2 ⟨fun hh => (by cases hh), List.nodup_nil⟩⟩
      simp only [List.mem_singleton] at hh
      omega
    · subst e
      simp only [List.mem_cons, List.not_mem_nil, or_false] at hy
      rcases hy with rfl | rfl
      · exact h1 hx
      · exact h2 hx
  · rw [comps_snoc] at hx
    rcases List.mem_append.1 hx with hx | hx
    · exact h.rng x hx
    · simp only [List.mem_cons, List.not_mem_nil, or_false] at hx
      rcases hx with rfl | rfl <;> omega
theorem PrsV.len {count : Nat} {l : Prs} (h : PrsV count l) : 2 * l.length ≤ count := by
  have h1 : (comps l).length ≤ ((List.range count).map fun (j : Nat) => (j : Int)).length := List.Nodup.length_le_of_subset h.nd fun x hx => by
    obtain ⟨a, b⟩ := h.rng x hx
    exact List.mem_map.2 ⟨x.toNat, List.mem_range.2 (by omega), by omega⟩
  rw [comps_len, List.length_map, List.length_range] at h1
  exact h1
def mStep (p : Prob) (s : Prs × Int) (l : Prs) : Prs × Int := if boundF p l > s.2 then (l, boundF p l) else s
theorem cst_in {p : Prob} (hok : okP p) {a b : Int} (ha : inA p a) (hb : inA p b) : -20000000 ≤ cst p a b ∧ cst p a b ≤ 20000000 := by
  have hv := hok.v
  have one : ∀ x y : Int, inA p x → inA p y → ∀ l, contL p [] [x, y] = some l → -20000000 ≤ costF p l ∧ costF p l ≤ 20000000 := fun x y hx hy l hl => by
    obtain ⟨v1, v2⟩ := contL_ok hv [x, y] [] (fun s hs => (by cases hs)) (fun z hz => by
      rcases List.mem_cons.1 hz with rfl | hz
      · exact hx
      · simp only [List.mem_singleton] at hz
        rw [hz]; exact hy) l hl
    have h := costF_in hv v1 l.length (Nat.le_refl _)
    rw [List.take_length] at h
    simp only [List.length_cons, List.length_nil] at v2
    omega
  unfold cst pairB
  cases h1 : contL p [] [a, b] with
  | none =>
    cases h2 : contL p [] [b, a] with
    | none =>
      show -20000000 ≤ (0 : Int) ∧ (0 : Int) ≤ 20000000
      omega
    | some y => exact one b a hb ha y h2
  | some x =>
    have g1 := one a b ha hb x h1
    cases h2 : contL p [] [b, a] with
    | none => exact g1
    | some y =>
      have g2 := one b a hb ha y h2
      simp only [Option.getD_some]
      omega
theorem boundF_in {p : Prob} (hok : okP p) : ∀ (l : Prs), (∀ x ∈ l, inA p x.1 ∧ inA p x.2) → ∀ i, i ≤ l.length → -20000000 * (i : Int) ≤ boundF p (l.take i) ∧ boundF p (l.take i) ≤ 20000000 * (i : Int)
  | l, h, 0, _ => by simp [boundF]
  | l, h, i + 1, hi => by
    have ih := boundF_in hok l h i (by omega)
    have e : l.take (i + 1) = l.take i ++ [l[i]] := by rw [List.take_add_one, List.getElem?_eq_getElem hi]; rfl
    have hx := h l[i] (List.getElem_mem _)
    have hc := cst_in hok hx.1 hx.2
    rw [e, boundF_snoc]
    omega
theorem PrsV.inA {p : Prob} {l : Prs} (h : PrsV p.2.1.length l) : ∀ x ∈ l, inA p x.1 ∧ inA p x.2 := fun x hx =>
  ⟨h.rng x.1 (List.mem_flatMap.2 ⟨x, hx, by simp⟩), h.rng x.2 (List.mem_flatMap.2 ⟨x, hx, by simp⟩)⟩
theorem PrsV.bound {p : Prob} (hok : okP p) {l : Prs} (h : PrsV p.2.1.length l) : -100000000 ≤ boundF p l ∧ boundF p l ≤ 100000000 := by
  have := boundF_in hok l h.inA l.length (Nat.le_refl _)
  rw [List.take_length] at this
  have := h.len
  have := hok.v.six
  omega
end Go.Proofs.YtglokajinehbmaaGreat
end
