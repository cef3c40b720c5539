/- What functions of the program compute, each proved once, part 10. -/
import Derived.Test.YtglokajinehbmaaGreatPiD
import Derived.Test.YtglokajinehbmaaGreatFnA
import Derived.Test.YtglokajinehbmaaGreatFnI
import Derived.Test.YtglokajinehbmaaGreatFnF
import Derived.Test.YtglokajinehbmaaGreatFnB

namespace Go.Proofs.YtglokajinehbmaaGreat
open Go Go.Pi Go.RowKit
set_option maxRecDepth 100000
set_option linter.unusedVariables false
set_option linter.unusedSimpArgs false

theorem mget_mput2 (k k' : Int × Int) (x : Int) : ∀ M : List ((Int × Int) × Int), mget (.pair (.int .i64) (.int .i64)) (.int .i64) (mput (.pair (.int .i64) (.int .i64)) (.int .i64) M k x) k' = if k = k' then some x else mget (.pair (.int .i64) (.int .i64)) (.int .i64) M k'
  | [] => by
    obtain ⟨a, b⟩ := k
    obtain ⟨c, d⟩ := k'
    simp only [mput, mget, Sch.eqb]
    by_cases h1 : a = c <;> by_cases h2 : b = d
    · subst h1 h2; simp
    · simp [h1, h2]; rw [beq_eq_false_iff_ne.2 (fun e => h2 e.symm)]
    · simp [h1, h2]; rw [beq_eq_false_iff_ne.2 (fun e => h1 e.symm)]
    · simp [h1, h2]; rw [beq_eq_false_iff_ne.2 (fun e => h1 e.symm)]; simp
  | y :: r => by
    have ih := mget_mput2 k k' x r
    simp only [mput]
    cases hy : (Sch.pair (.int .i64) (.int .i64)).eqb k y.1 with
    | true =>
      have e : k = y.1 := by
        simp only [Sch.eqb, Bool.and_eq_true, beq_iff_eq] at hy
        exact Prod.ext hy.1 hy.2
      simp only [mget]
      cases hk : (Sch.pair (.int .i64) (.int .i64)).eqb k' k with
      | true =>
        have e2 : k = k' := by
          simp only [Sch.eqb, Bool.and_eq_true, beq_iff_eq] at hk
          exact (Prod.ext hk.1 hk.2).symm
        simp [e2]
      | false =>
        have e2 : ¬ k = k' := fun e2 => by
          subst e2
          simp [Sch.eqb] at hk
        rw [if_neg e2, ← e, hk]
    | false =>
      simp only [mget]
      rw [ih]
      cases hk : (Sch.pair (.int .i64) (.int .i64)).eqb k' y.1 with
      | true =>
        have e2 : ¬ k = k' := fun e2 => by
          subst e2
          rw [hy] at hk
          cases hk
        simp only [if_neg e2]
      | false => rfl
abbrev MS := Int × Prs × Int × Unit
def mFind (begun : Prs) (n : Int) (A : Bool → Prop) (B : Prop) : Prop := br (lenOk begun.length) (LoopP (V := Int × Unit) (fun again v =>
  br (decide (v.1 < (begun.length : Int))) (br (decide (0 ≤ v.1) && decide (v.1 < (begun.length : Int)))
    (br ((begun.getD v.1.toNat (0, 0)).1 == n) (A (!(decide (v.1 ≥ 0)))) (br ((begun.getD v.1.toNat (0, 0)).2 == n) (A (!(decide (v.1 ≥ 0)))) (again (IntKind.i64.wrap (v.1 + 1), ())))) False) B) (0, ())) True
def mFree (begun : Prs) (i k : Int) (J : Bool → Prop) : Prop := mFind begun i (fun b => br b (mFind begun k J (J true)) (J false)) (mFind begun k J (J true))
def mCmp (begun : Prs) (bound : Int) (s : MS) (J : MS → Prop) : Prop := br (decide (bound > s.2.2.1)) (f80_pre begun ∧ J (s.1, f80 begun, bound, ())) (J (s.1, s.2.1, s.2.2.1, ()))
def mGo (M : List ((Int × Int) × Int)) : Nat → Prs → Int → Int → MS → (MS → Prop) → Prop
  | 0, begun, from_, bound, s, K => JoinQ (V := MS) (fun J => mCmp begun bound s J) (fun s => LoopP (V := Int × Unit) (fun again v => br (decide (v.1 < s.1))
      (LoopP (V := Int × Unit) (fun again2 w => br (decide (w.1 < s.1)) False (again (IntKind.i64.wrap (v.1 + 1), ()))) (IntKind.i64.wrap (v.1 + 1), ())) (K s)) (from_, ()))
  | 1, begun, from_, bound, s, K => JoinQ (V := MS) (fun J => mCmp begun bound s J) (fun s => LoopP (V := Int × MS) (fun again v => br (decide (v.1 < v.2.1))
      (LoopP (V := Int × MS) (fun again2 w => br (decide (w.1 < w.2.1))
        (br (lenOk begun.length) (LoopP (V := Int × Unit) (fun again3 x => br (decide (x.1 < (begun.length : Int))) (br (decide (0 ≤ x.1) && decide (x.1 < (begun.length : Int))) False False)
          (br (lenOk begun.length) (LoopP (V := Int × Unit) (fun again4 y => br (decide (y.1 < (begun.length : Int))) (br (decide (0 ≤ y.1) && decide (y.1 < (begun.length : Int))) False False)
            (br (roomOk ((f84 begun).length + 1) 16) (mGo M 0 (f84 begun ++ [(v.1, w.1)]) (IntKind.i64.wrap (v.1 + 1)) (IntKind.i64.wrap (bound + ((mget (.pair (.int .i64) (.int .i64)) (.int .i64) M (v.1, w.1)).getD 0))) w.2 (fun s => again2 (IntKind.i64.wrap (w.1 + 1), s))) False)) (0, ())) True)) (0, ())) True)
        (again (IntKind.i64.wrap (v.1 + 1), w.2))) (IntKind.i64.wrap (v.1 + 1), v.2)) (K v.2)) (from_, s))
  | n + 2, begun, from_, bound, s, K => JoinQ (V := MS) (fun J => mCmp begun bound s J) (fun s => LoopP (V := Int × MS) (fun again v => br (decide (v.1 < v.2.1))
      (LoopP (V := Int × MS) (fun again2 w => br (decide (w.1 < w.2.1))
        (JoinQ (V := Bool × Unit) (fun J => mFree begun v.1 w.1 (fun b => J (b, ()))) (fun b => br b.1
          (br (roomOk ((f84 begun).length + 1) 16) (mGo M (n + 1) (f84 begun ++ [(v.1, w.1)]) (IntKind.i64.wrap (v.1 + 1)) (IntKind.i64.wrap (bound + ((mget (.pair (.int .i64) (.int .i64)) (.int .i64) M (v.1, w.1)).getD 0))) w.2 (fun s => again2 (IntKind.i64.wrap (w.1 + 1), s))) False)
          (again2 (IntKind.i64.wrap (w.1 + 1), w.2))))
        (again (IntKind.i64.wrap (v.1 + 1), w.2))) (IntKind.i64.wrap (v.1 + 1), v.2)) (K v.2)) (from_, s))
theorem mFind_ok {begun : Prs} {n : Int} {A : Bool → Prop} {B : Prop} (hl : begun.length ≤ 1000) (hA : usedB begun n = true → A false) (hB : usedB begun n = false → B) : mFind begun n A B := by
  unfold mFind
  rw [br_true_]
  intro _
  refine LoopP.of (fun q : Int × Unit => ∃ i : Nat, i ≤ begun.length ∧ q.1 = (i : Int) ∧ ∀ x ∈ begun.take i, (x.1 == n || x.2 == n) = false) (fun q => ((begun.length : Int) - q.1).toNat) (fun again q hq hag => ?_) ⟨0, by omega, rfl, by simp⟩
  obtain ⟨ii, u⟩ := q
  obtain ⟨i, hi, e, hI⟩ := hq
  simp only at e
  subst e
  dsimp only
  rw [br_dec]
  refine ⟨fun hlt => ?_, fun hlt => hB ?_⟩
  · have hlt : i < begun.length := by omega
    have hm : begun.getD i (0, 0) ∈ begun := by rw [getD_lt hlt]; exact List.getElem_mem _
    rw [br_false_]
    refine ⟨inb (by omega) (by omega), ?_⟩
    rw [Int.toNat_natCast, decide_eq_true (show (i : Int) ≥ 0 by omega), wr (n := (i : Int) + 1) (by omega) (by omega), br_both]
    refine ⟨fun h => hA (List.any_eq_true.2 ⟨_, hm, by rw [h]; rfl⟩), fun h1 => ?_⟩
    rw [br_both]
    refine ⟨fun h => hA (List.any_eq_true.2 ⟨_, hm, by rw [h, Bool.or_true]⟩), fun h2 => hag (_, ()) ⟨i + 1, by omega, by simp only; omega, fun x hx => ?_⟩ (by simp only; omega)⟩
    rw [List.take_add_one, List.getElem?_eq_getElem hlt] at hx
    rcases List.mem_append.1 hx with hx | hx
    · exact hI x hx
    · simp only [Option.toList_some, List.mem_singleton] at hx
      rw [hx, ← getD_lt (d := (0, 0)) hlt, h1, h2]
      rfl
  · have : i = begun.length := by omega
    subst this
    rw [List.take_length] at hI
    exact List.any_eq_false.2 fun x hx => by rw [hI x hx]; decide
theorem mFree_ok {begun : Prs} {i k : Int} {J : Bool → Prop} (hl : begun.length ≤ 1000) (hJ : J (freeB begun i k)) : mFree begun i k J := by
  unfold mFree
  unfold freeB at hJ
  have two : usedB begun i = false → mFind begun k J (J true) := fun h => mFind_ok hl (fun h2 => by rw [h, h2] at hJ; exact hJ) (fun h2 => by rw [h, h2] at hJ; exact hJ)
  refine mFind_ok hl (fun h => ?_) two
  rw [h] at hJ
  exact hJ
theorem matchL_cons {count f from_ : Nat} {begun : Prs} (h : count ≤ f + from_) : matchL count f from_ begun = begun :: colTo count (f - 1) from_ begun count := by
  cases f with
  | zero => rw [matchL_end _ _ _ _ (by omega), colTo_low _ _ _ _ _ (by omega)]
  | succ f => rfl
theorem mGo_step {p : Prob} {M : List ((Int × Int) × Int)} (hok : okP p) (hM : ∀ a b : Nat, a < b → b < p.2.1.length → mget (.pair (.int .i64) (.int .i64)) (.int .i64) M ((a : Int), (b : Int)) = some (cst p a b))
    (n f : Nat) (begun : Prs) (from_ : Nat) (s : Prs × Int) (K : MS → Prop) (hn : begun.length + n = 3) (hP : PrsV p.2.1.length begun) (hf : from_ ≤ p.2.1.length) (hff : p.2.1.length ≤ f + from_)
    (rec_ : ∀ i k : Nat, i < k → k < p.2.1.length → freeB begun i k = true → ∀ (s' : Prs × Int) (K' : MS → Prop), from_ ≤ i →
      (∀ r : Prs × Int, r = (matchL p.2.1.length (f - 1) (i + 1) (begun ++ [((i : Int), (k : Int))])).foldl (mStep p) s' → K' ((p.2.1.length : Int), r.1, r.2, ())) → mGo M (n + 1) (begun ++ [((i : Int), (k : Int))]) ((i + 1 : Nat) : Int) (boundF p (begun ++ [((i : Int), (k : Int))])) ((p.2.1.length : Int), s'.1, s'.2, ()) K')
    (hK : ∀ r : Prs × Int, r = (matchL p.2.1.length f from_ begun).foldl (mStep p) s → K ((p.2.1.length : Int), r.1, r.2, ())) : mGo M (n + 2) begun from_ (boundF p begun) ((p.2.1.length : Int), s.1, s.2, ()) K := by
  have h6 := hok.v.six
  have hl := hP.len
  rw [matchL_cons hff, List.foldl_cons] at hK
  unfold mGo
  refine JoinQ.use (fun v : MS => v = ((p.2.1.length : Int), (mStep p s begun).1, (mStep p s begun).2, ())) (fun J hJ => ?_) (fun v hv => ?_)
  · unfold mCmp
    have e114 : f80 begun = begun := rfl
    rw [e114, br_dec]
    refine ⟨fun h => ⟨show begun.length ≤ 1048576 by omega, hJ _ ?_⟩, fun h => hJ _ ?_⟩
    · rw [mStep, if_pos h]
    · rw [mStep, if_neg h]
  · subst hv
    generalize mStep p s begun = s1 at *
    refine LoopP.of (fun q : Int × MS => ∃ i : Nat, (from_ ≤ i ∧ i ≤ p.2.1.length) ∧ q.1 = (i : Int) ∧ q.2 = ((p.2.1.length : Int), ((colTo p.2.1.length (f - 1) from_ begun i).foldl (mStep p) s1).1, ((colTo p.2.1.length (f - 1) from_ begun i).foldl (mStep p) s1).2, ())) (fun q => ((p.2.1.length : Int) - q.1).toNat) (fun again q hq hag => ?_) ⟨from_, ⟨Nat.le_refl _, hf⟩, rfl, by rw [colTo_low _ _ _ _ _ (Nat.le_refl _)]; rfl⟩
    obtain ⟨ii, st⟩ := q
    obtain ⟨i, hi, e1, e2⟩ := hq
    simp only at e1 e2
    subst e1 e2
    dsimp only
    rw [br_dec]
    refine ⟨fun hlt => ?_, fun hlt => ?_⟩
    · have hlt : i < p.2.1.length := by omega
      rw [wr (n := (i : Int) + 1) (by omega) (by omega)]
      refine LoopP.of (fun q : Int × MS => ∃ k : Nat, (i + 1 ≤ k ∧ k ≤ p.2.1.length) ∧ q.1 = (k : Int) ∧ q.2 = ((p.2.1.length : Int), ((rowTo p.2.1.length (f - 1) begun i k).foldl (mStep p) ((colTo p.2.1.length (f - 1) from_ begun i).foldl (mStep p) s1)).1, ((rowTo p.2.1.length (f - 1) begun i k).foldl (mStep p) ((colTo p.2.1.length (f - 1) from_ begun i).foldl (mStep p) s1)).2, ())) (fun q => ((p.2.1.length : Int) - q.1).toNat) (fun again2 q hq hag2 => ?_) ⟨i + 1, ⟨Nat.le_refl _, hlt⟩, by simp only; omega, by rw [rowTo_low _ _ _ _ _ (Nat.le_refl _)]; rfl⟩
      obtain ⟨kk, st⟩ := q
      obtain ⟨k, hk, e1, e2⟩ := hq
      simp only at e1 e2
      subst e1 e2
      dsimp only
      rw [br_dec]
      refine ⟨fun hlt2 => ?_, fun hlt2 => ?_⟩
      · have hlt2 : k < p.2.1.length := by omega
        rw [wr (n := (k : Int) + 1) (by omega) (by omega)]
        have hrow := rowTo_succ p.2.1.length (f - 1) begun i k
        refine JoinQ.use (fun b : Bool × Unit => b.1 = freeB begun i k) (fun J hJ => mFree_ok (by omega) (hJ _ rfl)) (fun b hb => ?_)
        rw [hb, br_both]
        refine ⟨fun hfr => ?_, fun hfr => ?_⟩
        · rw [if_pos ⟨by omega, hfr⟩] at hrow
          have e118 : f84 begun = begun := rfl
          have hb1 := hP.bound hok
          have hb2 := (hP.snoc (show i < k by omega) hlt2 hfr).bound hok
          have hbs := boundF_snoc p begun ((i : Int), (k : Int))
          simp only at hbs
          rw [br_false_, roomOk_iff, e118, hM i k (by omega) hlt2, Option.getD_some, ← hbs, wr (n := boundF p _) (by omega) (by omega), show (i : Int) + 1 = ((i + 1 : Nat) : Int) by omega]
          refine ⟨by omega, rec_ i k (by omega) hlt2 hfr _ _ hi.1 fun r hr => hag2 _ ⟨k + 1, by omega, by simp only; omega, ?_⟩ (by simp only; omega)⟩
          simp only
          rw [hrow, List.foldl_append, hr]
        · rw [if_neg (fun hh => by rw [hfr] at hh; cases hh.2), List.append_nil] at hrow
          exact hag2 _ ⟨k + 1, by omega, by simp only; omega, by simp only; rw [hrow]⟩ (by simp only; omega)
      · have : k = p.2.1.length := by omega
        subst this
        have hcol := colTo_succ p.2.1.length (f - 1) from_ begun i
        rw [if_neg (by omega)] at hcol
        exact hag _ ⟨i + 1, by omega, by simp only; omega, by simp only; rw [hcol, List.foldl_append]⟩ (by simp only; omega)
    · have : i = p.2.1.length := by omega
      subst this
      exact hK _ rfl
theorem mGo_ok {p : Prob} {M : List ((Int × Int) × Int)} (hok : okP p) (hM : ∀ a b : Nat, a < b → b < p.2.1.length → mget (.pair (.int .i64) (.int .i64)) (.int .i64) M ((a : Int), (b : Int)) = some (cst p a b)) :
    ∀ (n f : Nat) (begun : Prs) (from_ : Nat) (s : Prs × Int) (K : MS → Prop), begun.length + n = 3 → PrsV p.2.1.length begun → from_ ≤ p.2.1.length → p.2.1.length ≤ f + from_ →
      (∀ r : Prs × Int, r = (matchL p.2.1.length f from_ begun).foldl (mStep p) s → K ((p.2.1.length : Int), r.1, r.2, ())) → mGo M (n + 2) begun from_ (boundF p begun) ((p.2.1.length : Int), s.1, s.2, ()) K := by
  intro n
  induction n with
  | zero =>
    intro f begun from_ s K hn hP hf hff hK
    exact mGo_step hok hM 0 f begun from_ s K hn hP hf hff (fun i k hik hk hfree => by
      have := (hP.snoc hik hk hfree).len
      rw [List.length_append, List.length_singleton] at this
      have := hok.v.six
      omega) hK
  | succ n ih =>
    intro f begun from_ s K hn hP hf hff hK
    exact mGo_step hok hM (n + 1) f begun from_ s K hn hP hf hff (fun i k hik hk hfree s' K' hfi hK' => by
      have hP' := hP.snoc hik hk hfree
      refine ih (f - 1) _ (i + 1) s' K' ?_ hP' (by omega) (by omega) hK'
      rw [List.length_append, List.length_singleton]
      omega) hK
def costsOk (p : Prob) : Prop := ∀ i, i < p.2.1.length → ∀ k, k < i → (pairB p k i).isSome = true
instance (p : Prob) : Decidable (costsOk p) := by unfold costsOk; infer_instance
/-- The best pairs, and their bound. -/
def bestM (p : Prob) : Prs × Int := (matchL p.2.1.length 7 0 []).foldl (mStep p) ([], 0)
def f10 (p : (List (List Int) × List (List Int)) × List (ByteArray × Int × Int × Int × Int) × List Int) : List (Int × Int) × Int × Int :=
  if (probOf p).2 ≠ 0 then ([], 0, (probOf p).2) else if costsOk p then ((bestM p).1, (bestM p).2, 0) else ([], 0, 12)
def f10_pre (p : (List (List Int) × List (List Int)) × List (ByteArray × Int × Int × Int × Int) × List Int) : Prop := f76_pre p
/-- What follows once all pairs have their costs. -/
def mTop (M : List ((Int × Int) × Int)) (n : Int) (K : MS → Prop) : Prop := LoopP (V := Int × MS) (fun again v => br (decide (v.1 < v.2.1))
  (LoopP (V := Int × MS) (fun again2 w => br (decide (w.1 < w.2.1))
    (LoopP (V := Int × Unit) (fun again3 x => br (decide (x.1 < 0)) False (LoopP (V := Int × Unit) (fun again4 y => br (decide (y.1 < 0)) False
      (br (roomOk ((f84 []).length + 1) 16) (mGo M 4 (f84 [] ++ [(v.1, w.1)]) (IntKind.i64.wrap (v.1 + 1)) (IntKind.i64.wrap (0 + ((mget (.pair (.int .i64) (.int .i64)) (.int .i64) M (v.1, w.1)).getD 0))) w.2 (fun s => again2 (IntKind.i64.wrap (w.1 + 1), s))) False)) (0, ()))) (0, ()))
    (again (IntKind.i64.wrap (v.1 + 1), w.2))) (IntKind.i64.wrap (v.1 + 1), v.2)) (K v.2)) (0, (n, [], 0, ()))
theorem mTop_ok {p : Prob} {M : List ((Int × Int) × Int)} {K : MS → Prop} (hok : okP p) (hM : ∀ a b : Nat, a < b → b < p.2.1.length → mget (.pair (.int .i64) (.int .i64)) (.int .i64) M ((a : Int), (b : Int)) = some (cst p a b))
    (hK : K ((p.2.1.length : Int), (bestM p).1, (bestM p).2, ())) : mTop M (p.2.1.length : Int) K := by
  have h6 := hok.v.six
  have h0 : PrsV p.2.1.length [] := ⟨List.nodup_nil, fun x hx => by cases hx⟩
  have hb0 : bestM p = (colTo p.2.1.length 6 0 [] p.2.1.length).foldl (mStep p) ([], 0) := rfl
  rw [hb0] at hK
  unfold mTop
  refine LoopP.of (fun q : Int × MS => ∃ i : Nat, i ≤ p.2.1.length ∧ q.1 = (i : Int) ∧ q.2 = ((p.2.1.length : Int), ((colTo p.2.1.length 6 0 [] i).foldl (mStep p) ([], 0)).1, ((colTo p.2.1.length 6 0 [] i).foldl (mStep p) ([], 0)).2, ())) (fun q => ((p.2.1.length : Int) - q.1).toNat) (fun again q hq hag => ?_) ⟨0, by omega, rfl, rfl⟩
  obtain ⟨ii, st⟩ := q
  obtain ⟨i, hi, e1, e2⟩ := hq
  simp only at e1 e2
  subst e1 e2
  dsimp only
  rw [br_dec]
  refine ⟨fun hlt => ?_, fun hlt => ?_⟩
  · have hlt : i < p.2.1.length := by omega
    rw [wr (n := (i : Int) + 1) (by omega) (by omega)]
    refine LoopP.of (fun q : Int × MS => ∃ k : Nat, (i + 1 ≤ k ∧ k ≤ p.2.1.length) ∧ q.1 = (k : Int) ∧ q.2 = ((p.2.1.length : Int), ((rowTo p.2.1.length 6 [] i k).foldl (mStep p) ((colTo p.2.1.length 6 0 [] i).foldl (mStep p) ([], 0))).1, ((rowTo p.2.1.length 6 [] i k).foldl (mStep p) ((colTo p.2.1.length 6 0 [] i).foldl (mStep p) ([], 0))).2, ())) (fun q => ((p.2.1.length : Int) - q.1).toNat) (fun again2 q hq hag2 => ?_) ⟨i + 1, ⟨Nat.le_refl _, hlt⟩, by simp only; omega, by rw [rowTo_low _ _ _ _ _ (Nat.le_refl _)]; rfl⟩
    obtain ⟨kk, st⟩ := q
    obtain ⟨k, hk, e1, e2⟩ := hq
    simp only at e1 e2
    subst e1 e2
    dsimp only
    rw [br_dec]
    refine ⟨fun hlt2 => ?_, fun hlt2 => ?_⟩
    · have hlt2 : k < p.2.1.length := by omega
      refine LoopP.of (fun q : Int × Unit => q.1 = 0) (fun q => 0) (fun again3 q hq _ => ?_) rfl
      rw [hq]
      simp only [Int.lt_irrefl, decide_false, br_f]
      refine LoopP.of (fun q : Int × Unit => q.1 = 0) (fun q => 0) (fun again4 q hq _ => ?_) rfl
      rw [hq]
      simp only [Int.lt_irrefl, decide_false, br_f]
      rw [wr (n := (k : Int) + 1) (by omega) (by omega)]
      have hrow := rowTo_succ p.2.1.length 6 [] i k
      rw [if_pos ⟨by omega, rfl⟩] at hrow
      have e118 : f84 [] = [] := rfl
      have hP := h0.snoc (show i < k by omega) hlt2 rfl
      have hb2 := hP.bound hok
      have hbs := boundF_snoc p [] ((i : Int), (k : Int))
      have hz : boundF p [] = 0 := rfl
      rw [hz] at hbs
      simp only at hbs
      rw [br_false_, roomOk_iff, e118, hM i k (by omega) hlt2, Option.getD_some, ← hbs, wr (n := boundF p _) (by omega) (by omega), show (i : Int) + 1 = ((i + 1 : Nat) : Int) by omega]
      refine ⟨by simp, mGo_ok hok hM 2 6 _ _ _ _ rfl hP (by omega) (by omega) fun r hr => hag2 _ ⟨k + 1, by omega, by simp only; omega, ?_⟩ (by simp only; omega)⟩
      simp only
      rw [hrow, List.foldl_append, hr]
    · have : k = p.2.1.length := by omega
      subst this
      have hcol := colTo_succ p.2.1.length 6 0 [] i
      rw [if_neg (by omega)] at hcol
      exact hag _ ⟨i + 1, by omega, by simp only; omega, by simp only; rw [hcol, List.foldl_append]⟩ (by simp only; omega)
  · have : i = p.2.1.length := by omega
    subst this
    exact hK
def f10_e : Entry := { doms := [(true, (.pair (.pair (.sl (.sl (.int .i64))) (.sl (.sl (.int .i64)))) (.pair (.sl (.pair .str (.pair (.int .i64) (.pair (.int .i64) (.pair (.int .i64) (.int .i64)))))) (.sl (.int .i64)))))], cods := [(false, (.sl (.pair (.int .i64) (.int .i64)))), (false, (.int .i64)), (false, (.int .i64))], pre := f10_pre, fn := f10, uq := false, total := false }
def f10_E : Env := [(44, f44_e), (76, f76_e), (80, f80_e), (84, f84_e)]
def f10_A : Anns := { loops := [(1048576, { tms := [(5, .keep), (7, .keep), (29, .keep), (30, .data false (.int .i64))], obs := [(1048576, .keep), (1049605, .keep), (1052672, .map true false (.pair (.int .i64) (.int .i64)) (.int .i64)), (1052677, .keep), (1100586418176, .keep), (1100586418177, .keep)], fz := [] }),
  (1048578, { tms := [(5, .keep), (7, .keep), (8, .keep), (29, .keep), (30, .keep), (33, .keep), (34, .data false (.int .i64))], obs := [(1048576, .keep), (1049605, .keep), (1052672, .map true false (.pair (.int .i64) (.int .i64)) (.int .i64)), (1052677, .keep), (1100586418176, .keep), (1100586418177, .keep)], fz := [] }),
  (1118840029184, { tms := [(0, .keep), (3, .keep), (5, .keep), (8, .keep), (9, .data false (.int .i64))], obs := [(1048576, .keep), (1049605, .keep), (1052672, .keep), (1052677, .cells [.hnd true 1052672, .data (.int .i64), .data (.sl (.pair (.int .i64) (.int .i64))), .data (.int .i64)]), (1100586418176, .keep), (1100586418177, .keep), (1118840029184, .keep)], fz := [] }),
  (1118840029186, { tms := [(0, .keep), (3, .keep), (5, .keep), (8, .keep), (9, .keep), (10, .data false (.int .i64))], obs := [(1048576, .keep), (1049605, .keep), (1052672, .keep), (1052677, .cells [.hnd true 1052672, .data (.int .i64), .data (.sl (.pair (.int .i64) (.int .i64))), .data (.int .i64)]), (1100586418176, .keep), (1100586418177, .keep), (1118840029184, .keep)], fz := [] }),
  (1173188815343321088, { tms := [(0, .keep), (3, .keep), (5, .keep), (8, .keep), (9, .data false (.int .i64))], obs := [(1048576, .keep), (1049605, .keep), (1052672, .keep), (1052677, .cells [.hnd true 1052672, .data (.int .i64), .data (.sl (.pair (.int .i64) (.int .i64))), .data (.int .i64)]), (1100586418176, .keep), (1100586418177, .keep), (1118840029184, .keep), (1118840039427, .keep), (1173188814254899200, .keep), (1173188814260142080, .keep), (1173188815343321088, .keep)], fz := [] }),
  (1173188815343321090, { tms := [(0, .keep), (3, .keep), (5, .keep), (8, .keep), (9, .keep), (10, .data false (.int .i64))], obs := [(1048576, .keep), (1049605, .keep), (1052672, .keep), (1052677, .cells [.hnd true 1052672, .data (.int .i64), .data (.sl (.pair (.int .i64) (.int .i64))), .data (.int .i64)]), (1100586418176, .keep), (1100586418177, .keep), (1118840029184, .keep), (1118840039427, .keep), (1173188814254899200, .keep), (1173188814260142080, .keep), (1173188815343321088, .keep)], fz := [] }),
  (1173188815343845389, { tms := [(0, .keep), (2, .keep), (3, .keep), (5, .keep)], obs := [(1048576, .keep), (1049605, .keep), (1052672, .keep), (1052677, .cells [.hnd true 1052672, .data (.int .i64), .data (.sl (.pair (.int .i64) (.int .i64))), .data (.int .i64)]), (1100586418176, .keep), (1100586418177, .keep), (1118840029184, .keep), (1118840039427, .keep), (1173188814254899200, .keep), (1173188814260142080, .keep), (1173188815343321088, .keep)], fz := [] }),
  (1173188815343845424, { tms := [(0, .keep), (3, .keep), (5, .keep), (8, .keep), (9, .keep), (10, .keep), (11, .keep), (59, .data false .bool)], obs := [(1048576, .keep), (1049605, .keep), (1052672, .keep), (1052677, .keep), (1100586418176, .keep), (1100586418177, .keep), (1118840029184, .keep), (1118840039427, .keep), (1173188814254899200, .keep), (1173188814260142080, .keep), (1173188815343321088, .keep), (1173188815343331331, .keep)], fz := [] }),
  (1230177635237451154849792, { tms := [(0, .keep), (3, .keep), (5, .keep), (8, .keep), (9, .data false (.int .i64))], obs := [(1048576, .keep), (1049605, .keep), (1052672, .keep), (1052677, .cells [.hnd true 1052672, .data (.int .i64), .data (.sl (.pair (.int .i64) (.int .i64))), .data (.int .i64)]), (1100586418176, .keep), (1100586418177, .keep), (1118840029184, .keep), (1118840039427, .keep), (1173188814254899200, .keep), (1173188814260142080, .keep), (1173188815343321088, .keep), (1173188815343331331, .keep), (1230177635237451154849792, .keep)], fz := [] }),
  (1230177635237451154849794, { tms := [(0, .keep), (3, .keep), (5, .keep), (8, .keep), (9, .keep), (10, .data false (.int .i64))], obs := [(1048576, .keep), (1049605, .keep), (1052672, .keep), (1052677, .cells [.hnd true 1052672, .data (.int .i64), .data (.sl (.pair (.int .i64) (.int .i64))), .data (.int .i64)]), (1100586418176, .keep), (1100586418177, .keep), (1118840029184, .keep), (1118840039427, .keep), (1173188814254899200, .keep), (1173188814260142080, .keep), (1173188815343321088, .keep), (1173188815343331331, .keep), (1230177635237451154849792, .keep)], fz := [] }),
  (1230177635237451155374093, { tms := [(0, .keep), (2, .keep), (3, .keep), (5, .keep)], obs := [(1048576, .keep), (1049605, .keep), (1052672, .keep), (1052677, .cells [.hnd true 1052672, .data (.int .i64), .data (.sl (.pair (.int .i64) (.int .i64))), .data (.int .i64)]), (1100586418176, .keep), (1100586418177, .keep), (1118840029184, .keep), (1118840039427, .keep), (1173188814254899200, .keep), (1173188814260142080, .keep), (1173188815343321088, .keep), (1173188815343331331, .keep), (1230177635237451154849792, .keep)], fz := [] }),
  (1230177635237451155374128, { tms := [(0, .keep), (3, .keep), (5, .keep), (8, .keep), (9, .keep), (10, .keep), (11, .keep), (59, .data false .bool)], obs := [(1048576, .keep), (1049605, .keep), (1052672, .keep), (1052677, .keep), (1100586418176, .keep), (1100586418177, .keep), (1118840029184, .keep), (1118840039427, .keep), (1173188814254899200, .keep), (1173188814260142080, .keep), (1173188815343321088, .keep), (1173188815343331331, .keep), (1230177635237451154849792, .keep), (1230177635237451154860035, .keep)], fz := [] }),
  (1289934742850000660074806116352, { tms := [(0, .keep), (1, .keep), (7, .keep), (8, .data false (.int .i64))], obs := [(1048576, .keep), (1049605, .keep), (1052672, .keep), (1052677, .keep), (1100586418176, .keep), (1100586418177, .keep), (1118840029184, .keep), (1118840039427, .keep), (1173188814254899200, .keep)], fz := [] }),
  (1289934742855765267597840351232, { tms := [(0, .keep), (1, .keep), (7, .keep), (8, .data false (.int .i64))], obs := [(1048576, .keep), (1049605, .keep), (1052672, .keep), (1052677, .keep), (1100586418176, .keep), (1100586418177, .keep), (1118840029184, .keep), (1118840039427, .keep), (1173188814254899200, .keep), (1173188814260142080, .keep)], fz := [] }),
  (1289934744046745582160677175296, { tms := [(0, .keep), (3, .keep), (5, .keep), (8, .keep), (9, .data false (.int .i64))], obs := [(1048576, .keep), (1049605, .keep), (1052672, .keep), (1052677, .cells [.hnd true 1052672, .data (.int .i64), .data (.sl (.pair (.int .i64) (.int .i64))), .data (.int .i64)]), (1100586418176, .keep), (1100586418177, .keep), (1118840029184, .keep), (1118840039427, .keep), (1173188814254899200, .keep), (1173188814260142080, .keep), (1173188815343321088, .keep), (1173188815343331331, .keep), (1230177635237451154849792, .keep), (1230177635237451154860035, .keep), (1289934744046745582160677175296, .keep)], fz := [] }),
  (1289934744046745582160677175298, { tms := [(0, .keep), (3, .keep), (5, .keep), (8, .keep), (9, .keep), (10, .data false (.int .i64))], obs := [(1048576, .keep), (1049605, .keep), (1052672, .keep), (1052677, .cells [.hnd true 1052672, .data (.int .i64), .data (.sl (.pair (.int .i64) (.int .i64))), .data (.int .i64)]), (1100586418176, .keep), (1100586418177, .keep), (1118840029184, .keep), (1118840039427, .keep), (1173188814254899200, .keep), (1173188814260142080, .keep), (1173188815343321088, .keep), (1173188815343331331, .keep), (1230177635237451154849792, .keep), (1230177635237451154860035, .keep), (1289934744046745582160677175296, .keep)], fz := [] }),
  (1289934744046745582160677699597, { tms := [(0, .keep), (2, .keep), (3, .keep), (5, .keep)], obs := [(1048576, .keep), (1049605, .keep), (1052672, .keep), (1052677, .cells [.hnd true 1052672, .data (.int .i64), .data (.sl (.pair (.int .i64) (.int .i64))), .data (.int .i64)]), (1100586418176, .keep), (1100586418177, .keep), (1118840029184, .keep), (1118840039427, .keep), (1173188814254899200, .keep), (1173188814260142080, .keep), (1173188815343321088, .keep), (1173188815343331331, .keep), (1230177635237451154849792, .keep), (1230177635237451154860035, .keep), (1289934744046745582160677175296, .keep)], fz := [] }),
  (1289934744046745582160677699632, { tms := [(0, .keep), (3, .keep), (5, .keep), (8, .keep), (9, .keep), (10, .keep), (11, .keep), (59, .data false .bool)], obs := [(1048576, .keep), (1049605, .keep), (1052672, .keep), (1052677, .keep), (1100586418176, .keep), (1100586418177, .keep), (1118840029184, .keep), (1118840039427, .keep), (1173188814254899200, .keep), (1173188814260142080, .keep), (1173188815343321088, .keep), (1173188815343331331, .keep), (1230177635237451154849792, .keep), (1230177635237451154860035, .keep), (1289934744046745582160677175296, .keep), (1289934744046745582160677185539, .keep)], fz := [] }),
  (1352594614173559098814792156793798656, { tms := [(0, .keep), (1, .keep), (7, .keep), (8, .data false (.int .i64))], obs := [(1048576, .keep), (1049605, .keep), (1052672, .keep), (1052677, .keep), (1100586418176, .keep), (1100586418177, .keep), (1118840029184, .keep), (1118840039427, .keep), (1173188814254899200, .keep), (1173188814260142080, .keep), (1173188815343321088, .keep), (1173188815343331331, .keep), (1230177635237450066427904, .keep)], fz := [] }),
  (1352594614173559104579399679828033536, { tms := [(0, .keep), (1, .keep), (7, .keep), (8, .data false (.int .i64))], obs := [(1048576, .keep), (1049605, .keep), (1052672, .keep), (1052677, .keep), (1100586418176, .keep), (1100586418177, .keep), (1118840029184, .keep), (1118840039427, .keep), (1173188814254899200, .keep), (1173188814260142080, .keep), (1173188815343321088, .keep), (1173188815343331331, .keep), (1230177635237450066427904, .keep), (1230177635237450071670784, .keep)], fz := [] }),
  (1352594614173560295559714242664857600, { tms := [(0, .keep), (3, .keep), (5, .keep), (8, .keep), (9, .data false (.int .i64))], obs := [(1048576, .keep), (1049605, .keep), (1052672, .keep), (1052677, .cells [.hnd true 1052672, .data (.int .i64), .data (.sl (.pair (.int .i64) (.int .i64))), .data (.int .i64)]), (1100586418176, .keep), (1100586418177, .keep), (1118840029184, .keep), (1118840039427, .keep), (1173188814254899200, .keep), (1173188814260142080, .keep), (1173188815343321088, .keep), (1173188815343331331, .keep), (1230177635237451154849792, .keep), (1230177635237451154860035, .keep), (1289934744046745582160677175296, .keep), (1289934744046745582160677185539, .keep), (1352594614173560295559714242664857600, .keep)], fz := [] }),
  (1352594614173560295559714242664857602, { tms := [(0, .keep), (3, .keep), (5, .keep), (8, .keep), (9, .keep), (10, .data false (.int .i64))], obs := [(1048576, .keep), (1049605, .keep), (1052672, .keep), (1052677, .cells [.hnd true 1052672, .data (.int .i64), .data (.sl (.pair (.int .i64) (.int .i64))), .data (.int .i64)]), (1100586418176, .keep), (1100586418177, .keep), (1118840029184, .keep), (1118840039427, .keep), (1173188814254899200, .keep), (1173188814260142080, .keep), (1173188815343321088, .keep), (1173188815343331331, .keep), (1230177635237451154849792, .keep), (1230177635237451154860035, .keep), (1289934744046745582160677175296, .keep), (1289934744046745582160677185539, .keep), (1352594614173560295559714242664857600, .keep)], fz := [] }),
  (1352594614173560295559714242665381901, { tms := [(0, .keep), (2, .keep), (3, .keep), (5, .keep)], obs := [(1048576, .keep), (1049605, .keep), (1052672, .keep), (1052677, .cells [.hnd true 1052672, .data (.int .i64), .data (.sl (.pair (.int .i64) (.int .i64))), .data (.int .i64)]), (1100586418176, .keep), (1100586418177, .keep), (1118840029184, .keep), (1118840039427, .keep), (1173188814254899200, .keep), (1173188814260142080, .keep), (1173188815343321088, .keep), (1173188815343331331, .keep), (1230177635237451154849792, .keep), (1230177635237451154860035, .keep), (1289934744046745582160677175296, .keep), (1289934744046745582160677185539, .keep), (1352594614173560295559714242664857600, .keep)], fz := [] }),
  (1418298250151655160475626176794472753397760, { tms := [(0, .keep), (1, .keep), (7, .keep), (8, .data false (.int .i64))], obs := [(1048576, .keep), (1049605, .keep), (1052672, .keep), (1052677, .keep), (1100586418176, .keep), (1100586418177, .keep), (1118840029184, .keep), (1118840039427, .keep), (1173188814254899200, .keep), (1173188814260142080, .keep), (1173188815343321088, .keep), (1173188815343331331, .keep), (1230177635237451154849792, .keep), (1230177635237451154860035, .keep), (1289934744046745582159588753408, .keep)], fz := [] }),
  (1418298250151655160475631941401995787632640, { tms := [(0, .keep), (1, .keep), (7, .keep), (8, .data false (.int .i64))], obs := [(1048576, .keep), (1049605, .keep), (1052672, .keep), (1052677, .keep), (1100586418176, .keep), (1100586418177, .keep), (1118840029184, .keep), (1118840039427, .keep), (1173188814254899200, .keep), (1173188814260142080, .keep), (1173188815343321088, .keep), (1173188815343331331, .keep), (1230177635237451154849792, .keep), (1230177635237451154860035, .keep), (1289934744046745582159588753408, .keep), (1289934744046745582159593996288, .keep)], fz := [] }),
  (1418298250151655160476822921716558624456704, { tms := [(0, .keep), (3, .keep), (5, .keep), (8, .keep), (9, .data false (.int .i64))], obs := [(1048576, .keep), (1049605, .keep), (1052672, .keep), (1052677, .keep), (1100586418176, .keep), (1100586418177, .keep), (1118840029184, .keep), (1118840039427, .keep), (1173188814254899200, .keep), (1173188814260142080, .keep), (1173188815343321088, .keep), (1173188815343331331, .keep), (1230177635237451154849792, .keep), (1230177635237451154860035, .keep), (1289934744046745582160677175296, .keep), (1289934744046745582160677185539, .keep), (1352594614173560295559714242664857600, .keep), (1352594614173560295559714242664867843, .keep), (1418298250151655160476822921716557536034816, .keep), (1418298250151655160476822921716557541277696, .keep), (1418298250151655160476822921716558624456704, .keep)], fz := [] }),
  (1418298250151655160476822921716558624456706, { tms := [(0, .keep), (3, .keep), (5, .keep), (8, .keep), (9, .keep), (10, .data false (.int .i64))], obs := [(1048576, .keep), (1049605, .keep), (1052672, .keep), (1052677, .keep), (1100586418176, .keep), (1100586418177, .keep), (1118840029184, .keep), (1118840039427, .keep), (1173188814254899200, .keep), (1173188814260142080, .keep), (1173188815343321088, .keep), (1173188815343331331, .keep), (1230177635237451154849792, .keep), (1230177635237451154860035, .keep), (1289934744046745582160677175296, .keep), (1289934744046745582160677185539, .keep), (1352594614173560295559714242664857600, .keep), (1352594614173560295559714242664867843, .keep), (1418298250151655160476822921716557536034816, .keep), (1418298250151655160476822921716557541277696, .keep), (1418298250151655160476822921716558624456704, .keep)], fz := [] }),
  (1418298250151655160476822921716558624981005, { tms := [(0, .keep), (2, .keep), (3, .keep), (5, .keep)], obs := [(1048576, .keep), (1049605, .keep), (1052672, .keep), (1052677, .cells [.hnd true 1052672, .data (.int .i64), .data (.sl (.pair (.int .i64) (.int .i64))), .data (.int .i64)]), (1100586418176, .keep), (1100586418177, .keep), (1118840029184, .keep), (1118840039427, .keep), (1173188814254899200, .keep), (1173188814260142080, .keep), (1173188815343321088, .keep), (1173188815343331331, .keep), (1230177635237451154849792, .keep), (1230177635237451154860035, .keep), (1289934744046745582160677175296, .keep), (1289934744046745582160677185539, .keep), (1352594614173560295559714242664857600, .keep), (1352594614173560295559714242664867843, .keep), (1418298250151655160476822921716557536034816, .keep), (1418298250151655160476822921716557541277696, .keep), (1418298250151655160476822921716558624456704, .keep)], fz := [] }),
  (1487193505951021961552145070765117254125343473664, { tms := [(0, .keep), (1, .keep), (7, .keep), (8, .data false (.int .i64))], obs := [(1048576, .keep), (1049605, .keep), (1052672, .keep), (1052677, .keep), (1100586418176, .keep), (1100586418177, .keep), (1118840029184, .keep), (1118840039427, .keep), (1173188814254899200, .keep), (1173188814260142080, .keep), (1173188815343321088, .keep), (1173188815343331331, .keep), (1230177635237451154849792, .keep), (1230177635237451154860035, .keep), (1289934744046745582160677175296, .keep), (1289934744046745582160677185539, .keep), (1352594614173560295559714241576435712, .keep)], fz := [] }),
  (1487193505951021961552145070770881861648377708544, { tms := [(0, .keep), (1, .keep), (7, .keep), (8, .data false (.int .i64))], obs := [(1048576, .keep), (1049605, .keep), (1052672, .keep), (1052677, .keep), (1100586418176, .keep), (1100586418177, .keep), (1118840029184, .keep), (1118840039427, .keep), (1173188814254899200, .keep), (1173188814260142080, .keep), (1173188815343321088, .keep), (1173188815343331331, .keep), (1230177635237451154849792, .keep), (1230177635237451154860035, .keep), (1289934744046745582160677175296, .keep), (1289934744046745582160677185539, .keep), (1352594614173560295559714241576435712, .keep), (1352594614173560295559714241581678592, .keep)], fz := [] }),
  (1559435417696098804356502070977480396537928416774586368, { tms := [(0, .keep), (1, .keep), (7, .keep), (8, .data false (.int .i64))], obs := [(1048576, .keep), (1049605, .keep), (1052672, .keep), (1052677, .keep), (1100586418176, .keep), (1100586418177, .keep), (1118840029184, .keep), (1118840039427, .keep), (1173188814254899200, .keep), (1173188814260142080, .keep), (1173188815343321088, .keep), (1173188815343331331, .keep), (1230177635237451154849792, .keep), (1230177635237451154860035, .keep), (1289934744046745582160677175296, .keep), (1289934744046745582160677185539, .keep), (1352594614173560295559714242664857600, .keep), (1352594614173560295559714242664867843, .keep), (1418298250151655160476822921716557536034816, .keep)], fz := [] }),
  (1559435417696098804356502070977480402302535939808821248, { tms := [(0, .keep), (1, .keep), (7, .keep), (8, .data false (.int .i64))], obs := [(1048576, .keep), (1049605, .keep), (1052672, .keep), (1052677, .keep), (1100586418176, .keep), (1100586418177, .keep), (1118840029184, .keep), (1118840039427, .keep), (1173188814254899200, .keep), (1173188814260142080, .keep), (1173188815343321088, .keep), (1173188815343331331, .keep), (1230177635237451154849792, .keep), (1230177635237451154860035, .keep), (1289934744046745582160677175296, .keep), (1289934744046745582160677185539, .keep), (1352594614173560295559714242664857600, .keep), (1352594614173560295559714242664867843, .keep), (1418298250151655160476822921716557536034816, .keep), (1418298250151655160476822921716557541277696, .keep)], fz := [] })], own := [1118840041488, 1173188815343333392, 1230177635237451154862096, 1289934744046745582160677187600, 1352594614173560295559714242664869904] }
theorem f10_run (a0 : (List (List Int) × List (List Int)) × List (ByteArray × Int × Int × Int × Int) × List Int) (K : (List (Int × Int) × Int × Int) → Prop) : runF Tryz.prog f10_E f10_A 8 Tryz.f10 f10_e.doms f10_e.cods a0 K =
    (f76_pre a0 ∧
    br ((f76 a0).2 != 0)
    (K (([] : List (Int × Int)), (0, (f76 a0).2)))
    (br (lenOk (a0.2.1.length))
    (br (lenOk (a0.2.1.length))
    (LoopP (V := Int × List ((Int × Int) × Int) × Unit) (fun again v => (fun (again1 : Int → List ((Int × Int) × Int) → Prop) (v1_0 : Int) (v1_1 : List ((Int × Int) × Int)) =>
    br (decide (v1_0 < ((a0.2.1.length) : Int)))
    (LoopP (V := Int × List ((Int × Int) × Int) × Unit) (fun again v => (fun (again2 : Int → List ((Int × Int) × Int) → Prop) (v2_0 : Int) (v2_1 : List ((Int × Int) × Int)) =>
    br (decide (v2_0 < v1_0))
    (f44_pre (a0, (v2_0, v1_0)) ∧
    br (!(f44 (a0, (v2_0, v1_0))).2)
    (K (([] : List (Int × Int)), (0, 12)))
    (again2 (IntKind.i64.wrap (v2_0 + 1)) (mput (.pair (.int .i64) (.int .i64)) (.int .i64) v2_1 (v2_0, v1_0) ((f44 (a0, (v2_0, v1_0))).1))))
    (again1 (IntKind.i64.wrap (v1_0 + 1)) v2_1))
    (fun v2_0 v2_1 => again (v2_0, v2_1, ())) v.1 v.2.1) (0, v1_1, ()))
    (mTop v1_1 ((a0.2.1.length) : Int) (fun s => K (s.2.1, (s.2.2.1, 0)))))
    (fun v1_0 v1_1 => again (v1_0, v1_1, ())) v.1 v.2.1) (0, ([] : List ((Int × Int) × Int)), ()))
    True)
    True)) := by kernel_rfl
theorem f10_t (a0 : (List (List Int) × List (List Int)) × List (ByteArray × Int × Int × Int × Int) × List Int) (hpre : f10_pre a0) (K : (List (Int × Int) × Int × Int) → Prop) (hK : ∀ y : List (Int × Int) × Int × Int, y = f10 a0 → K y) : RunF Tryz.prog f10_E f10_A 8 Tryz.f10 f10_e.doms f10_e.cods a0 K := by
  refine ⟨?_⟩
  rw [f10_run a0 K]
  have e24 : f76 a0 = probOf a0 := rfl
  have ef : f10 a0 = if (probOf a0).2 ≠ 0 then ([], 0, (probOf a0).2) else if costsOk a0 then ((bestM a0).1, (bestM a0).2, 0) else ([], 0, 12) := rfl
  rw [ef] at hK
  refine ⟨hpre, ?_⟩
  rw [e24, br_both]
  refine ⟨fun h => hK _ (if_pos (by simpa using h)).symm, fun h => ?_⟩
  have hok : okP a0 := by
    have : (probOf a0).2 = 0 := by simpa using h
    exact this
  rw [if_neg (fun hh => hh hok)] at hK
  have h6 := hok.v.six
  rw [br_true_, br_true_]
  intro _ _
  refine LoopP.of (fun q : Int × List ((Int × Int) × Int) × Unit => ∃ i : Nat, i ≤ a0.2.1.length ∧ q.1 = (i : Int) ∧ ∀ b : Nat, b < i → ∀ a : Nat, a < b → (pairB a0 a b).isSome = true ∧ mget (.pair (.int .i64) (.int .i64)) (.int .i64) q.2.1 ((a : Int), (b : Int)) = some (cst a0 a b)) (fun q => ((a0.2.1.length : Int) - q.1).toNat) (fun again q hq hag => ?_) ⟨0, by omega, rfl, fun b hb => by omega⟩
  obtain ⟨ii, M, u⟩ := q
  obtain ⟨i, hi, e1, e2⟩ := hq
  simp only at e1 e2
  subst e1
  dsimp only
  rw [br_dec]
  refine ⟨fun hlt => ?_, fun hlt => ?_⟩
  · have hlt : i < a0.2.1.length := by omega
    rw [wr (n := (i : Int) + 1) (by omega) (by omega)]
    refine LoopP.of (fun q : Int × List ((Int × Int) × Int) × Unit => ∃ k : Nat, k ≤ i ∧ q.1 = (k : Int) ∧ (∀ b : Nat, b < i → ∀ a : Nat, a < b → (pairB a0 a b).isSome = true ∧ mget (.pair (.int .i64) (.int .i64)) (.int .i64) q.2.1 ((a : Int), (b : Int)) = some (cst a0 a b)) ∧
      ∀ a : Nat, a < k → (pairB a0 a i).isSome = true ∧ mget (.pair (.int .i64) (.int .i64)) (.int .i64) q.2.1 ((a : Int), (i : Int)) = some (cst a0 a i)) (fun q => ((i : Int) - q.1).toNat) (fun again2 q hq hag2 => ?_) ⟨0, by omega, rfl, e2, fun a ha => by omega⟩
    obtain ⟨kk, M2, u⟩ := q
    obtain ⟨k, hk, e1, e3, e4⟩ := hq
    simp only at e1 e3 e4
    subst e1
    dsimp only
    rw [br_dec]
    refine ⟨fun hlt2 => ?_, fun hlt2 => ?_⟩
    · have hlt2 : k < i := by omega
      rw [wr (n := (k : Int) + 1) (by omega) (by omega)]
      refine ⟨⟨hok, ⟨by simp only; omega, by simp only; omega⟩, ⟨by simp only; omega, by simp only; omega⟩⟩, ?_⟩
      have e96 : f44 (a0, (k : Int), (i : Int)) = match pairB a0 k i with
        | some n => (n, true)
        | none => (0, false) := rfl
      rw [e96]
      cases hp : pairB a0 k i with
      | none =>
        simp only [Bool.not_false, br_t]
        refine hK _ (if_neg fun hc => ?_).symm
        have := hc i hlt k hlt2
        rw [hp] at this
        cases this
      | some n =>
        simp only [Bool.not_true, br_f]
        have hcs : cst a0 k i = n := by rw [cst, hp]; rfl
        refine hag2 _ ⟨k + 1, by omega, by simp only; omega, fun b hb a ha => ?_, fun a ha => ?_⟩ (by simp only; omega)
        · simp only
          have hne : ¬ (((k : Int), (i : Int)) = ((a : Int), (b : Int))) := fun e => by
            have h2 : (i : Int) = (b : Int) := congrArg Prod.snd e
            omega
          rw [mget_mput2, if_neg hne]
          exact e3 b hb a ha
        · simp only
          rw [mget_mput2]
          by_cases hak : a = k
          · subst hak
            rw [if_pos rfl, hp, hcs]
            exact ⟨rfl, rfl⟩
          · have hne : ¬ (((k : Int), (i : Int)) = ((a : Int), (i : Int))) := fun e => by
              have h2 : (k : Int) = (a : Int) := congrArg Prod.fst e
              omega
            rw [if_neg hne]
            exact e4 a (by omega)
    · have : k = i := by omega
      subst this
      refine hag _ ⟨k + 1, by omega, by simp only; omega, fun b hb a ha => ?_⟩ (by simp only; omega)
      rcases Nat.lt_or_ge b k with hh | hh
      · exact e3 b hh a ha
      · have : b = k := by omega
        subst this
        exact e4 a ha
  · have : i = a0.2.1.length := by omega
    subst this
    have hc : costsOk a0 := fun i hi k hk => (e2 i hi k hk).1
    rw [if_pos hc] at hK
    exact mTop_ok hok (fun a b hab hb => (e2 b hb a hab).2) (hK _ rfl)
theorem f10_fn : f10_e.fn = f10 := rfl
theorem f10_ok : EntryOK Tryz.prog 10 f10_e := by
  refine entryF progOK (EnvOK.cons f44_ok (EnvOK.cons f76_ok (EnvOK.cons f80_ok (EnvOK.cons f84_ok (EnvOK.nil))))) (A := f10_A) (d := 8) Tryz.func10 rfl rfl rfl rfl (fun h => by cases h) fun x hpre => ?_
  exact f10_t x hpre _ fun _ h => h.trans (congrFun f10_fn.symm _)
end Go.Proofs.YtglokajinehbmaaGreat
