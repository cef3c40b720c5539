/- What functions of the program compute, each proved once, part 9. -/
import Derived.Test.YtglokajinehbmaaPiD
import Derived.Test.YtglokajinehbmaaFnA
import Derived.Test.YtglokajinehbmaaFnE
import Derived.Test.YtglokajinehbmaaFnG
import Derived.Test.YtglokajinehbmaaFnH

section
namespace Go.Proofs.Ytglokajinehbmaa
open Go Go.Pi Go.RowKit
set_option maxRecDepth 100000
set_option linter.unusedVariables false
set_option linter.unusedSimpArgs false

theorem mget_mputb (k k' : Int) (x : Bool) : ∀ M : List (Int × Bool), mget (.int .i64) .bool (mput (.int .i64) .bool M k x) k' = if k = k' then some x else mget (.int .i64) .bool M k'
  | [] => by
    simp only [mput, mget, Sch.eqb]
    by_cases h1 : k = k'
    · subst h1; simp
    · rw [if_neg h1, beq_eq_false_iff_ne.2 (fun e => h1 e.symm)]
  | y :: r => by
    have ih := mget_mputb k k' x r
    simp only [mput]
    cases hy : (Sch.int .i64).eqb k y.1 with
    | true =>
      have e : k = y.1 := by
        simp only [Sch.eqb, beq_iff_eq] at hy
        exact hy
      simp only [mget]
      cases hk : (Sch.int .i64).eqb k' k with
      | true =>
        have e2 : k = k' := by
          simp only [Sch.eqb, beq_iff_eq] at hk
          exact hk.symm
        simp [e2]
      | false =>
        have e2 : ¬ k = k' := fun e2 => by
          subst e2
          simp [Sch.eqb] at hk
        rw [if_neg e2, ← e, hk]
    | false =>
      simp only [mget]
      rw [ih]
      cases hk : (Sch.int .i64).eqb k' y.1 with
      | true =>
        have e2 : ¬ k = k' := fun e2 => by
          subst e2
          rw [hy] at hk
          cases hk
        simp only [if_neg e2]
      | false => rfl
def lastOfP (l : Prs) (i : Nat) : Int := if i = 0 then -1 else (l.getD (i - 1) (0, 0)).1
instance (p : Prob) (a : Int) : Decidable (inA p a) := by unfold inA; infer_instance
def pairE (p : Prob) (l : Prs) (i : Nat) : Int := if ¬ (inA p (l.getD i (0, 0)).1 ∧ inA p (l.getD i (0, 0)).2) then 6 else if ¬ ((l.getD i (0, 0)).1 < (l.getD i (0, 0)).2 ∧ (l.getD i (0, 0)).1 > lastOfP l i) then 9 else
  if freeB (l.take i) (l.getD i (0, 0)).1 (l.getD i (0, 0)).2 = false then 21 else 0
def noneE (p : Prob) (l : Prs) (i : Nat) : Int := if (pairB p (l.getD i (0, 0)).1 (l.getD i (0, 0)).2).isSome = true then 0 else 12
def pairsErr (p : Prob) (l : Prs) : Int := if (eachE l.length (pairE p l)).2 ≠ 0 then (eachE l.length (pairE p l)).2 else (eachE l.length (noneE p l)).2
def f53 (x : ((List (List Int) × List (List Int)) × List (ByteArray × Int × Int × Int × Int) × List Int) × List (Int × Int)) : Int × Int :=
  if (probOf x.1).2 ≠ 0 then (0, (probOf x.1).2) else if pairsErr x.1 x.2 ≠ 0 then (0, pairsErr x.1 x.2) else (boundF x.1 x.2, 0)
def f53_pre (x : ((List (List Int) × List (List Int)) × List (ByteArray × Int × Int × Int × Int) × List Int) × List (Int × Int)) : Prop := f24_pre x.1 ∧ x.2.length ≤ 1000
/-- What follows once the pairs are found valid. -/
def cpTail (a0 : Prob) (a1 : Prs) (K : Int × Int → Prop) : Prop := br (lenOk (a1.length)) (LoopP (V := Int × Int × Unit) (fun again v =>
  br (decide (v.2.1 < ((a1.length) : Int))) (br (decide (0 ≤ v.2.1) && decide (v.2.1 < ((a1.length) : Int)))
    (f96_pre (a0, (a1.getD v.2.1.toNat (0, 0))) ∧ br (!(f96 (a0, (a1.getD v.2.1.toNat (0, 0)))).2) (K (0, 12))
      (again (IntKind.i64.wrap (v.1 + (f96 (a0, (a1.getD v.2.1.toNat (0, 0)))).1), IntKind.i64.wrap (v.2.1 + 1), ()))) False) (K (v.1, 0))) (0, 0, ())) True
def cpE (a0 : Prob) (a1 : Prs) (K : Int × Int → Prop) (A : Prop) (b1 b2 b3 : Bool) : Prop :=
  br (f66 ([(f68 (b1, 6)), (f68 (b2, 9)), (f68 (b3, 21))] : List Int) != 0) (br (f66 ([(f68 (b1, 6)), (f68 (b2, 9)), (f68 (b3, 21))] : List Int) != 0)
    (K (0, f66 ([(f68 (b1, 6)), (f68 (b2, 9)), (f68 (b3, 21))] : List Int))) (cpTail a0 a1 K)) A
def cpB (E : Bool → Bool → Bool → Prop) (c2 c3 lt gt ua ub : Bool) : Prop := br c2 (br lt (br ua (E c3 gt ub) (E c3 gt false)) (br ua (E c3 false ub) (E c3 false false)))
  (br lt (br ua (E false gt ub) (E false gt false)) (br ua (E false false ub) (E false false false)))
theorem cpB_eq (E : Bool → Bool → Bool → Prop) (c2 c3 lt gt ua ub : Bool) : cpB E c2 c3 lt gt ua ub = E (c2 && c3) (lt && gt) (ua && ub) := by
  cases c2 <;> cases lt <;> cases ua <;> rfl
theorem three_errs (b1 b2 b3 : Bool) : f66 [f68 (b1, 6), f68 (b2, 9), f68 (b3, 21)] = if b1 = false then 6 else if b2 = false then 9 else if b3 = false then 21 else 0 := by
  cases b1 <;> cases b2 <;> cases b3 <;> rfl
theorem pairE_zero {p : Prob} {l : Prs} {i : Nat} (h : pairE p l i = 0) : (inA p (l.getD i (0, 0)).1 ∧ inA p (l.getD i (0, 0)).2) ∧ ((l.getD i (0, 0)).1 < (l.getD i (0, 0)).2 ∧ (l.getD i (0, 0)).1 > lastOfP l i) ∧ freeB (l.take i) (l.getD i (0, 0)).1 (l.getD i (0, 0)).2 = true := by
  unfold pairE at h
  split at h
  · simp at h
  · rename_i h1
    split at h
    · simp at h
    · rename_i h2
      split at h
      · simp at h
      · rename_i h3
        exact ⟨Classical.byContradiction h1, Classical.byContradiction h2, by simpa using h3⟩
theorem noneE_zero {p : Prob} {l : Prs} {i : Nat} (h : noneE p l i = 0) : (pairB p (l.getD i (0, 0)).1 (l.getD i (0, 0)).2).isSome = true := by
  unfold noneE at h
  split at h
  · assumption
  · simp at h
theorem usedB_snoc (l : Prs) (x : Int × Int) (n : Int) : usedB (l ++ [x]) n = (usedB l n || (x.1 == n || x.2 == n)) := by
  simp [usedB]
theorem take_snocP {l : Prs} {i : Nat} (hi : i < l.length) : l.take (i + 1) = l.take i ++ [l.getD i (0, 0)] := by
  rw [List.take_add_one, List.getElem?_eq_getElem hi, getD_lt hi]
  rfl
def f53_e : Entry := { doms := [(true, (.pair (.pair (.sl (.sl (.int .i64))) (.sl (.sl (.int .i64)))) (.pair (.sl (.pair .str (.pair (.int .i64) (.pair (.int .i64) (.pair (.int .i64) (.int .i64)))))) (.sl (.int .i64))))), (false, (.sl (.pair (.int .i64) (.int .i64))))], cods := [(false, (.int .i64)), (false, (.int .i64))], pre := f53_pre, fn := f53, uq := false, total := false }
def f53_E : Env := [(24, f24_e), (66, f66_e), (68, f68_e), (96, f96_e), (98, f98_e), (52, f52_e)]
def f53_A : Anns := { loops := [(1048576, { tms := [(6, .keep), (13, .data false (.int .i64)), (37, .keep), (38, .keep), (39, .data false (.int .i64))], obs := [(1048576, .keep), (1049605, .keep), (1052673, .keep), (1053696, .keep), (1053697, .keep), (1054720, .keep), (1100586418176, .keep), (1100586418177, .keep)], fz := [] }),
  (1107029917696, { tms := [(1, .keep), (9, .keep), (10, .keep), (11, .data false (.int .i64))], obs := [(1048576, .keep), (1049605, .keep), (1052673, .keep), (1053696, .map false false (.int .i64) .bool), (1053697, .keep), (1054720, .cells [.data (.int .i64)]), (1100586418176, .keep), (1100586418177, .keep)], fz := [] })], own := [1052672, 1160805007276116869, 2720906367540663233286083407862885599933713675080981498575614441349454236728657499416478790169868112432685429855801150056434566, 2723550591415824227681891069095016684093027293812838623452753036530551859893602744799779547011626973572075794703901243489651590] }
theorem f53_run (a0 : (List (List Int) × List (List Int)) × List (ByteArray × Int × Int × Int × Int) × List Int) (a1 : List (Int × Int)) (K : (Int × Int) → Prop) : runF Try.prog f53_E f53_A 6 Try.f53 f53_e.doms f53_e.cods (a0, a1) K =
    (f24_pre a0 ∧
    br ((f24 a0).2 != 0)
    (K (0, (f24 a0).2))
    (br (lenOk (a1.length))
    (LoopP (V := Int × List (Int × Bool) × Int × Unit) (fun again v => (fun (again1 : Int → List (Int × Bool) → Int → Prop) (v1_0 : Int) (v1_1 : List (Int × Bool)) (v1_2 : Int) =>
    br (decide (v1_0 < ((a1.length) : Int)))
    (br (decide (0 ≤ v1_0) && decide (v1_0 < ((a1.length) : Int)))
    (cpB (cpE a0 a1 K (again1 (IntKind.i64.wrap (v1_0 + 1)) (mput (.int .i64) .bool (mput (.int .i64) .bool v1_1 ((a1.getD v1_0.toNat (0, 0)).1) true) ((a1.getD v1_0.toNat (0, 0)).2) true) ((a1.getD v1_0.toNat (0, 0)).1)))
      (f98 ((a1.getD v1_0.toNat (0, 0)).1, ([(a0.1.1, (a0.1.2, a0.2))] : List (List (List Int) × List (List Int) × List (ByteArray × Int × Int × Int × Int) × List Int))))
      (f98 ((a1.getD v1_0.toNat (0, 0)).2, ([(a0.1.1, (a0.1.2, a0.2))] : List (List (List Int) × List (List Int) × List (ByteArray × Int × Int × Int × Int) × List Int))))
      (decide ((a1.getD v1_0.toNat (0, 0)).1 < (a1.getD v1_0.toNat (0, 0)).2)) (decide ((a1.getD v1_0.toNat (0, 0)).1 > v1_2))
      (!((mget (.int .i64) .bool v1_1 ((a1.getD v1_0.toNat (0, 0)).1)).getD false)) (!((mget (.int .i64) .bool v1_1 ((a1.getD v1_0.toNat (0, 0)).2)).getD false)))
    False)
    (cpTail a0 a1 K))
    (fun v1_0 v1_1 v1_2 => again (v1_0, v1_1, v1_2, ())) v.1 v.2.1 v.2.2.1) (0, ([] : List (Int × Bool)), (-1), ()))
    True)) := by kernel_rfl
theorem f53_t (a0 : (List (List Int) × List (List Int)) × List (ByteArray × Int × Int × Int × Int) × List Int) (a1 : List (Int × Int)) (hpre : f53_pre (a0, a1)) (K : (Int × Int) → Prop) (hK : ∀ y : Int × Int, y = f53 (a0, a1) → K y) : RunF Try.prog f53_E f53_A 6 Try.f53 f53_e.doms f53_e.cods (a0, a1) K := by
  refine ⟨?_⟩
  rw [f53_run a0 a1 K]
  obtain ⟨h24, hl⟩ := hpre
  simp only at h24 hl
  have e24 : f24 a0 = probOf a0 := rfl
  have ef : f53 (a0, a1) = if (probOf a0).2 ≠ 0 then (0, (probOf a0).2) else if pairsErr a0 a1 ≠ 0 then (0, pairsErr a0 a1) else (boundF a0 a1, 0) := rfl
  rw [ef] at hK
  refine ⟨h24, ?_⟩
  rw [e24, br_both]
  refine ⟨fun h => hK _ (if_pos (by simpa using h)).symm, fun h => ?_⟩
  have hok : okP a0 := by
    have : (probOf a0).2 = 0 := by simpa using h
    exact this
  rw [if_neg (fun hh => hh hok)] at hK
  have h6 := hok.v.six
  have e98 : ∀ n : Int, f98 (n, [(a0.1.1, (a0.1.2, a0.2))]) = decide (inA a0 n) := fun n => by
    show f65 (n, 0, IntKind.i64.wrap ((a0.2.1.length : Int) - 1)) = _
    rw [wr (n := (a0.2.1.length : Int) - 1) (by omega) (by omega), Bool.eq_iff_iff, f65_t1, decide_eq_true_iff]
    exact ⟨fun h => ⟨h.1, by omega⟩, fun h => ⟨h.1, by have := h.2; omega⟩⟩
  -- behind the pairs
  have tail : (∀ j, j < a1.length → pairE a0 a1 j = 0) → cpTail a0 a1 K := fun hz => by
    have hp : pairsErr a0 a1 = (eachE a1.length (noneE a0 a1)).2 := by rw [pairsErr, eachE_none hz, if_neg (by simp)]
    rw [hp] at hK
    have hin : ∀ x ∈ a1, inA a0 x.1 ∧ inA a0 x.2 := fun x hx => by
      obtain ⟨j, hj, rfl⟩ := List.getElem_of_mem hx
      have := (pairE_zero (hz j hj)).1
      rwa [getD_lt hj] at this
    have hbd := boundF_in hok a1 hin
    unfold cpTail
    rw [br_true_]
    intro _
    refine LoopP.of (fun q : Int × Int × Unit => ∃ i : Nat, i ≤ a1.length ∧ q.2.1 = (i : Int) ∧ q.1 = boundF a0 (a1.take i) ∧ ∀ j, j < i → noneE a0 a1 j = 0) (fun q => ((a1.length : Int) - q.2.1).toNat) (fun again q hq hag => ?_) ⟨0, by omega, rfl, rfl, fun j hj => by omega⟩
    obtain ⟨sm, ii, u⟩ := q
    obtain ⟨i, hi, e1, e2, e3⟩ := hq
    simp only at e1 e2
    subst e1 e2
    dsimp only
    rw [br_dec]
    refine ⟨fun hlt => ?_, fun hlt => ?_⟩
    · have hlt : i < a1.length := by omega
      rw [br_false_]
      refine ⟨inb (by omega) (by omega), ?_⟩
      rw [Int.toNat_natCast]
      have hx := hin (a1.getD i (0, 0)) (by rw [getD_lt hlt]; exact List.getElem_mem _)
      refine ⟨⟨hok, hx.1, hx.2⟩, ?_⟩
      have e96 : f96 (a0, a1.getD i (0, 0)) = match pairB a0 (a1.getD i (0, 0)).1 (a1.getD i (0, 0)).2 with
        | some n => (n, true)
        | none => (0, false) := rfl
      have b1 := hbd i (by omega)
      have b2 := hbd (i + 1) (by omega)
      rw [take_snocP hlt, boundF_snoc] at b2
      rw [e96]
      cases hpb : pairB a0 (a1.getD i (0, 0)).1 (a1.getD i (0, 0)).2 with
      | none =>
        simp only [Bool.not_false, br_t]
        have he : noneE a0 a1 i = 12 := by rw [noneE, hpb]; rfl
        rw [eachE_some hlt e3 (by rw [he]; decide), he] at hK
        exact hK _ rfl
      | some n =>
        simp only [Bool.not_true, br_f]
        have hc : cst a0 (a1.getD i (0, 0)).1 (a1.getD i (0, 0)).2 = n := by rw [cst, hpb]; rfl
        rw [hc] at b2
        rw [wr (n := boundF a0 (a1.take i) + n) (by omega) (by omega), wr (n := (i : Int) + 1) (by omega) (by omega)]
        refine hag _ ⟨i + 1, by omega, by simp only; omega, ?_, fun j hj => ?_⟩ (by simp only; omega)
        · simp only
          rw [take_snocP hlt, boundF_snoc, hc]
        · rcases Nat.lt_or_ge j i with hh | hh
          · exact e3 j hh
          · have : j = i := by omega
            subst this
            rw [noneE, hpb]
            rfl
    · have : i = a1.length := by omega
      subst this
      rw [eachE_none e3, if_neg (by simp)] at hK
      rw [List.take_length]
      exact hK _ rfl
  rw [br_true_]
  intro _
  refine LoopP.of (fun q : Int × List (Int × Bool) × Int × Unit => ∃ i : Nat, i ≤ a1.length ∧ q.1 = (i : Int) ∧ (∀ j, j < i → pairE a0 a1 j = 0) ∧ (∀ n, (mget (.int .i64) .bool q.2.1 n).getD false = usedB (a1.take i) n) ∧ q.2.2.1 = lastOfP a1 i) (fun q => ((a1.length : Int) - q.1).toNat) (fun again q hq hag => ?_) ⟨0, by omega, rfl, fun j hj => (by omega), fun n => rfl, rfl⟩
  obtain ⟨ii, M, la, u⟩ := q
  obtain ⟨i, hi, e1, e2, e3, e4⟩ := hq
  simp only at e1 e3 e4
  subst e1 e4
  dsimp only
  rw [br_dec]
  refine ⟨fun hlt => ?_, fun hlt => ?_⟩
  · have hlt : i < a1.length := by omega
    rw [br_false_]
    refine ⟨inb (by omega) (by omega), ?_⟩
    rw [cpB_eq, Int.toNat_natCast, e98, e98, e3, e3, wr (n := (i : Int) + 1) (by omega) (by omega)]
    have hsn := take_snocP hlt
    have hE : f66 [f68 (decide (inA a0 (a1.getD i (0, 0)).1) && decide (inA a0 (a1.getD i (0, 0)).2), 6), f68 (decide ((a1.getD i (0, 0)).1 < (a1.getD i (0, 0)).2) && decide ((a1.getD i (0, 0)).1 > lastOfP a1 i), 9),
        f68 (!usedB (a1.take i) (a1.getD i (0, 0)).1 && !usedB (a1.take i) (a1.getD i (0, 0)).2, 21)] = pairE a0 a1 i := by
      rw [three_errs, pairE]
      simp only [Bool.and_eq_false_iff, decide_eq_false_iff_not, freeB]
      have d1 : (¬ inA a0 (a1.getD i (0, 0)).1 ∨ ¬ inA a0 (a1.getD i (0, 0)).2) ↔ ¬ (inA a0 (a1.getD i (0, 0)).1 ∧ inA a0 (a1.getD i (0, 0)).2) := Classical.not_and_iff_not_or_not.symm
      have d2 : (¬ (a1.getD i (0, 0)).1 < (a1.getD i (0, 0)).2 ∨ ¬ (a1.getD i (0, 0)).1 > lastOfP a1 i) ↔ ¬ ((a1.getD i (0, 0)).1 < (a1.getD i (0, 0)).2 ∧ (a1.getD i (0, 0)).1 > lastOfP a1 i) := Classical.not_and_iff_not_or_not.symm
      simp only [d1, d2]
    unfold cpE
    rw [hE]
    by_cases hz : pairE a0 a1 i = 0
    · rw [hz]
      simp only [bne_self_eq_false, br_f]
      refine hag _ ⟨i + 1, by omega, by simp only; omega, fun j hj => ?_, fun n => ?_, ?_⟩ (by simp only; omega)
      · rcases Nat.lt_or_ge j i with hh | hh
        · exact e2 j hh
        · have : j = i := by omega
          subst this
          exact hz
      · simp only
        rw [mget_mputb, mget_mputb, hsn, usedB_snoc, ← e3 n]
        generalize (a1.getD i (0, 0)).1 = x
        generalize (a1.getD i (0, 0)).2 = y
        by_cases h1 : y = n
        · rw [if_pos h1]
          simp [h1]
        · rw [if_neg h1]
          by_cases h2 : x = n
          · rw [if_pos h2]
            simp [h2]
          · rw [if_neg h2, beq_eq_false_iff_ne.2 h1, beq_eq_false_iff_ne.2 h2]
            simp
      · simp only
        rw [lastOfP, if_neg (by omega), show i + 1 - 1 = i by omega]
    · have hp : pairsErr a0 a1 = pairE a0 a1 i := by rw [pairsErr, eachE_some hlt e2 hz, if_pos hz]
      rw [hp, if_pos hz] at hK
      rw [bne_iff_ne.2 hz]
      exact hK _ rfl
  · have : i = a1.length := by omega
    subst this
    exact tail e2
theorem f53_fn : f53_e.fn = f53 := rfl
theorem f53_ok : EntryOK Try.prog 53 f53_e := by
  refine entryF progOK (EnvOK.cons f24_ok (EnvOK.cons f66_ok (EnvOK.cons f68_ok (EnvOK.cons f96_ok (EnvOK.cons f98_ok (EnvOK.cons f52_ok (EnvOK.nil))))))) (A := f53_A) (d := 6) Try.func53 rfl rfl rfl rfl (fun h => by cases h) fun x hpre => ?_
  obtain ⟨a0, a1⟩ := x
  exact f53_t a0 a1 hpre _ fun _ h => h.trans (congrFun f53_fn.symm _)
end Go.Proofs.Ytglokajinehbmaa
end

section
namespace Go.Proofs.Ytglokajinehbmaa
open Go Go.Pi Go.RowKit
set_option maxRecDepth 100000
set_option linter.unusedVariables false
set_option linter.unusedSimpArgs false

def f54 (l : List (Int × Int)) : List (Int × Int) := l
def f54_pre (l : List (Int × Int)) : Prop := l.length ≤ 1000
def f54_e : Entry := { doms := [(false, (.sl (.pair (.int .i64) (.int .i64))))], cods := [(false, (.sl (.pair (.int .i64) (.int .i64))))], pre := f54_pre, fn := f54, uq := true, total := false }
def f54_E : Env := []
def f54_A : Anns := { loops := [], own := [1049600] }
theorem f54_run (a0 : List (Int × Int)) (K : (List (Int × Int)) → Prop) : runU Try.prog f54_E f54_A 6 Try.f54 f54_e.doms f54_e.cods a0 K =
    (br (roomOk (0 + (a0.length)) 16)
    (K (([] : List (Int × Int)) ++ a0))
    False) := by kernel_rfl
theorem f54_t (a0 : List (Int × Int)) (hpre : f54_pre a0) (K : (List (Int × Int)) → Prop) (hK : ∀ y : List (Int × Int), y = f54 a0 → K y) : RunU Try.prog f54_E f54_A 6 Try.f54 f54_e.doms f54_e.cods a0 K := by
  refine ⟨?_⟩
  rw [f54_run a0 K]
  have h : a0.length ≤ 1000 := hpre
  rw [br_false_, roomOk_iff]
  exact ⟨by omega, hK _ rfl⟩
theorem f54_fn : f54_e.fn = f54 := rfl
theorem f54_ok : EntryOK Try.prog 54 f54_e := by
  refine entryFU progOK (EnvOK.nil) (A := f54_A) (d := 6) Try.func54 rfl rfl rfl (fun h => by cases h) fun x hpre => ?_
  exact f54_t x hpre _ fun _ h => h.trans (congrFun f54_fn.symm _)
end Go.Proofs.Ytglokajinehbmaa
end

section
namespace Go.Proofs.Ytglokajinehbmaa
set_option linter.unusedVariables false
set_option linter.unusedSimpArgs false
open Go Go.Pi
def cost1 (p : Prob) (s : Int × Int) : Int := (p.2.1.getD s.1.toNat arrD).2.2.2.2 * (s.2 - (p.2.1.getD s.1.toNat arrD).2.2.1)
theorem foldl_shift {α : Type} (f : α → Int) : ∀ (l : List α) (n : Int), l.foldl (fun n x => n + f x) n = n + l.foldl (fun n x => n + f x) 0
  | [], n => by simp
  | x :: r, n => by
    simp only [List.foldl_cons]
    rw [foldl_shift f r (n + f x), foldl_shift f r (0 + f x)]
    omega
theorem costF_cons (p : Prob) (s : Int × Int) (T : List (Int × Int)) : costF p (s :: T) = cost1 p s + costF p T := by
  unfold costF
  have := foldl_shift (cost1 p) T (0 + cost1 p s)
  simp only [List.foldl_cons]
  unfold cost1 at this ⊢
  rw [this]
  omega
theorem boundF_cons (p : Prob) (x : Int × Int) (l : Prs) : boundF p (x :: l) = cst p x.1 x.2 + boundF p l := by
  unfold boundF
  have := foldl_shift (fun x : Int × Int => cst p x.1 x.2) l (0 + cst p x.1 x.2)
  simp only [List.foldl_cons]
  rw [this]
  omega
def costA (p : Prob) : List (Int × Int) → Int → Int
  | [], _ => 0
  | s :: T, a => (if s.1 = a then cost1 p s else 0) + costA p T a
def sumA (f : Int → Int) : List Int → Int
  | [] => 0
  | a :: r => f a + sumA f r
theorem sumA_c (f : Int → Int) (a : Int) (r : List Int) : sumA f (a :: r) = f a + sumA f r := rfl
theorem costA_c (p : Prob) (s : Int × Int) (T : List (Int × Int)) (a : Int) : costA p (s :: T) a = (if s.1 = a then cost1 p s else 0) + costA p T a := rfl
theorem sumA_cons (p : Prob) (s : Int × Int) (T : List (Int × Int)) : ∀ xs : List Int, xs.Nodup → 0 ≤ cost1 p s → sumA (costA p (s :: T)) xs ≤ cost1 p s + sumA (costA p T) xs
  | [], _, h => by simp [sumA]; exact h
  | a :: r, hn, h => by
    obtain ⟨h1, h2⟩ := List.nodup_cons.1 hn
    have ih := sumA_cons p s T r h2 h
    by_cases hs : s.1 = a
    · have hno : ∀ r : List Int, a ∉ r → sumA (costA p (s :: T)) r = sumA (costA p T) r := by
        intro r hr
        induction r with
        | nil => rfl
        | cons b r ih =>
          rw [sumA_c, sumA_c, costA_c, ih fun hh => hr (.tail _ hh), if_neg (fun e => hr (by rw [← hs, e]; exact .head _))]
          omega
      rw [sumA_c, sumA_c, costA_c, hno r h1, if_pos hs]
      omega
    · rw [sumA_c, sumA_c, costA_c, if_neg hs]
      omega
theorem sumA_le (p : Prob) {xs : List Int} (hn : xs.Nodup) : ∀ T : List (Int × Int), (∀ s ∈ T, 0 ≤ cost1 p s) → sumA (costA p T) xs ≤ costF p T
  | [], _ => by
    have : ∀ xs : List Int, sumA (costA p []) xs = 0 := by
      intro xs
      induction xs with
      | nil => rfl
      | cons a r ih => rw [sumA_c, ih]; rfl
    rw [this]
    exact Int.le_refl _
  | s :: T, h => by
    have h1 := sumA_cons p s T xs hn (h s (.head _))
    have h2 := sumA_le p hn T fun x hx => h x (.tail _ hx)
    rw [costF_cons]
    omega
theorem costA_ge (p : Prob) : ∀ (T : List (Int × Int)), (∀ s ∈ T, 0 ≤ cost1 p s) → ∀ s ∈ T, cost1 p s ≤ costA p T s.1
  | [], _, s, hs => by cases hs
  | x :: T, h, s, hs => by
    have hnn : ∀ (T : List (Int × Int)) (a : Int), (∀ s ∈ T, 0 ≤ cost1 p s) → 0 ≤ costA p T a := by
      intro T a
      induction T with
      | nil => intro _; exact Int.le_refl _
      | cons y T ih =>
        intro h
        have := ih fun s hs => h s (.tail _ hs)
        have := h y (.head _)
        simp only [costA]
        split <;> omega
    have hT : ∀ s ∈ T, 0 ≤ cost1 p s := fun s hs => h s (.tail _ hs)
    simp only [costA]
    rcases List.mem_cons.1 hs with rfl | hs
    · rw [if_pos rfl]
      have := hnn T s.1 hT
      omega
    · have := costA_ge p T hT s hs
      have := h x (.head _)
      split <;> omega
theorem Whole.nonneg {p : Prob} {T : List (Int × Int)} (h : Whole p T) : ∀ s ∈ T, 0 ≤ cost1 p s := fun s hs => by
  obtain ⟨i, hi, rfl⟩ := List.getElem_of_mem hs
  have hk := slE_ok.1 (slots_ok.1 h.slots i hi)
  rw [getD_lt hi] at hk
  obtain ⟨⟨⟨s1, s2⟩, _⟩, ⟨h1, _⟩, _⟩ := hk
  obtain ⟨⟨_, a2, _⟩, _⟩ := h.ok.v.arr T[i].1.toNat (by omega)
  have hc : 0 ≤ (p.2.1.getD T[i].1.toNat arrD).2.2.2.2 := a2.2.2.2.1
  exact Int.mul_nonneg hc (by omega)
theorem Whole.has {p : Prob} {T : List (Int × Int)} (h : Whole p T) {a : Int} (ha : inA p a) : ∃ i, i < T.length ∧ (T.getD i (0, 0)).1 = a := by
  have hp := h.perm 0
  rw [List.drop_zero, List.take_zero] at hp
  have : a ∈ T.map (·.1) := hp.symm.subset (rest_mem.2 ⟨ha, rfl⟩)
  obtain ⟨s, hs, e⟩ := List.mem_map.1 this
  obtain ⟨i, hi, rfl⟩ := List.getElem_of_mem hs
  exact ⟨i, hi, by rw [getD_lt hi]; exact e⟩
/-- One before the other, both can be placed alone, and cost no more. -/
theorem Whole.two {p : Prob} {T : List (Int × Int)} (h : Whole p T) {i j : Nat} (hij : i < j) (hj : j < T.length) : ∃ S, contL p [] [(T.getD i (0, 0)).1, (T.getD j (0, 0)).1] = some S ∧ costF p S ≤ cost1 p (T.getD i (0, 0)) + cost1 p (T.getD j (0, 0)) := by
  have hki := slE_ok.1 (slots_ok.1 h.slots i (by omega))
  have hkj := slE_ok.1 (slots_ok.1 h.slots j hj)
  have hni := h.nonneg (T.getD i (0, 0)) (by rw [getD_lt (by omega)]; exact List.getElem_mem _)
  have hsj := soonF_le.1 hkj.2.2
  have hap := hsj.2 (T.getD i (0, 0)) (by rw [getD_lt (show i < T.length by omega)]; exact List.mem_take_iff_getElem.2 ⟨i, by omega, rfl⟩)
  have s1 : soonF p [] (T.getD i (0, 0)).1 = (p.2.1.getD (T.getD i (0, 0)).1.toNat arrD).2.2.1 := rfl
  have hle2 : soonF p [((T.getD i (0, 0)).1, (p.2.1.getD (T.getD i (0, 0)).1.toNat arrD).2.2.1)] (T.getD j (0, 0)).1 ≤ (T.getD j (0, 0)).2 := soonF_le.2 ⟨hsj.1, fun s hs => by
    simp only [List.mem_singleton] at hs
    subst hs
    have := hki.2.1.1
    simp only
    omega⟩
  refine ⟨[((T.getD i (0, 0)).1, (p.2.1.getD (T.getD i (0, 0)).1.toNat arrD).2.2.1), ((T.getD j (0, 0)).1, soonF p [((T.getD i (0, 0)).1, (p.2.1.getD (T.getD i (0, 0)).1.toNat arrD).2.2.1)] (T.getD j (0, 0)).1)], ?_, ?_⟩
  · simp only [contL, s1, List.nil_append]
    rw [if_neg (by have := hki.2.1; omega), if_neg (by have := hkj.2.1; omega)]
    rfl
  · rw [costF_cons, costF_cons]
    have hz : costF p [] = 0 := rfl
    have ha : cost1 p ((T.getD i (0, 0)).1, (p.2.1.getD (T.getD i (0, 0)).1.toNat arrD).2.2.1) = 0 := by simp [cost1]
    obtain ⟨⟨b1, b2⟩, _⟩ := hkj.1
    obtain ⟨⟨_, a2, _⟩, _⟩ := h.ok.v.arr (T.getD j (0, 0)).1.toNat (by omega)
    have hc : 0 ≤ (p.2.1.getD (T.getD j (0, 0)).1.toNat arrD).2.2.2.2 := a2.2.2.2.1
    have hm := Int.mul_le_mul_of_nonneg_left (show soonF p [((T.getD i (0, 0)).1, (p.2.1.getD (T.getD i (0, 0)).1.toNat arrD).2.2.1)] (T.getD j (0, 0)).1 - (p.2.1.getD (T.getD j (0, 0)).1.toNat arrD).2.2.1 ≤ (T.getD j (0, 0)).2 - (p.2.1.getD (T.getD j (0, 0)).1.toNat arrD).2.2.1 by omega) hc
    rw [hz, ha]
    unfold cost1 at hni ⊢
    simp only at hm ⊢
    omega
theorem Whole.pair {p : Prob} {T : List (Int × Int)} (h : Whole p T) {a b : Int} (ha : inA p a) (hb : inA p b) (hab : a ≠ b) : (pairB p a b).isSome = true ∧ cst p a b ≤ costA p T a + costA p T b := by
  obtain ⟨i, hi, ei⟩ := h.has ha
  obtain ⟨j, hj, ej⟩ := h.has hb
  have hgi := costA_ge p T h.nonneg (T.getD i (0, 0)) (by rw [getD_lt hi]; exact List.getElem_mem _)
  have hgj := costA_ge p T h.nonneg (T.getD j (0, 0)) (by rw [getD_lt hj]; exact List.getElem_mem _)
  rw [ei] at hgi
  rw [ej] at hgj
  unfold cst pairB
  rcases Nat.lt_trichotomy i j with hlt | rfl | hlt
  · obtain ⟨S, hS, hc⟩ := h.two hlt hj
    rw [ei, ej] at hS
    rw [hS]
    cases contL p [] [b, a] with
    | none => exact ⟨rfl, by simp only [Option.getD_some]; omega⟩
    | some y => exact ⟨rfl, by simp only [Option.getD_some]; omega⟩
  · exact absurd (ei.symm.trans ej) hab
  · obtain ⟨S, hS, hc⟩ := h.two hlt hi
    rw [ei, ej] at hS
    rw [hS]
    cases contL p [] [a, b] with
    | none => exact ⟨rfl, by simp only [Option.getD_some]; omega⟩
    | some y => exact ⟨rfl, by simp only [Option.getD_some]; omega⟩
theorem Whole.pairs {p : Prob} {T : List (Int × Int)} (h : Whole p T) : ∀ {l : Prs}, (comps l).Nodup → (∀ x ∈ comps l, inA p x) → boundF p l ≤ sumA (costA p T) (comps l)
  | [], _, _ => Int.le_refl _
  | x :: r, hn, hi => by
    have e : comps (x :: r) = x.1 :: x.2 :: comps r := rfl
    rw [e] at hn hi ⊢
    obtain ⟨h1, h2⟩ := List.nodup_cons.1 hn
    obtain ⟨h3, h4⟩ := List.nodup_cons.1 h2
    have ih := h.pairs h4 fun y hy => hi y (.tail _ (.tail _ hy))
    have hp := (h.pair (hi x.1 (.head _)) (hi x.2 (.tail _ (.head _))) (fun e => h1 (by rw [e]; exact .head _))).2
    rw [boundF_cons]
    simp only [sumA]
    omega
theorem Whole.bound {p : Prob} {T : List (Int × Int)} (h : Whole p T) {l : Prs} (hl : PrsV p.2.1.length l) : boundF p l ≤ costF p T := by
  have h1 := h.pairs hl.nd fun x hx => hl.rng x hx
  have h2 := sumA_le p hl.nd T h.nonneg
  omega
theorem Whole.costs {p : Prob} {T : List (Int × Int)} (h : Whole p T) : costsOk p := fun i hi k hk =>
  (h.pair ⟨by omega, by omega⟩ ⟨by omega, by omega⟩ (by omega)).1
/-! ### the best pairs -/
theorem matchL_valid {count : Nat} : ∀ (f from_ : Nat) (begun : Prs), PrsV count begun → ∀ l ∈ matchL count f from_ begun, PrsV count l
  | 0, from_, begun, h, l, hl => by
    simp only [matchL, List.mem_singleton] at hl
    rw [hl]; exact h
  | f + 1, from_, begun, h, l, hl => by
    simp only [matchL] at hl
    rcases List.mem_cons.1 hl with rfl | hl
    · exact h
    · obtain ⟨a, ha, hl⟩ := List.mem_flatMap.1 hl
      split at hl
      · cases hl
      · obtain ⟨b, hb, hl⟩ := List.mem_flatMap.1 hl
        split at hl
        · rename_i hc
          exact matchL_valid f _ _ (h.snoc hc.1 (List.mem_range.1 hb) hc.2) l hl
        · cases hl
theorem mStep_spec (p : Prob) : ∀ (L : List Prs) (s : Prs × Int), s.2 ≤ (L.foldl (mStep p) s).2 ∧ (∀ l ∈ L, boundF p l ≤ (L.foldl (mStep p) s).2) ∧ (L.foldl (mStep p) s = s ∨ ∃ l ∈ L, L.foldl (mStep p) s = (l, boundF p l))
  | [], s => ⟨Int.le_refl _, fun l hl => (by cases hl), .inl rfl⟩
  | x :: L, s => by
    obtain ⟨h1, h2, h3⟩ := mStep_spec p L (mStep p s x)
    simp only [List.foldl_cons]
    by_cases hc : boundF p x > s.2
    · have e : mStep p s x = (x, boundF p x) := if_pos hc
      rw [e] at h1 h2 h3 ⊢
      simp only at h1
      refine ⟨by omega, fun l hl => ?_, .inr ?_⟩
      · rcases List.mem_cons.1 hl with rfl | hl
        · exact h1
        · exact h2 l hl
      · rcases h3 with h3 | ⟨l, hl, h3⟩
        · exact ⟨x, .head _, h3⟩
        · exact ⟨l, .tail _ hl, h3⟩
    · have e : mStep p s x = s := if_neg hc
      rw [e] at h1 h2 h3 ⊢
      refine ⟨h1, fun l hl => ?_, ?_⟩
      · rcases List.mem_cons.1 hl with rfl | hl
        · omega
        · exact h2 l hl
      · rcases h3 with h3 | ⟨l, hl, h3⟩
        · exact .inl h3
        · exact .inr ⟨l, .tail _ hl, h3⟩
def ChainP (count : Nat) : Nat → Prs → Prs → Prop
  | _, _, [] => True
  | from_, begun, x :: r => ∃ a b : Nat, x = ((a : Int), (b : Int)) ∧ from_ ≤ a ∧ a < b ∧ b < count ∧ freeB begun a b = true ∧ ChainP count (a + 1) (begun ++ [((a : Int), (b : Int))]) r
theorem matchL_has {count : Nat} : ∀ (r : Prs) (f from_ : Nat) (begun : Prs), count ≤ f + from_ → ChainP count from_ begun r → begun ++ r ∈ matchL count f from_ begun
  | [], f, from_, begun, hf, _ => by
    rw [matchL_cons hf, List.append_nil]
    exact .head _
  | x :: r, f, from_, begun, hf, ⟨a, b, hx, h1, h2, h3, h4, h5⟩ => by
    obtain ⟨f', rfl⟩ : ∃ f', f = f' + 1 := ⟨f - 1, by omega⟩
    have ih := matchL_has r f' (a + 1) _ (by omega) h5
    simp only [matchL]
    refine .tail _ (List.mem_flatMap.2 ⟨a, List.mem_range.2 (by omega), ?_⟩)
    rw [if_neg (by omega)]
    refine List.mem_flatMap.2 ⟨b, List.mem_range.2 h3, ?_⟩
    rw [if_pos ⟨h2, h4⟩, hx]
    rw [List.append_assoc] at ih
    exact ih
theorem chain_of {p : Prob} {l : Prs} (h : ∀ i, i < l.length → pairE p l i = 0) : ∀ (d i : Nat), i + d = l.length → ChainP p.2.1.length (lastOfP l i + 1).toNat (l.take i) (l.drop i)
  | 0, i, hd => by
    rw [List.drop_eq_nil_of_le (by omega)]
    trivial
  | d + 1, i, hd => by
    have hi : i < l.length := by omega
    obtain ⟨⟨⟨a1, a2⟩, ⟨b1, b2⟩⟩, ⟨c1, c2⟩, hf⟩ := pairE_zero (h i hi)
    have ih := chain_of h d (i + 1) (by omega)
    have e : l.drop i = l.getD i (0, 0) :: l.drop (i + 1) := by
      rw [getD_lt hi]
      exact List.drop_eq_getElem_cons hi
    rw [e]
    have ea : (((l.getD i (0, 0)).1.toNat : Nat) : Int) = (l.getD i (0, 0)).1 := by omega
    have eb : (((l.getD i (0, 0)).2.toNat : Nat) : Int) = (l.getD i (0, 0)).2 := by omega
    refine ⟨(l.getD i (0, 0)).1.toNat, (l.getD i (0, 0)).2.toNat, by rw [ea, eb], by omega, by omega, by omega, by rw [ea, eb]; exact hf, ?_⟩
    have el : lastOfP l (i + 1) = (l.getD i (0, 0)).1 := by rw [lastOfP, if_neg (by omega), show i + 1 - 1 = i by omega]
    rw [el, take_snocP hi] at ih
    rw [ea, eb]
    have : (l.getD i (0, 0)).1.toNat + 1 = ((l.getD i (0, 0)).1 + 1).toNat := by omega
    rw [this]
    exact ih
theorem pairsErr_le {p : Prob} (hok : okP p) {l : Prs} (h : pairsErr p l = 0) : boundF p l ≤ (bestM p).2 := by
  have hz : ∀ i, i < l.length → pairE p l i = 0 := by
    unfold pairsErr at h
    split at h
    · rename_i hh; exact absurd h hh
    · rename_i hh
      exact eachE_zero (Classical.byContradiction hh)
  have hc := chain_of hz l.length 0 (by omega)
  have h6 := hok.v.six
  have hm := matchL_has l 7 0 [] (by omega) hc
  exact (mStep_spec p _ ([], 0)).2.1 l hm
theorem bestM_cases (p : Prob) : (bestM p).2 = 0 ∨ ∃ l, PrsV p.2.1.length l ∧ (bestM p).2 = boundF p l := by
  have h0 : PrsV p.2.1.length [] := ⟨List.nodup_nil, fun x hx => by cases hx⟩
  rcases (mStep_spec p (matchL p.2.1.length 7 0 []) ([], 0)).2.2 with h | ⟨l, hl, h⟩
  · exact .inl (congrArg Prod.snd h)
  · exact .inr ⟨l, matchL_valid 7 0 [] h0 l hl, congrArg Prod.snd h⟩
theorem Whole.bestM {p : Prob} {T : List (Int × Int)} (h : Whole p T) : (bestM p).2 ≤ costF p T := by
  rcases bestM_cases p with e | ⟨l, hl, e⟩
  · rw [e]
    have h0 : PrsV p.2.1.length [] := ⟨List.nodup_nil, fun x hx => by cases hx⟩
    exact h.bound h0
  · rw [e]
    exact h.bound hl
end Go.Proofs.Ytglokajinehbmaa
end
