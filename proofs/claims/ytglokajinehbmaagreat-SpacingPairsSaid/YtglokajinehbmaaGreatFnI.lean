/- What functions of the program compute, each proved once, part 9. -/
import Derived.Test.YtglokajinehbmaaGreatPiD
import Derived.Test.YtglokajinehbmaaGreatFnA
import Derived.Test.YtglokajinehbmaaGreatFnD
import Derived.Test.YtglokajinehbmaaGreatFnG
import Derived.Test.YtglokajinehbmaaGreatFnE
import Derived.Test.YtglokajinehbmaaGreatFnH

section
namespace Go.Proofs.YtglokajinehbmaaGreat
open Go Go.Pi Go.RowKit
set_option maxRecDepth 100000
set_option linter.unusedVariables false
set_option linter.unusedSimpArgs false

theorem mget_mputb (k k' : Int) (x : Bool) : ∀ M : List (Int × Bool), mget (.int .i64) .bool (mput (.int .i64) .bool M k x) k' = if k = k' then some x else mget (.int .i64) .bool M k'
  | [] => by
    simp only [mput, mget, Sch.eqb]
    by_cases h1 : k = k'
    · subst h1; simp
    · rw [if_neg h1, beq_eq_false_iff_ne.2 (fun e => h1 e.symm)]
  | y :: r => by
    have ih := mget_mputb k k' x r
    simp only [mput]
    cases hy : (Sch.int .i64).eqb k y.1 with
    | true =>
      have e : k = y.1 := by
        simp only [Sch.eqb, beq_iff_eq] at hy
        exact hy
      simp only [mget]
      cases hk : (Sch.int .i64).eqb k' k with
      | true =>
        have e2 : k = k' := by
          simp only [Sch.eqb, beq_iff_eq] at hk
          exact hk.symm
        simp [e2]
      | false =>
        have e2 : ¬ k = k' := fun e2 => by
          subst e2
          simp [Sch.eqb] at hk
        rw [if_neg e2, ← e, hk]
    | false =>
      simp only [mget]
      rw [ih]
      cases hk : (Sch.int .i64).eqb k' y.1 with
      | true =>
        have e2 : ¬ k = k' := fun e2 => by
          subst e2
          rw [hy] at hk
          cases hk
        simp only [if_neg e2]
      | false => rfl
def lastOfP (l : Prs) (i : Nat) : Int := if i = 0 then -1 else (l.getD (i - 1) (0, 0)).1
instance (p : Prob) (a : Int) : Decidable (inA p a) := by unfold inA; infer_instance
def pairE (p : Prob) (l : Prs) (i : Nat) : Int := if ¬ (inA p (l.getD i (0, 0)).1 ∧ inA p (l.getD i (0, 0)).2) then 6 else if ¬ ((l.getD i (0, 0)).1 < (l.getD i (0, 0)).2 ∧ (l.getD i (0, 0)).1 > lastOfP l i) then 9 else
  if freeB (l.take i) (l.getD i (0, 0)).1 (l.getD i (0, 0)).2 = false then 21 else 0
def noneE (p : Prob) (l : Prs) (i : Nat) : Int := if (pairB p (l.getD i (0, 0)).1 (l.getD i (0, 0)).2).isSome = true then 0 else 12
def pairsErr (p : Prob) (l : Prs) : Int := if (eachE l.length (pairE p l)).2 ≠ 0 then (eachE l.length (pairE p l)).2 else (eachE l.length (noneE p l)).2
def f7 (x : ((List (List Int) × List (List Int)) × List (ByteArray × Int × Int × Int × Int) × List Int) × List (Int × Int)) : Int × Int :=
  if (probOf x.1).2 ≠ 0 then (0, (probOf x.1).2) else if pairsErr x.1 x.2 ≠ 0 then (0, pairsErr x.1 x.2) else (boundF x.1 x.2, 0)
def f7_pre (x : ((List (List Int) × List (List Int)) × List (ByteArray × Int × Int × Int × Int) × List Int) × List (Int × Int)) : Prop := f76_pre x.1 ∧ x.2.length ≤ 1000
/-- What follows once the pairs are found valid. -/
def cpTail (a0 : Prob) (a1 : Prs) (K : Int × Int → Prop) : Prop := br (lenOk (a1.length)) (LoopP (V := Int × Int × Unit) (fun again v =>
  br (decide (v.2.1 < ((a1.length) : Int))) (br (decide (0 ≤ v.2.1) && decide (v.2.1 < ((a1.length) : Int)))
    (f44_pre (a0, (a1.getD v.2.1.toNat (0, 0))) ∧ br (!(f44 (a0, (a1.getD v.2.1.toNat (0, 0)))).2) (K (0, 12))
      (again (IntKind.i64.wrap (v.1 + (f44 (a0, (a1.getD v.2.1.toNat (0, 0)))).1), IntKind.i64.wrap (v.2.1 + 1), ()))) False) (K (v.1, 0))) (0, 0, ())) True
def cpE (a0 : Prob) (a1 : Prs) (K : Int × Int → Prop) (A : Prop) (b1 b2 b3 : Bool) : Prop :=
  br (f42 ([(f43 (b1, 6)), (f43 (b2, 9)), (f43 (b3, 21))] : List Int) != 0) (br (f42 ([(f43 (b1, 6)), (f43 (b2, 9)), (f43 (b3, 21))] : List Int) != 0)
    (K (0, f42 ([(f43 (b1, 6)), (f43 (b2, 9)), (f43 (b3, 21))] : List Int))) (cpTail a0 a1 K)) A
def cpB (E : Bool → Bool → Bool → Prop) (c2 c3 lt gt ua ub : Bool) : Prop := br c2 (br lt (br ua (E c3 gt ub) (E c3 gt false)) (br ua (E c3 false ub) (E c3 false false)))
  (br lt (br ua (E false gt ub) (E false gt false)) (br ua (E false false ub) (E false false false)))
theorem cpB_eq (E : Bool → Bool → Bool → Prop) (c2 c3 lt gt ua ub : Bool) : cpB E c2 c3 lt gt ua ub = E (c2 && c3) (lt && gt) (ua && ub) := by
  cases c2 <;> cases lt <;> cases ua <;> rfl
theorem three_errs (b1 b2 b3 : Bool) : f42 [f43 (b1, 6), f43 (b2, 9), f43 (b3, 21)] = if b1 = false then 6 else if b2 = false then 9 else if b3 = false then 21 else 0 := by
  cases b1 <;> cases b2 <;> cases b3 <;> rfl
theorem pairE_zero {p : Prob} {l : Prs} {i : Nat} (h : pairE p l i = 0) : (inA p (l.getD i (0, 0)).1 ∧ inA p (l.getD i (0, 0)).2) ∧ ((l.getD i (0, 0)).1 < (l.getD i (0, 0)).2 ∧ (l.getD i (0, 0)).1 > lastOfP l i) ∧ freeB (l.take i) (l.getD i (0, 0)).1 (l.getD i (0, 0)).2 = true := by
  unfold pairE at h
  split at h
  · simp at h
  · rename_i h1
    split at h
    · simp at h
    · rename_i h2
      split at h
      · simp at h
      · rename_i h3
        exact ⟨Classical.byContradiction h1, Classical.byContradiction h2, by simpa using h3⟩
theorem noneE_zero {p : Prob} {l : Prs} {i : Nat} (h : noneE p l i = 0) : (pairB p (l.getD i (0, 0)).1 (l.getD i (0, 0)).2).isSome = true := by
  unfold noneE at h
  split at h
  · assumption
  · simp at h
theorem usedB_snoc (l : Prs) (x : Int × Int) (n : Int) : usedB (l ++ [x]) n = (usedB l n || (x.1 == n || x.2 == n)) := by
  simp [usedB]
theorem take_snocP {l : Prs} {i : Nat} (hi : i < l.length) : l.take (i + 1) = l.take i ++ [l.getD i (0, 0)] := by
  rw [List.take_add_one, List.getElem?_eq_getElem hi, getD_lt hi]
  rfl
def f7_e : Entry := { doms := [(true, (.pair (.pair (.sl (.sl (.int .i64))) (.sl (.sl (.int .i64)))) (.pair (.sl (.pair .str (.pair (.int .i64) (.pair (.int .i64) (.pair (.int .i64) (.int .i64)))))) (.sl (.int .i64))))), (false, (.sl (.pair (.int .i64) (.int .i64))))], cods := [(false, (.int .i64)), (false, (.int .i64))], pre := f7_pre, fn := f7, uq := false, total := false }
def f7_E : Env := [(38, f38_e), (42, f42_e), (43, f43_e), (44, f44_e), (76, f76_e), (10, f10_e)]
def f7_A : Anns := { loops := [(1048576, { tms := [(6, .keep), (13, .data false (.int .i64)), (37, .keep), (38, .keep), (39, .data false (.int .i64))], obs := [(1048576, .keep), (1049605, .keep), (1052673, .keep), (1053696, .keep), (1053697, .keep), (1054720, .keep), (1100586418176, .keep), (1100586418177, .keep)], fz := [] }),
  (1107029917696, { tms := [(1, .keep), (9, .keep), (10, .keep), (11, .data false (.int .i64))], obs := [(1048576, .keep), (1049605, .keep), (1052673, .keep), (1053696, .map false false (.int .i64) .bool), (1053697, .keep), (1054720, .cells [.data (.int .i64)]), (1100586418176, .keep), (1100586418177, .keep)], fz := [] })], own := [1052672, 1160805007276116869, 2720906367540663233286083407862885599933713675080981498575614441349454236728657499416478790169868112432685429855801150056434566, 2723550591415824227681891069095016684093027293812838623452753036530551859893602744799779547011626973572075794703901243489651590] }
theorem f7_run (a0 : (List (List Int) × List (List Int)) × List (ByteArray × Int × Int × Int × Int) × List Int) (a1 : List (Int × Int)) (K : (Int × Int) → Prop) : runF Tryz.prog f7_E f7_A 6 Tryz.f7 f7_e.doms f7_e.cods (a0, a1) K =
    (f76_pre a0 ∧
    br ((f76 a0).2 != 0)
    (K (0, (f76 a0).2))
    (br (lenOk (a1.length))
    (LoopP (V := Int × List (Int × Bool) × Int × Unit) (fun again v => (fun (again1 : Int → List (Int × Bool) → Int → Prop) (v1_0 : Int) (v1_1 : List (Int × Bool)) (v1_2 : Int) =>
    br (decide (v1_0 < ((a1.length) : Int)))
    (br (decide (0 ≤ v1_0) && decide (v1_0 < ((a1.length) : Int)))
    (cpB (cpE a0 a1 K (again1 (IntKind.i64.wrap (v1_0 + 1)) (mput (.int .i64) .bool (mput (.int .i64) .bool v1_1 ((a1.getD v1_0.toNat (0, 0)).1) true) ((a1.getD v1_0.toNat (0, 0)).2) true) ((a1.getD v1_0.toNat (0, 0)).1)))
      (f38 ((a1.getD v1_0.toNat (0, 0)).1, ([(a0.1.1, (a0.1.2, a0.2))] : List (List (List Int) × List (List Int) × List (ByteArray × Int × Int × Int × Int) × List Int))))
      (f38 ((a1.getD v1_0.toNat (0, 0)).2, ([(a0.1.1, (a0.1.2, a0.2))] : List (List (List Int) × List (List Int) × List (ByteArray × Int × Int × Int × Int) × List Int))))
      (decide ((a1.getD v1_0.toNat (0, 0)).1 < (a1.getD v1_0.toNat (0, 0)).2)) (decide ((a1.getD v1_0.toNat (0, 0)).1 > v1_2))
      (!((mget (.int .i64) .bool v1_1 ((a1.getD v1_0.toNat (0, 0)).1)).getD false)) (!((mget (.int .i64) .bool v1_1 ((a1.getD v1_0.toNat (0, 0)).2)).getD false)))
    False)
    (cpTail a0 a1 K))
    (fun v1_0 v1_1 v1_2 => again (v1_0, v1_1, v1_2, ())) v.1 v.2.1 v.2.2.1) (0, ([] : List (Int × Bool)), (-1), ()))
    True)) := by kernel_rfl
theorem f7_t (a0 : (List (List Int) × List (List Int)) × List (ByteArray × Int × Int × Int × Int) × List Int) (a1 : List (Int × Int)) (hpre : f7_pre (a0, a1)) (K : (Int × Int) → Prop) (hK : ∀ y : Int × Int, y = f7 (a0, a1) → K y) : RunF Tryz.prog f7_E f7_A 6 Tryz.f7 f7_e.doms f7_e.cods (a0, a1) K := by
  refine ⟨?_⟩
  rw [f7_run a0 a1 K]
  obtain ⟨h24, hl⟩ := hpre
  simp only at h24 hl
  have e24 : f76 a0 = probOf a0 := rfl
  have ef : f7 (a0, a1) = if (probOf a0).2 ≠ 0 then (0, (probOf a0).2) else if pairsErr a0 a1 ≠ 0 then (0, pairsErr a0 a1) else (boundF a0 a1, 0) := rfl
  rw [ef] at hK
  refine ⟨h24, ?_⟩
  rw [e24, br_both]
  refine ⟨fun h => hK _ (if_pos (by simpa using h)).symm, fun h => ?_⟩
  have hok : okP a0 := by
    have : (probOf a0).2 = 0 := by simpa using h
    exact this
  rw [if_neg (fun hh => hh hok)] at hK
  have h6 := hok.v.six
  have e98 : ∀ n : Int, f38 (n, [(a0.1.1, (a0.1.2, a0.2))]) = decide (inA a0 n) := fun n => by
    show f39 (n, 0, IntKind.i64.wrap ((a0.2.1.length : Int) - 1)) = _
    rw [wr (n := (a0.2.1.length : Int) - 1) (by omega) (by omega), Bool.eq_iff_iff, f39_t1, decide_eq_true_iff]
    exact ⟨fun h => ⟨h.1, by omega⟩, fun h => ⟨h.1, by have := h.2; omega⟩⟩
  -- behind the pairs
  have tail : (∀ j, j < a1.length → pairE a0 a1 j = 0) → cpTail a0 a1 K := fun hz => by
    have hp : pairsErr a0 a1 = (eachE a1.length (noneE a0 a1)).2 := by rw [pairsErr, eachE_none hz, if_neg (by simp)]
    rw [hp] at hK
    have hin : ∀ x ∈ a1, inA a0 x.1 ∧ inA a0 x.2 := fun x hx => by
      obtain ⟨j, hj, rfl⟩ := List.getElem_of_mem hx
      have := (pairE_zero (hz j hj)).1
      rwa [getD_lt hj] at this
    have hbd := boundF_in hok a1 hin
    unfold cpTail
    rw [br_true_]
    intro _
    refine LoopP.of (fun q : Int × Int × Unit => ∃ i : Nat, i ≤ a1.length ∧ q.2.1 = (i : Int) ∧ q.1 = boundF a0 (a1.take i) ∧ ∀ j, j < i → noneE a0 a1 j = 0) (fun q => ((a1.length : Int) - q.2.1).toNat) (fun again q hq hag => ?_) ⟨0, by omega, rfl, rfl, fun j hj => by omega⟩
    obtain ⟨sm, ii, u⟩ := q
    obtain ⟨i, hi, e1, e2, e3⟩ := hq
    simp only at e1 e2
    subst e1 e2
    dsimp only
    rw [br_dec]
    refine ⟨fun hlt => ?_, fun hlt => ?_⟩
    · have hlt : i < a1.length := by omega
      rw [br_false_]
      refine ⟨inb (by omega) (by omega), ?_⟩
      rw [Int.toNat_natCast]
      have hx := hin (a1.getD i (0, 0)) (by rw [getD_lt hlt]; exact List.getElem_mem _)
      refine ⟨⟨hok, hx.1, hx.2⟩, ?_⟩
      have e96 : f44 (a0, a1.getD i (0, 0)) = match pairB a0 (a1.getD i (0, 0)).1 (a1.getD i (0, 0)).2 with
        | some n => (n, true)
        | none => (0, false) := rfl
      have b1 := hbd i (by omega)
      have b2 := hbd (i + 1) (by omega)
      rw [take_snocP hlt, boundF_snoc] at b2
      rw [e96]
      cases hpb : pairB a0 (a1.getD i (0, 0)).1 (a1.getD i (0, 0)).2 with
      | none =>
        simp only [Bool.not_false, br_t]
        have he : noneE a0 a1 i = 12 := by rw [noneE, hpb]; rfl
        rw [eachE_some hlt e3 (by rw [he]; decide), he] at hK
        exact hK _ rfl
      | some n =>
        simp only [Bool.not_true, br_f]
        have hc : cst a0 (a1.getD i (0, 0)).1 (a1.getD i (0, 0)).2 = n := by rw [cst, hpb]; rfl
        rw [hc] at b2
        rw [wr (n := boundF a0 (a1.take i) + n) (by omega) (by omega), wr (n := (i : Int) + 1) (by omega) (by omega)]
        refine hag _ ⟨i + 1, by omega, by simp only; omega, ?_, fun j hj => ?_⟩ (by simp only; omega)
        · simp only
          rw [take_snocP hlt, boundF_snoc, hc]
        · rcases Nat.lt_or_ge j i with hh | hh
          · exact e3 j hh
          · have : j = i := by omega
            subst this
            rw [noneE, hpb]
            rfl
    · have : i = a1.length := by omega
      subst this
      rw [eachE_none e3, if_neg (by simp)] at hK
      rw [List.take_length]
      exact hK _ rfl
  rw [br_true_]
  intro _
  refine LoopP.of (fun q : Int × List (Int × Bool) × Int × Unit => ∃ i : Nat, i ≤ a1.length ∧ q.1 = (i : Int) ∧ (∀ j, j < i → pairE a0 a1 j = 0) ∧ (∀ n, (mget (.int .i64) .bool q.2.1 n).getD false = usedB (a1.take i) n) ∧ q.2.2.1 = lastOfP a1 i) (fun q => ((a1.length : Int) - q.1).toNat) (fun again q hq hag => ?_) ⟨0, by omega, rfl, fun j hj => (by omega), fun n => rfl, rfl⟩
  obtain ⟨ii, M, la, u⟩ := q
  obtain ⟨i, hi, e1, e2, e3, e4⟩ := hq
  simp only at e1 e3 e4
  subst e1 e4
  dsimp only
  rw [br_dec]
  refine ⟨fun hlt => ?_, fun hlt => ?_⟩
  · have hlt : i < a1.length := by omega
    rw [br_false_]
    refine ⟨inb (by omega) (by omega), ?_⟩
    rw [cpB_eq, Int.toNat_natCast, e98, e98, e3, e3, wr (n := (i : Int) + 1) (by omega) (by omega)]
    have hsn := take_snocP hlt
    have hE : f42 [f43 (decide (inA a0 (a1.getD i (0, 0)).1) && decide (inA a0 (a1.getD i (0, 0)).2), 6), f43 (decide ((a1.getD i (0, 0)).1 < (a1.getD i (0, 0)).2) && decide ((a1.getD i (0, 0)).1 > lastOfP a1 i), 9),
        f43 (!usedB (a1.take i) (a1.getD i (0, 0)).1 && !usedB (a1.take i) (a1.getD i (0, 0)).2, 21)] = pairE a0 a1 i := by
      rw [three_errs, pairE]
      simp only [Bool.and_eq_false_iff, decide_eq_false_iff_not, freeB]
      have d1 : (¬ inA a0 (a1.getD i (0, 0)).1 ∨ ¬ inA a0 (a1.getD i (0, 0)).2) ↔ ¬ (inA a0 (a1.getD i (0, 0)).1 ∧ inA a0 (a1.getD i (0, 0)).2) := Classical.not_and_iff_not_or_not.symm
      have d2 : (¬ (a1.getD i (0, 0)).1 < (a1.getD i (0, 0)).2 ∨ ¬ (a1.getD i (0, 0)).1 > lastOfP a1 i) ↔ ¬ ((a1.getD i (0, 0)).1 < (a1.getD i (0, 0)).2 ∧ (a1.getD i (0, 0)).1 > lastOfP a1 i) := Classical.not_and_iff_not_or_not.symm
      simp only [d1, d2]
    unfold cpE
    rw [hE]
    by_cases hz : pairE a0 a1 i = 0
    · rw [hz]
      simp only [bne_self_eq_false, br_f]
      refine hag _ ⟨i + 1, by omega, by simp only; omega, fun j hj => ?_, fun n => ?_, ?_⟩ (by simp only; omega)
      · rcases Nat.lt_or_ge j i with hh | hh
        · exact e2 j hh
        · have : j = i := by omega
          subst this
          exact hz
      · simp only
        rw [mget_mputb, mget_mputb, hsn, usedB_snoc, ← e3 n]
        generalize (a1.getD i (0, 0)).1 = x
        generalize (a1.getD i (0, 0)).2 = y
        by_cases h1 : y = n
        · rw [if_pos h1]
          simp [h1]
        · rw [if_neg h1]
          by_cases h2 : x = n
          · rw [if_pos h2]
            simp [h2]
          · rw [if_neg h2, beq_eq_false_iff_ne.2 h1, beq_eq_false_iff_ne.2 h2]
            simp
      · simp only
        rw [lastOfP, if_neg (by omega), show i + 1 - 1 = i by omega]
    · have hp : pairsErr a0 a1 = pairE a0 a1 i := by rw [pairsErr, eachE_some hlt e2 hz, if_pos hz]
      rw [hp, if_pos hz] at hK
      rw [bne_iff_ne.2 hz]
      exact hK _ rfl
  · have : i = a1.length := by omega
    subst this
    exact tail e2
theorem f7_fn : f7_e.fn = f7 := rfl
theorem f7_ok : EntryOK Tryz.prog 7 f7_e := by
  refine entryF progOK (EnvOK.cons f38_ok (EnvOK.cons f42_ok (EnvOK.cons f43_ok (EnvOK.cons f44_ok (EnvOK.cons f76_ok (EnvOK.cons f10_ok (EnvOK.nil))))))) (A := f7_A) (d := 6) Tryz.func7 rfl rfl rfl rfl (fun h => by cases h) fun x hpre => ?_
  obtain ⟨a0, a1⟩ := x
  exact f7_t a0 a1 hpre _ fun _ h => h.trans (congrFun f7_fn.symm _)
end Go.Proofs.YtglokajinehbmaaGreat
end

section
namespace Go.Proofs.YtglokajinehbmaaGreat
open Go Go.Pi Go.RowKit
set_option maxRecDepth 100000
set_option linter.unusedVariables false
set_option linter.unusedSimpArgs false

def f47 (l : List Int) : List Int := l
def f47_pre (l : List Int) : Prop := l.length ≤ 1048576
def f47_e : Entry := { doms := [(false, (.sl (.int .i64)))], cods := [(false, (.sl (.int .i64)))], pre := f47_pre, fn := f47, uq := true, total := false }
def f47_E : Env := []
def f47_A : Anns := { loops := [], own := [1049600] }
theorem f47_run (a0 : List Int) (K : (List Int) → Prop) : runU Tryz.prog f47_E f47_A 6 Tryz.f47 f47_e.doms f47_e.cods a0 K =
    (br (roomOk (0 + (a0.length)) 8)
    (K (([] : List Int) ++ a0))
    False) := by kernel_rfl
theorem f47_t (a0 : List Int) (hpre : f47_pre a0) (K : (List Int) → Prop) (hK : ∀ y : List Int, y = f47 a0 → K y) : RunU Tryz.prog f47_E f47_A 6 Tryz.f47 f47_e.doms f47_e.cods a0 K := by
  refine ⟨?_⟩
  rw [f47_run a0 K]
  simp only [br_false_, roomOk_iff]
  have : a0.length ≤ 1048576 := hpre
  exact ⟨by omega, hK _ (by simp [f47])⟩
theorem f47_fn : f47_e.fn = f47 := rfl
theorem f47_ok : EntryOK Tryz.prog 47 f47_e := by
  refine entryFU progOK (EnvOK.nil) (A := f47_A) (d := 6) Tryz.func47 rfl rfl rfl (fun h => by cases h) fun x hpre => ?_
  exact f47_t x hpre _ fun _ h => h.trans (congrFun f47_fn.symm _)
end Go.Proofs.YtglokajinehbmaaGreat
end

section
namespace Go.Proofs.YtglokajinehbmaaGreat
open Go Go.Pi Go.RowKit
set_option maxRecDepth 100000
set_option linter.unusedVariables false
set_option linter.unusedSimpArgs false

def f79 (l : List (List Int)) : List (List Int) := l
def f79_pre (l : List (List Int)) : Prop := l.length ≤ 1000 ∧ ∀ x ∈ l, x.length ≤ 1000
def f79_e : Entry := { doms := [(false, (.sl (.sl (.int .i64))))], cods := [(false, (.sl (.sl (.int .i64))))], pre := f79_pre, fn := f79, uq := false, total := false }
def f79_E : Env := [(47, f47_e)]
def f79_A : Anns := { loops := [(1048576, { tms := [(0, .keep), (3, .ref 1053703), (4, .data false (.int .i64))], obs := [(1053703, .arr (.uniq) (.sl (.int .i64)))], fz := [] })], own := [] }
theorem f79_run (a0 : List (List Int)) (K : (List (List Int)) → Prop) : runF Tryz.prog f79_E f79_A 6 Tryz.f79 f79_e.doms f79_e.cods a0 K =
    (LoopP (V := Int × List (List Int) × Unit) (fun again v => (fun (again1 : Int → List (List Int) → Prop) (v1_0 : Int) (v1_1 : List (List Int)) =>
    br (lenOk (a0.length))
    (br (decide (v1_0 < ((a0.length) : Int)))
    (br (decide (0 ≤ v1_0) && decide (v1_0 < ((a0.length) : Int)))
    (f47_pre (a0.getD v1_0.toNat []) ∧
    br (roomOk ((v1_1.length) + 1) 24)
    (again1 (IntKind.i64.wrap (v1_0 + 1)) (v1_1 ++ ([(f47 (a0.getD v1_0.toNat []))] : List (List Int))))
    False)
    False)
    (K v1_1))
    True)
    (fun v1_0 v1_1 => again (v1_0, v1_1, ())) v.1 v.2.1) (0, ([] : List (List Int)), ())) := by kernel_rfl
theorem f79_t (a0 : List (List Int)) (hpre : f79_pre a0) (K : (List (List Int)) → Prop) (hK : ∀ y : List (List Int), y = f79 a0 → K y) : RunF Tryz.prog f79_E f79_A 6 Tryz.f79 f79_e.doms f79_e.cods a0 K := by
  refine ⟨?_⟩
  rw [f79_run a0 K]
  obtain ⟨h1, h2⟩ := hpre
  refine LoopP.up a0.length (fun i v => v.1 = a0.take i.toNat) (fun again i v hi0 hn hI hag => ?_) (by omega) rfl
  obtain ⟨xs, u⟩ := v
  have hI : xs = a0.take i.toNat := hI
  subst hI
  dsimp only
  rw [br_true_]
  intro _
  rw [br_dec]
  refine ⟨fun hi => ?_, fun hi => hK _ ?_⟩
  · have hil : i.toNat < a0.length := by omega
    have hlen : (a0.take i.toNat).length ≤ 1000 := by rw [List.length_take]; omega
    rw [br_false_, getD_lt hil]
    refine ⟨by simp; omega, ?_, ?_⟩
    · have := h2 _ (List.getElem_mem hil)
      show (a0[i.toNat]).length ≤ 1048576
      omega
    · rw [br_false_, roomOk_iff, wr (n := i + 1) (by omega) (by omega)]
      refine ⟨by omega, hag (_, ()) hi ?_⟩
      show a0.take i.toNat ++ [f47 a0[i.toNat]] = a0.take (i + 1).toNat
      rw [show (i + 1).toNat = i.toNat + 1 by omega, List.take_add_one, List.getElem?_eq_getElem hil]
      rfl
  · rw [f79, List.take_of_length_le (by omega)]
theorem f79_fn : f79_e.fn = f79 := rfl
theorem f79_ok : EntryOK Tryz.prog 79 f79_e := by
  refine entryF progOK (EnvOK.cons f47_ok (EnvOK.nil)) (A := f79_A) (d := 6) Tryz.func79 rfl rfl rfl rfl (fun h => by cases h) fun x hpre => ?_
  exact f79_t x hpre _ fun _ h => h.trans (congrFun f79_fn.symm _)
end Go.Proofs.YtglokajinehbmaaGreat
end

section
namespace Go.Proofs.YtglokajinehbmaaGreat
open Go Go.Pi Go.RowKit
set_option maxRecDepth 100000
set_option linter.unusedVariables false
set_option linter.unusedSimpArgs false

def f45 (r : List (List Int) × List (List Int)) : List (List Int) × List (List Int) := r
def f45_pre (r : List (List Int) × List (List Int)) : Prop := f79_pre r.1 ∧ f79_pre r.2
def f45_e : Entry := { doms := [(true, (.pair (.sl (.sl (.int .i64))) (.sl (.sl (.int .i64)))))], cods := [(true, (.pair (.sl (.sl (.int .i64))) (.sl (.sl (.int .i64)))))], pre := f45_pre, fn := f45, uq := false, total := false }
def f45_E : Env := [(79, f79_e)]
def f45_A : Anns := { loops := [], own := [] }
theorem f45_run (a0 : List (List Int) × List (List Int)) (K : (List (List Int) × List (List Int)) → Prop) : runF Tryz.prog f45_E f45_A 6 Tryz.f45 f45_e.doms f45_e.cods a0 K =
    (f79_pre a0.1 ∧
    f79_pre a0.2 ∧
    K ((f79 a0.1), (f79 a0.2))) := by kernel_rfl
theorem f45_t (a0 : List (List Int) × List (List Int)) (hpre : f45_pre a0) (K : (List (List Int) × List (List Int)) → Prop) (hK : ∀ y : List (List Int) × List (List Int), y = f45 a0 → K y) : RunF Tryz.prog f45_E f45_A 6 Tryz.f45 f45_e.doms f45_e.cods a0 K := by
  refine ⟨?_⟩
  rw [f45_run a0 K]
  exact ⟨hpre.1, hpre.2, hK _ rfl⟩
theorem f45_fn : f45_e.fn = f45 := rfl
theorem f45_ok : EntryOK Tryz.prog 45 f45_e := by
  refine entryF progOK (EnvOK.cons f79_ok (EnvOK.nil)) (A := f45_A) (d := 6) Tryz.func45 rfl rfl rfl rfl (fun h => by cases h) fun x hpre => ?_
  exact f45_t x hpre _ fun _ h => h.trans (congrFun f45_fn.symm _)
end Go.Proofs.YtglokajinehbmaaGreat
end

section
namespace Go.Proofs.YtglokajinehbmaaGreat
open Go Go.Pi Go.RowKit
set_option maxRecDepth 100000
set_option linter.unusedVariables false
set_option linter.unusedSimpArgs false

def f46 (l : List (ByteArray × Int × Int × Int × Int)) : List (ByteArray × Int × Int × Int × Int) := l
def f46_pre (l : List (ByteArray × Int × Int × Int × Int)) : Prop := l.length ≤ 1000
def f46_e : Entry := { doms := [(false, (.sl (.pair .str (.pair (.int .i64) (.pair (.int .i64) (.pair (.int .i64) (.int .i64)))))))], cods := [(false, (.sl (.pair .str (.pair (.int .i64) (.pair (.int .i64) (.pair (.int .i64) (.int .i64)))))))], pre := f46_pre, fn := f46, uq := false, total := false }
def f46_E : Env := []
def f46_A : Anns := { loops := [], own := [] }
theorem f46_run (a0 : List (ByteArray × Int × Int × Int × Int)) (K : (List (ByteArray × Int × Int × Int × Int)) → Prop) : runF Tryz.prog f46_E f46_A 6 Tryz.f46 f46_e.doms f46_e.cods a0 K =
    (br (roomOk (0 + (a0.length)) 48)
    (K (([] : List (ByteArray × Int × Int × Int × Int)) ++ a0))
    False) := by kernel_rfl
theorem f46_t (a0 : List (ByteArray × Int × Int × Int × Int)) (hpre : f46_pre a0) (K : (List (ByteArray × Int × Int × Int × Int)) → Prop) (hK : ∀ y : List (ByteArray × Int × Int × Int × Int), y = f46 a0 → K y) : RunF Tryz.prog f46_E f46_A 6 Tryz.f46 f46_e.doms f46_e.cods a0 K := by
  refine ⟨?_⟩
  rw [f46_run a0 K]
  have h : a0.length ≤ 1000 := hpre
  rw [br_false_, roomOk_iff]
  exact ⟨by omega, hK _ rfl⟩
theorem f46_fn : f46_e.fn = f46 := rfl
theorem f46_ok : EntryOK Tryz.prog 46 f46_e := by
  refine entryF progOK (EnvOK.nil) (A := f46_A) (d := 6) Tryz.func46 rfl rfl rfl rfl (fun h => by cases h) fun x hpre => ?_
  exact f46_t x hpre _ fun _ h => h.trans (congrFun f46_fn.symm _)
end Go.Proofs.YtglokajinehbmaaGreat
end

section
namespace Go.Proofs.YtglokajinehbmaaGreat
open Go Go.Pi Go.RowKit
set_option maxRecDepth 100000
set_option linter.unusedVariables false
set_option linter.unusedSimpArgs false

def f8 (p : (List (List Int) × List (List Int)) × List (ByteArray × Int × Int × Int × Int) × List Int) : (List (List Int) × List (List Int)) × List (ByteArray × Int × Int × Int × Int) × List Int := p
def f8_pre (p : (List (List Int) × List (List Int)) × List (ByteArray × Int × Int × Int × Int) × List Int) : Prop := f45_pre p.1 ∧ f46_pre p.2.1 ∧ p.2.2.length ≤ 1000
theorem few_pre {r : List (List Int) × List (List Int)} (h : f35 r = true) : f45_pre r := by
  unfold f35 at h
  obtain ⟨⟨h1, h2⟩, h3, h4⟩ := of_decide_eq_true h
  exact ⟨⟨by omega, fun x hx => by have := h3 x hx; omega⟩, ⟨by omega, fun x hx => by have := h4 x hx; omega⟩⟩
theorem small_pre {p : (List (List Int) × List (List Int)) × List (ByteArray × Int × Int × Int × Int) × List Int} (h : f6 p = true) : f8_pre p ∧ f46_pre p.2.1 ∧ f97_pre p.2.1 := by
  unfold f6 at h
  simp only [Bool.and_eq_true, decide_eq_true_eq] at h
  obtain ⟨h1, h2, h3⟩ := h
  unfold f36 at h2
  obtain ⟨h4, h5⟩ := of_decide_eq_true h2
  have e23 : f46_pre p.2.1 := by show p.2.1.length ≤ 1000; omega
  exact ⟨⟨few_pre h1, e23, by omega⟩, e23, fun a ha => by have := h5 a ha; omega⟩
def f8_e : Entry := { doms := [(true, (.pair (.pair (.sl (.sl (.int .i64))) (.sl (.sl (.int .i64)))) (.pair (.sl (.pair .str (.pair (.int .i64) (.pair (.int .i64) (.pair (.int .i64) (.int .i64)))))) (.sl (.int .i64)))))], cods := [(true, (.pair (.pair (.sl (.sl (.int .i64))) (.sl (.sl (.int .i64)))) (.pair (.sl (.pair .str (.pair (.int .i64) (.pair (.int .i64) (.pair (.int .i64) (.int .i64)))))) (.sl (.int .i64)))))], pre := f8_pre, fn := f8, uq := false, total := false }
def f8_E : Env := [(45, f45_e), (46, f46_e), (47, f47_e), (6, f6_e), (35, f35_e), (36, f36_e), (97, f97_e)]
def f8_A : Anns := { loops := [], own := [] }
theorem f8_run (a0 : (List (List Int) × List (List Int)) × List (ByteArray × Int × Int × Int × Int) × List Int) (K : ((List (List Int) × List (List Int)) × List (ByteArray × Int × Int × Int × Int) × List Int) → Prop) : runF Tryz.prog f8_E f8_A 6 Tryz.f8 f8_e.doms f8_e.cods a0 K =
    (f45_pre a0.1 ∧
    f46_pre a0.2.1 ∧
    f47_pre a0.2.2 ∧
    K ((f45 a0.1), ((f46 a0.2.1), (f47 a0.2.2)))) := by kernel_rfl
theorem f8_t (a0 : (List (List Int) × List (List Int)) × List (ByteArray × Int × Int × Int × Int) × List Int) (hpre : f8_pre a0) (K : ((List (List Int) × List (List Int)) × List (ByteArray × Int × Int × Int × Int) × List Int) → Prop) (hK : ∀ y : (List (List Int) × List (List Int)) × List (ByteArray × Int × Int × Int × Int) × List Int, y = f8 a0 → K y) : RunF Tryz.prog f8_E f8_A 6 Tryz.f8 f8_e.doms f8_e.cods a0 K := by
  refine ⟨?_⟩
  rw [f8_run a0 K]
  obtain ⟨h1, h2, h3⟩ := hpre
  exact ⟨h1, h2, show a0.2.2.length ≤ 1048576 from Nat.le_trans h3 (by omega), hK _ rfl⟩
theorem f8_fn : f8_e.fn = f8 := rfl
theorem f8_ok : EntryOK Tryz.prog 8 f8_e := by
  refine entryF progOK (EnvOK.cons f45_ok (EnvOK.cons f46_ok (EnvOK.cons f47_ok (EnvOK.cons f6_ok (EnvOK.cons f35_ok (EnvOK.cons f36_ok (EnvOK.cons f97_ok (EnvOK.nil)))))))) (A := f8_A) (d := 6) Tryz.func8 rfl rfl rfl rfl (fun h => by cases h) fun x hpre => ?_
  exact f8_t x hpre _ fun _ h => h.trans (congrFun f8_fn.symm _)
end Go.Proofs.YtglokajinehbmaaGreat
end

section
namespace Go.Proofs.YtglokajinehbmaaGreat
open Go Go.Pi Go.RowKit
set_option maxRecDepth 100000
set_option linter.unusedVariables false
set_option linter.unusedSimpArgs false

def f9 (l : List (Int × Int)) : List (Int × Int) := l
def f9_pre (l : List (Int × Int)) : Prop := l.length ≤ 1000
def f9_e : Entry := { doms := [(false, (.sl (.pair (.int .i64) (.int .i64))))], cods := [(false, (.sl (.pair (.int .i64) (.int .i64))))], pre := f9_pre, fn := f9, uq := true, total := false }
def f9_E : Env := []
def f9_A : Anns := { loops := [], own := [1049600] }
theorem f9_run (a0 : List (Int × Int)) (K : (List (Int × Int)) → Prop) : runU Tryz.prog f9_E f9_A 6 Tryz.f9 f9_e.doms f9_e.cods a0 K =
    (br (roomOk (0 + (a0.length)) 16)
    (K (([] : List (Int × Int)) ++ a0))
    False) := by kernel_rfl
theorem f9_t (a0 : List (Int × Int)) (hpre : f9_pre a0) (K : (List (Int × Int)) → Prop) (hK : ∀ y : List (Int × Int), y = f9 a0 → K y) : RunU Tryz.prog f9_E f9_A 6 Tryz.f9 f9_e.doms f9_e.cods a0 K := by
  refine ⟨?_⟩
  rw [f9_run a0 K]
  have h : a0.length ≤ 1000 := hpre
  rw [br_false_, roomOk_iff]
  exact ⟨by omega, hK _ rfl⟩
theorem f9_fn : f9_e.fn = f9 := rfl
theorem f9_ok : EntryOK Tryz.prog 9 f9_e := by
  refine entryFU progOK (EnvOK.nil) (A := f9_A) (d := 6) Tryz.func9 rfl rfl rfl (fun h => by cases h) fun x hpre => ?_
  exact f9_t x hpre _ fun _ h => h.trans (congrFun f9_fn.symm _)
end Go.Proofs.YtglokajinehbmaaGreat
end
