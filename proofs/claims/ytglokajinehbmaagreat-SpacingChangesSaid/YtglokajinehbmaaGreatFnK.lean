/- What functions of the program compute, each proved once, part 11. -/
import Derived.Test.YtglokajinehbmaaGreatPiD
import Derived.Test.YtglokajinehbmaaGreatFnA
import Derived.Test.YtglokajinehbmaaGreatFnH
import Derived.Test.YtglokajinehbmaaGreatFnI
import Derived.Test.YtglokajinehbmaaGreatFnF
import Derived.Test.YtglokajinehbmaaGreatFnJ

section
namespace Go.Proofs.YtglokajinehbmaaGreat
open Go Go.Pi Go.RowKit
set_option maxRecDepth 100000
set_option linter.unusedVariables false
set_option linter.unusedSimpArgs false

theorem mget_mputb (k k' : Int) (x : Bool) : ∀ M : List (Int × Bool), mget (.int .i64) .bool (mput (.int .i64) .bool M k x) k' = if k = k' then some x else mget (.int .i64) .bool M k'
  | [] => by
    simp only [mput, mget, Sch.eqb]
    by_cases h1 : k = k'
    · subst h1; simp
    · rw [if_neg h1, beq_eq_false_iff_ne.2 (fun e => h1 e.symm)]
  | y :: r => by
    have ih := mget_mputb k k' x r
    simp only [mput]
    cases hy : (Sch.int .i64).eqb k y.1 with
    | true =>
      have e : k = y.1 := by
        simp only [Sch.eqb, beq_iff_eq] at hy
        exact hy
      simp only [mget]
      cases hk : (Sch.int .i64).eqb k' k with
      | true =>
        have e2 : k = k' := by
          simp only [Sch.eqb, beq_iff_eq] at hk
          exact hk.symm
        simp [e2]
      | false =>
        have e2 : ¬ k = k' := fun e2 => by
          subst e2
          simp [Sch.eqb] at hk
        rw [if_neg e2, ← e, hk]
    | false =>
      simp only [mget]
      rw [ih]
      cases hk : (Sch.int .i64).eqb k' y.1 with
      | true =>
        have e2 : ¬ k = k' := fun e2 => by
          subst e2
          rw [hy] at hk
          cases hk
        simp only [if_neg e2]
      | false => rfl
def lastOfP (l : Prs) (i : Nat) : Int := if i = 0 then -1 else (l.getD (i - 1) (0, 0)).1
instance (p : Prob) (a : Int) : Decidable (inA p a) := by unfold inA; infer_instance
def pairE (p : Prob) (l : Prs) (i : Nat) : Int := if ¬ (inA p (l.getD i (0, 0)).1 ∧ inA p (l.getD i (0, 0)).2) then 6 else if ¬ ((l.getD i (0, 0)).1 < (l.getD i (0, 0)).2 ∧ (l.getD i (0, 0)).1 > lastOfP l i) then 9 else
  if freeB (l.take i) (l.getD i (0, 0)).1 (l.getD i (0, 0)).2 = false then 21 else 0
def noneE (p : Prob) (l : Prs) (i : Nat) : Int := if (pairB p (l.getD i (0, 0)).1 (l.getD i (0, 0)).2).isSome = true then 0 else 12
def pairsErr (p : Prob) (l : Prs) : Int := if (eachE l.length (pairE p l)).2 ≠ 0 then (eachE l.length (pairE p l)).2 else (eachE l.length (noneE p l)).2
def f7 (x : ((List (List Int) × List (List Int)) × List (ByteArray × Int × Int × Int × Int) × List Int) × List (Int × Int)) : Int × Int :=
  if (probOf x.1).2 ≠ 0 then (0, (probOf x.1).2) else if pairsErr x.1 x.2 ≠ 0 then (0, pairsErr x.1 x.2) else (boundF x.1 x.2, 0)
def f7_pre (x : ((List (List Int) × List (List Int)) × List (ByteArray × Int × Int × Int × Int) × List Int) × List (Int × Int)) : Prop := f76_pre x.1 ∧ x.2.length ≤ 1000
/-- What follows once the pairs are found valid. -/
def cpTail (a0 : Prob) (a1 : Prs) (K : Int × Int → Prop) : Prop := br (lenOk (a1.length)) (LoopP (V := Int × Int × Unit) (fun again v =>
  br (decide (v.2.1 < ((a1.length) : Int))) (br (decide (0 ≤ v.2.1) && decide (v.2.1 < ((a1.length) : Int)))
    (f44_pre (a0, (a1.getD v.2.1.toNat (0, 0))) ∧ br (!(f44 (a0, (a1.getD v.2.1.toNat (0, 0)))).2) (K (0, 12))
      (again (IntKind.i64.wrap (v.1 + (f44 (a0, (a1.getD v.2.1.toNat (0, 0)))).1), IntKind.i64.wrap (v.2.1 + 1), ()))) False) (K (v.1, 0))) (0, 0, ())) True
def cpE (a0 : Prob) (a1 : Prs) (K : Int × Int → Prop) (A : Prop) (b1 b2 b3 : Bool) : Prop :=
  br (f42 ([(f43 (b1, 6)), (f43 (b2, 9)), (f43 (b3, 21))] : List Int) != 0) (br (f42 ([(f43 (b1, 6)), (f43 (b2, 9)), (f43 (b3, 21))] : List Int) != 0)
    (K (0, f42 ([(f43 (b1, 6)), (f43 (b2, 9)), (f43 (b3, 21))] : List Int))) (cpTail a0 a1 K)) A
def cpB (E : Bool → Bool → Bool → Prop) (c2 c3 lt gt ua ub : Bool) : Prop := br c2 (br lt (br ua (E c3 gt ub) (E c3 gt false)) (br ua (E c3 false ub) (E c3 false false)))
  (br lt (br ua (E false gt ub) (E false gt false)) (br ua (E false false ub) (E false false false)))
theorem cpB_eq (E : Bool → Bool → Bool → Prop) (c2 c3 lt gt ua ub : Bool) : cpB E c2 c3 lt gt ua ub = E (c2 && c3) (lt && gt) (ua && ub) := by
  cases c2 <;> cases lt <;> cases ua <;> rfl
theorem three_errs (b1 b2 b3 : Bool) : f42 [f43 (b1, 6), f43 (b2, 9), f43 (b3, 21)] = if b1 = false then 6 else if b2 = false then 9 else if b3 = false then 21 else 0 := by
  cases b1 <;> cases b2 <;> cases b3 <;> rfl
theorem pairE_zero {p : Prob} {l : Prs} {i : Nat} (h : pairE p l i = 0) : (inA p (l.getD i (0, 0)).1 ∧ inA p (l.getD i (0, 0)).2) ∧ ((l.getD i (0, 0)).1 < (l.getD i (0, 0)).2 ∧ (l.getD i (0, 0)).1 > lastOfP l i) ∧ freeB (l.take i) (l.getD i (0, 0)).1 (l.getD i (0, 0)).2 = true := by
  unfold pairE at h
  split at h
  · simp at h
  · rename_i h1
    split at h
    · simp at h
    · rename_i h2
      split at h
      · simp at h
      · rename_i h3
        exact ⟨Classical.byContradiction h1, Classical.byContradiction h2, by simpa using h3⟩
theorem noneE_zero {p : Prob} {l : Prs} {i : Nat} (h : noneE p l i = 0) : (pairB p (l.getD i (0, 0)).1 (l.getD i (0, 0)).2).isSome = true := by
  unfold noneE at h
  split at h
  · assumption
  · simp at h
theorem usedB_snoc (l : Prs) (x : Int × Int) (n : Int) : usedB (l ++ [x]) n = (usedB l n || (x.1 == n || x.2 == n)) := by
  simp [usedB]
theorem take_snocP {l : Prs} {i : Nat} (hi : i < l.length) : l.take (i + 1) = l.take i ++ [l.getD i (0, 0)] := by
  rw [List.take_add_one, List.getElem?_eq_getElem hi, getD_lt hi]
  rfl
def f7_e : Entry := { doms := [(true, (.pair (.pair (.sl (.sl (.int .i64))) (.sl (.sl (.int .i64)))) (.pair (.sl (.pair .str (.pair (.int .i64) (.pair (.int .i64) (.pair (.int .i64) (.int .i64)))))) (.sl (.int .i64))))), (false, (.sl (.pair (.int .i64) (.int .i64))))], cods := [(false, (.int .i64)), (false, (.int .i64))], pre := f7_pre, fn := f7, uq := false, total := false }
def f7_E : Env := [(38, f38_e), (42, f42_e), (43, f43_e), (44, f44_e), (76, f76_e), (10, f10_e)]
def f7_A : Anns := { loops := [(1048576, { tms := [(6, .keep), (13, .data false (.int .i64)), (37, .keep), (38, .keep), (39, .data false (.int .i64))], obs := [(1048576, .keep), (1049605, .keep), (1052673, .keep), (1053696, .keep), (1053697, .keep), (1054720, .keep), (1100586418176, .keep), (1100586418177, .keep)], fz := [] }),
  (1107029917696, { tms := [(1, .keep), (9, .keep), (10, .keep), (11, .data false (.int .i64))], obs := [(1048576, .keep), (1049605, .keep), (1052673, .keep), (1053696, .map false false (.int .i64) .bool), (1053697, .keep), (1054720, .cells [.data (.int .i64)]), (1100586418176, .keep), (1100586418177, .keep)], fz := [] })], own := [1052672, 1160805007276116869, 2720906367540663233286083407862885599933713675080981498575614441349454236728657499416478790169868112432685429855801150056434566, 2723550591415824227681891069095016684093027293812838623452753036530551859893602744799779547011626973572075794703901243489651590] }
theorem f7_run (a0 : (List (List Int) × List (List Int)) × List (ByteArray × Int × Int × Int × Int) × List Int) (a1 : List (Int × Int)) (K : (Int × Int) → Prop) : runF Tryz.prog f7_E f7_A 6 Tryz.f7 f7_e.doms f7_e.cods (a0, a1) K =
    (f76_pre a0 ∧
    br ((f76 a0).2 != 0)
    (K (0, (f76 a0).2))
    (br (lenOk (a1.length))
    (LoopP (V := Int × List (Int × Bool) × Int × Unit) (fun again v => (fun (again1 : Int → List (Int × Bool) → Int → Prop) (v1_0 : Int) (v1_1 : List (Int × Bool)) (v1_2 : Int) =>
    br (decide (v1_0 < ((a1.length) : Int)))
    (br (decide (0 ≤ v1_0) && decide (v1_0 < ((a1.length) : Int)))
    (cpB (cpE a0 a1 K (again1 (IntKind.i64.wrap (v1_0 + 1)) (mput (.int .i64) .bool (mput (.int .i64) .bool v1_1 ((a1.getD v1_0.toNat (0, 0)).1) true) ((a1.getD v1_0.toNat (0, 0)).2) true) ((a1.getD v1_0.toNat (0, 0)).1)))
      (f38 ((a1.getD v1_0.toNat (0, 0)).1, ([(a0.1.1, (a0.1.2, a0.2))] : List (List (List Int) × List (List Int) × List (ByteArray × Int × Int × Int × Int) × List Int))))
      (f38 ((a1.getD v1_0.toNat (0, 0)).2, ([(a0.1.1, (a0.1.2, a0.2))] : List (List (List Int) × List (List Int) × List (ByteArray × Int × Int × Int × Int) × List Int))))
      (decide ((a1.getD v1_0.toNat (0, 0)).1 < (a1.getD v1_0.toNat (0, 0)).2)) (decide ((a1.getD v1_0.toNat (0, 0)).1 > v1_2))
      (!((mget (.int .i64) .bool v1_1 ((a1.getD v1_0.toNat (0, 0)).1)).getD false)) (!((mget (.int .i64) .bool v1_1 ((a1.getD v1_0.toNat (0, 0)).2)).getD false)))
    False)
    (cpTail a0 a1 K))
    (fun v1_0 v1_1 v1_2 => again (v1_0, v1_1, v1_2, ())) v.1 v.2.1 v.2.2.1) (0, ([] : List (Int × Bool)), (-1), ()))
    True)) := by kernel_rfl
theorem f7_t (a0 : (List (List Int) × List (List Int)) × List (ByteArray × Int × Int × Int × Int) × List Int) (a1 : List (Int × Int)) (hpre : f7_pre (a0, a1)) (K : (Int × Int) → Prop) (hK : ∀ y : Int × Int, y = f7 (a0, a1) → K y) : RunF Tryz.prog f7_E f7_A 6 Tryz.f7 f7_e.doms f7_e.cods (a0, a1) K := by
  refine ⟨?_⟩
  rw [f7_run a0 a1 K]
  obtain ⟨h24, hl⟩ := hpre
  simp only at h24 hl
  have e24 : f76 a0 = probOf a0 := rfl
  have ef : f7 (a0, a1) = if (probOf a0).2 ≠ 0 then (0, (probOf a0).2) else if pairsErr a0 a1 ≠ 0 then (0, pairsErr a0 a1) else (boundF a0 a1, 0) := rfl
  rw [ef] at hK
  refine ⟨h24, ?_⟩
  rw [e24, br_both]
  refine ⟨fun h => hK _ (if_pos (by simpa using h)).symm, fun h => ?_⟩
  have hok : okP a0 := by
    have : (probOf a0).2 = 0 := by simpa using h
    exact this
  rw [if_neg (fun hh => hh hok)] at hK
  have h6 := hok.v.six
  have e98 : ∀ n : Int, f38 (n, [(a0.1.1, (a0.1.2, a0.2))]) = decide (inA a0 n) := fun n => by
    show f39 (n, 0, IntKind.i64.wrap ((a0.2.1.length : Int) - 1)) = _
    rw [wr (n := (a0.2.1.length : Int) - 1) (by omega) (by omega), Bool.eq_iff_iff, f39_t1, decide_eq_true_iff]
    exact ⟨fun h => ⟨h.1, by omega⟩, fun h => ⟨h.1, by have := h.2; omega⟩⟩
  -- behind the pairs
  have tail : (∀ j, j < a1.length → pairE a0 a1 j = 0) → cpTail a0 a1 K := fun hz => by
    have hp : pairsErr a0 a1 = (eachE a1.length (noneE a0 a1)).2 := by rw [pairsErr, eachE_none hz, if_neg (by simp)]
    rw [hp] at hK
    have hin : ∀ x ∈ a1, inA a0 x.1 ∧ inA a0 x.2 := fun x hx => by
      obtain ⟨j, hj, rfl⟩ := List.getElem_of_mem hx
      have := (pairE_zero (hz j hj)).1
      rwa [getD_lt hj] at this
    have hbd := boundF_in hok a1 hin
    unfold cpTail
    rw [br_true_]
    intro _
    refine LoopP.of (fun q : Int × Int × Unit => ∃ i : Nat, i ≤ a1.length ∧ q.2.1 = (i : Int) ∧ q.1 = boundF a0 (a1.take i) ∧ ∀ j, j < i → noneE a0 a1 j = 0) (fun q => ((a1.length : Int) - q.2.1).toNat) (fun again q hq hag => ?_) ⟨0, by omega, rfl, rfl, fun j hj => by omega⟩
    obtain ⟨sm, ii, u⟩ := q
    obtain ⟨i, hi, e1, e2, e3⟩ := hq
    simp only at e1 e2
    subst e1 e2
    dsimp only
    rw [br_dec]
    refine ⟨fun hlt => ?_, fun hlt => ?_⟩
    · have hlt : i < a1.length := by omega
      rw [br_false_]
      refine ⟨inb (by omega) (by omega), ?_⟩
      rw [Int.toNat_natCast]
      have hx := hin (a1.getD i (0, 0)) (by rw [getD_lt hlt]; exact List.getElem_mem _)
      refine ⟨⟨hok, hx.1, hx.2⟩, ?_⟩
      have e96 : f44 (a0, a1.getD i (0, 0)) = match pairB a0 (a1.getD i (0, 0)).1 (a1.getD i (0, 0)).2 with
        | some n => (n, true)
        | none => (0, false) := rfl
      have b1 := hbd i (by omega)
      have b2 := hbd (i + 1) (by omega)
      rw [take_snocP hlt, boundF_snoc] at b2
      rw [e96]
      cases hpb : pairB a0 (a1.getD i (0, 0)).1 (a1.getD i (0, 0)).2 with
      | none =>
        simp only [Bool.not_false, br_t]
        have he : noneE a0 a1 i = 12 := by rw [noneE, hpb]; rfl
        rw [eachE_some hlt e3 (by rw [he]; decide), he] at hK
        exact hK _ rfl
      | some n =>
        simp only [Bool.not_true, br_f]
        have hc : cst a0 (a1.getD i (0, 0)).1 (a1.getD i (0, 0)).2 = n := by rw [cst, hpb]; rfl
        rw [hc] at b2
        rw [wr (n := boundF a0 (a1.take i) + n) (by omega) (by omega), wr (n := (i : Int) + 1) (by omega) (by omega)]
        refine hag _ ⟨i + 1, by omega, by simp only; omega, ?_, fun j hj => ?_⟩ (by simp only; omega)
        · simp only
          rw [take_snocP hlt, boundF_snoc, hc]
        · rcases Nat.lt_or_ge j i with hh | hh
          · exact e3 j hh
          · have : j = i := by omega
            subst this
            rw [noneE, hpb]
            rfl
    · have : i = a1.length := by omega
      subst this
      rw [eachE_none e3, if_neg (by simp)] at hK
      rw [List.take_length]
      exact hK _ rfl
  rw [br_true_]
  intro _
  refine LoopP.of (fun q : Int × List (Int × Bool) × Int × Unit => ∃ i : Nat, i ≤ a1.length ∧ q.1 = (i : Int) ∧ (∀ j, j < i → pairE a0 a1 j = 0) ∧ (∀ n, (mget (.int .i64) .bool q.2.1 n).getD false = usedB (a1.take i) n) ∧ q.2.2.1 = lastOfP a1 i) (fun q => ((a1.length : Int) - q.1).toNat) (fun again q hq hag => ?_) ⟨0, by omega, rfl, fun j hj => (by omega), fun n => rfl, rfl⟩
  obtain ⟨ii, M, la, u⟩ := q
  obtain ⟨i, hi, e1, e2, e3, e4⟩ := hq
  simp only at e1 e3 e4
  subst e1 e4
  dsimp only
  rw [br_dec]
  refine ⟨fun hlt => ?_, fun hlt => ?_⟩
  · have hlt : i < a1.length := by omega
    rw [br_false_]
    refine ⟨inb (by omega) (by omega), ?_⟩
    rw [cpB_eq, Int.toNat_natCast, e98, e98, e3, e3, wr (n := (i : Int) + 1) (by omega) (by omega)]
    have hsn := take_snocP hlt
    have hE : f42 [f43 (decide (inA a0 (a1.getD i (0, 0)).1) && decide (inA a0 (a1.getD i (0, 0)).2), 6), f43 (decide ((a1.getD i (0, 0)).1 < (a1.getD i (0, 0)).2) && decide ((a1.getD i (0, 0)).1 > lastOfP a1 i), 9),
        f43 (!usedB (a1.take i) (a1.getD i (0, 0)).1 && !usedB (a1.take i) (a1.getD i (0, 0)).2, 21)] = pairE a0 a1 i := by
      rw [three_errs, pairE]
      simp only [Bool.and_eq_false_iff, decide_eq_false_iff_not, freeB]
      have d1 : (¬ inA a0 (a1.getD i (0, 0)).1 ∨ ¬ inA a0 (a1.getD i (0, 0)).2) ↔ ¬ (inA a0 (a1.getD i (0, 0)).1 ∧ inA a0 (a1.getD i (0, 0)).2) := Classical.not_and_iff_not_or_not.symm
      have d2 : (¬ (a1.getD i (0, 0)).1 < (a1.getD i (0, 0)).2 ∨ ¬ (a1.getD i (0, 0)).1 > lastOfP a1 i) ↔ ¬ ((a1.getD i (0, 0)).1 < (a1.getD i (0, 0)).2 ∧ (a1.getD i (0, 0)).1 > lastOfP a1 i) := Classical.not_and_iff_not_or_not.symm
      simp only [d1, d2]
    unfold cpE
    rw [hE]
    by_cases hz : pairE a0 a1 i = 0
    · rw [hz]
      simp only [bne_self_eq_false, br_f]
      refine hag _ ⟨i + 1, by omega, by simp only; omega, fun j hj => ?_, fun n => ?_, ?_⟩ (by simp only; omega)
      · rcases Nat.lt_or_ge j i with hh | hh
        · exact e2 j hh
        · have : j = i := by omega
          subst this
          exact hz
      · simp only
        rw [mget_mputb, mget_mputb, hsn, usedB_snoc, ← e3 n]
        generalize (a1.getD i (0, 0)).1 = x
        generalize (a1.getD i (0, 0)).2 = y
        by_cases h1 : y = n
        · rw [if_pos h1]
          simp [h1]
        · rw [if_neg h1]
          by_cases h2 : x = n
          · rw [if_pos h2]
            simp [h2]
          · rw [if_neg h2, beq_eq_false_iff_ne.2 h1, beq_eq_false_iff_ne.2 h2]
            simp
      · simp only
        rw [lastOfP, if_neg (by omega), show i + 1 - 1 = i by omega]
    · have hp : pairsErr a0 a1 = pairE a0 a1 i := by rw [pairsErr, eachE_some hlt e2 hz, if_pos hz]
      rw [hp, if_pos hz] at hK
      rw [bne_iff_ne.2 hz]
      exact hK _ rfl
  · have : i = a1.length := by omega
    subst this
    exact tail e2
theorem f7_fn : f7_e.fn = f7 := rfl
theorem f7_ok : EntryOK Tryz.prog 7 f7_e := by
  refine entryF progOK (EnvOK.cons f38_ok (EnvOK.cons f42_ok (EnvOK.cons f43_ok (EnvOK.cons f44_ok (EnvOK.cons f76_ok (EnvOK.cons f10_ok (EnvOK.nil))))))) (A := f7_A) (d := 6) Tryz.func7 rfl rfl rfl rfl (fun h => by cases h) fun x hpre => ?_
  obtain ⟨a0, a1⟩ := x
  exact f7_t a0 a1 hpre _ fun _ h => h.trans (congrFun f7_fn.symm _)
end Go.Proofs.YtglokajinehbmaaGreat
end

section
set_option linter.unusedVariables false
namespace Go.Proofs.YtglokajinehbmaaGreat
open Go Go.Pi
def aroundE (p : Prob) (x : Int × Int × Int) : Int :=
  if ¬ inA p x.1 then 6 else
  if ¬ (((p.2.1.getD x.1.toNat arrD).2.2.1 ≤ x.2.1 ∧ x.2.1 ≤ (p.2.1.getD x.1.toNat arrD).2.2.2.1) ∧ (1 ≤ x.2.2 ∧ x.2.2 ≤ 3600)) then 2 else
  if (p.2.1.getD x.1.toNat arrD).2.2.2.1 + x.2.1 + x.2.2 - (p.2.1.getD x.1.toNat arrD).2.2.1 > 100000 then 20 else 0
def movedA (a : Arr) (x : Int × Int × Int) : Arr := (a.1, a.2.1, x.2.1 + x.2.2, a.2.2.2.1 + (x.2.1 + x.2.2 - a.2.2.1), a.2.2.2.2)
/-- The problem after an arrival has gone around. -/
def aroundF (p : Prob) (x : Int × Int × Int) : Prob := (p.1, p.2.1.set x.1.toNat (movedA (p.2.1.getD x.1.toNat arrD) x), p.2.2.filter fun n => n != x.1)
def noProb : Prob := (([], []), [], [])
theorem filter_succ {l : List Int} {i : Nat} (hi : i < l.length) (f : Int → Bool) : (l.take (i + 1)).filter f = (l.take i).filter f ++ (if f (l.getD i 0) = true then [l.getD i 0] else []) := by
  rw [List.take_add_one, List.getElem?_eq_getElem hi, List.filter_append, getD_lt hi]
  simp only [Option.toList_some]
  congr 1
  cases h : f l[i] <;> simp [h]
theorem take_set_succ {l : List Int} {m : Nat} (hm : m < l.length) (v : Int) : (l.set m v).take (m + 1) = l.take m ++ [v] := by
  rw [List.take_add_one, List.getElem?_set_self hm]
  congr 1
  apply List.ext_getElem?
  intro r
  simp only [List.getElem?_take]
  split
  · rw [List.getElem?_set_ne (by omega)]
  · rfl
theorem getD_set_ne {l : List Int} {m r : Nat} (h : m ≠ r) (v : Int) : (l.set m v).getD r 0 = l.getD r 0 := by
  rw [List.getD_eq_getElem?_getD, List.getD_eq_getElem?_getD, List.getElem?_set_ne h]
theorem aroundE_zero {p : Prob} {x : Int × Int × Int} (h : aroundE p x = 0) : inA p x.1 ∧ ((p.2.1.getD x.1.toNat arrD).2.2.1 ≤ x.2.1 ∧ x.2.1 ≤ (p.2.1.getD x.1.toNat arrD).2.2.2.1) ∧ (1 ≤ x.2.2 ∧ x.2.2 ≤ 3600) ∧ (p.2.1.getD x.1.toNat arrD).2.2.2.1 + x.2.1 + x.2.2 - (p.2.1.getD x.1.toNat arrD).2.2.1 ≤ 100000 := by
  unfold aroundE at h
  split at h
  · omega
  · rename_i h1
    split at h
    · omega
    · rename_i h2
      split at h
      · omega
      · rename_i h3
        have h2 := Classical.byContradiction h2
        exact ⟨Classical.byContradiction h1, h2.1, h2.2, by omega⟩
end Go.Proofs.YtglokajinehbmaaGreat
end

section
namespace Go.Proofs.YtglokajinehbmaaGreat
open Go Go.Pi Go.RowKit
set_option maxRecDepth 100000
set_option linter.unusedVariables false
set_option linter.unusedSimpArgs false

def f20 (x : ((List (List Int) × List (List Int)) × List (ByteArray × Int × Int × Int × Int) × List Int) × Int × Int × Int) : ((List (List Int) × List (List Int)) × List (ByteArray × Int × Int × Int × Int) × List Int) × Int :=
  if (probOf x.1).2 ≠ 0 then (noProb, (probOf x.1).2) else if aroundE x.1 x.2 ≠ 0 then (noProb, aroundE x.1 x.2) else (aroundF x.1 x.2, 0)
def f20_pre (x : ((List (List Int) × List (List Int)) × List (ByteArray × Int × Int × Int × Int) × List Int) × Int × Int × Int) : Prop := f76_pre x.1 ∧ x.1.2.1.length ≤ 1000 ∧ f57_pre x.1.1.1 ∧ f57_pre x.1.1.2 ∧ x.1.2.2.length ≤ 1000
def f20_e : Entry := { doms := [(true, (.pair (.pair (.sl (.sl (.int .i64))) (.sl (.sl (.int .i64)))) (.pair (.sl (.pair .str (.pair (.int .i64) (.pair (.int .i64) (.pair (.int .i64) (.int .i64)))))) (.sl (.int .i64))))), (true, (.pair (.int .i64) (.pair (.int .i64) (.int .i64))))], cods := [(true, (.pair (.pair (.sl (.sl (.int .i64))) (.sl (.sl (.int .i64)))) (.pair (.sl (.pair .str (.pair (.int .i64) (.pair (.int .i64) (.pair (.int .i64) (.int .i64)))))) (.sl (.int .i64))))), (false, (.int .i64))], pre := f20_pre, fn := f20, uq := false, total := false }
def f20_E : Env := [(37, f37_e), (39, f39_e), (42, f42_e), (43, f43_e), (54, f54_e), (57, f57_e), (58, f58_e), (60, f60_e), (76, f76_e)]
def f20_A : Anns := { loops := [(1115621949440, { tms := [(0, .ref 1063938), (1, .keep), (5, .data false (.int .i64)), (6, .data false (.int .i64))], obs := [(1048576, .keep), (1048577, .keep), (1048578, .keep), (1049605, .keep), (1053702, .keep), (1060874, .keep), (1061890, .keep), (1063938, .arr (.uniq) (.int .i64))], fz := [] }),
  (1169814402331836416, { tms := [(0, .keep), (1, .keep), (7, .keep), (8, .data false (.int .i64))], obs := [(1048576, .keep), (1048577, .keep), (1048578, .keep), (1049605, .keep), (1053702, .keep), (1060874, .keep), (1061890, .keep), (1063938, .keep)], fz := [] })], own := [1061890, 1063938, 1115621950344, 1115621960706] }
theorem f20_run (a0 : (List (List Int) × List (List Int)) × List (ByteArray × Int × Int × Int × Int) × List Int) (a1 : Int × Int × Int) (K : (((List (List Int) × List (List Int)) × List (ByteArray × Int × Int × Int × Int) × List Int) × Int) → Prop) : runF Tryz.prog f20_E f20_A 6 Tryz.f20 f20_e.doms f20_e.cods (a0, a1) K =
    (f37_pre a0 ∧
    br (lenOk (a0.2.1.length))
    (br ((f42 ([(f37 a0).2, (f43 ((f39 (a1.1, (0, (IntKind.i64.wrap (((a0.2.1.length) : Int) - 1))))), 6))] : List Int)) != 0)
    (K (((([] : List (List Int)), ([] : List (List Int))), (([] : List (ByteArray × Int × Int × Int × Int)), ([] : List Int))), (f42 ([(f37 a0).2, (f43 ((f39 (a1.1, (0, (IntKind.i64.wrap (((a0.2.1.length) : Int) - 1))))), 6))] : List Int))))
    (br (decide (0 ≤ a1.1) && decide (a1.1 < ((a0.2.1.length) : Int)))
    (br (!(f39 (a1.2.1, ((((a0.2.1.getD a1.1.toNat ((⟨#[]⟩ : ByteArray), (0, (0, (0, 0))))).2).2).1, ((((a0.2.1.getD a1.1.toNat ((⟨#[]⟩ : ByteArray), (0, (0, (0, 0))))).2).2).2).1))))
    (K (((([] : List (List Int)), ([] : List (List Int))), (([] : List (ByteArray × Int × Int × Int × Int)), ([] : List Int))), 2))
    (br (!(f39 (a1.2.2, (1, 3600))))
    (K (((([] : List (List Int)), ([] : List (List Int))), (([] : List (ByteArray × Int × Int × Int × Int)), ([] : List Int))), 2))
    (br (!(f54 (IntKind.i64.wrap (((((a0.2.1.getD a1.1.toNat ((⟨#[]⟩ : ByteArray), (0, (0, (0, 0))))).2).2).2).1 + (IntKind.i64.wrap ((IntKind.i64.wrap (a1.2.1 + a1.2.2)) - (((a0.2.1.getD a1.1.toNat ((⟨#[]⟩ : ByteArray), (0, (0, (0, 0))))).2).2).1))))))
    (K (((([] : List (List Int)), ([] : List (List Int))), (([] : List (ByteArray × Int × Int × Int × Int)), ([] : List Int))), 20))
    (f57_pre a0.1.1 ∧
    f57_pre a0.1.2 ∧
    f58_pre a0.2.1 ∧
    br (decide (0 ≤ a1.1) && decide (a1.1 < (((f58 a0.2.1).length) : Int)))
    (f60_pre a0.2.2 ∧
    br (lenOk ((f60 a0.2.2).length))
    (LoopP (V := Int × Unit) (fun again v => (fun (again1 : Int → Prop) (v1_0 : Int) =>
    br (decide (v1_0 < (((f60 a0.2.2).length) : Int)))
    (br (decide (0 ≤ v1_0) && decide (v1_0 < (((f60 a0.2.2).length) : Int)))
    (br (((f60 a0.2.2).getD v1_0.toNat 0) == a1.1)
    (br (v1_0 == (-1))
    (K ((((f57 a0.1.1), (f57 a0.1.2)), (((f58 a0.2.1).set a1.1.toNat ((a0.2.1.getD a1.1.toNat ((⟨#[]⟩ : ByteArray), (0, (0, (0, 0))))).1, (((a0.2.1.getD a1.1.toNat ((⟨#[]⟩ : ByteArray), (0, (0, (0, 0))))).2).1, ((IntKind.i64.wrap ((((a0.2.1.getD a1.1.toNat ((⟨#[]⟩ : ByteArray), (0, (0, (0, 0))))).2).2).1 + (IntKind.i64.wrap ((IntKind.i64.wrap (a1.2.1 + a1.2.2)) - (((a0.2.1.getD a1.1.toNat ((⟨#[]⟩ : ByteArray), (0, (0, (0, 0))))).2).2).1)))), ((IntKind.i64.wrap (((((a0.2.1.getD a1.1.toNat ((⟨#[]⟩ : ByteArray), (0, (0, (0, 0))))).2).2).2).1 + (IntKind.i64.wrap ((IntKind.i64.wrap (a1.2.1 + a1.2.2)) - (((a0.2.1.getD a1.1.toNat ((⟨#[]⟩ : ByteArray), (0, (0, (0, 0))))).2).2).1)))), ((((a0.2.1.getD a1.1.toNat ((⟨#[]⟩ : ByteArray), (0, (0, (0, 0))))).2).2).2).2))))), (f60 a0.2.2))), 0))
    (LoopP (V := Int × Int × List Int × Unit) (fun again v => (fun (again2 : Int → Int → List Int → Prop) (v2_0 : Int) (v2_1 : Int) (v2_2 : List Int) =>
    br (lenOk (v2_2.length))
    (br (decide (v2_1 < ((v2_2.length) : Int)))
    (br (decide (0 ≤ v2_1) && decide (v2_1 < ((v2_2.length) : Int)))
    (br (!((v2_2.getD v2_1.toNat 0) == a1.1))
    (br (decide (0 ≤ v2_0) && decide (v2_0 < ((v2_2.length) : Int)))
    (again2 (IntKind.i64.wrap (v2_0 + 1)) (IntKind.i64.wrap (v2_1 + 1)) (v2_2.set v2_0.toNat (v2_2.getD v2_1.toNat 0)))
    False)
    (again2 v2_0 (IntKind.i64.wrap (v2_1 + 1)) v2_2))
    False)
    (br (decide (0 ≤ v2_0 ∧ v2_0 ≤ ((v2_2.length) : Int)))
    (br (decide ((0 : Int) ≤ 0 ∧ 0 ≤ v2_0 ∧ v2_0 ≤ (((v2_2.take v2_0.toNat ++ List.replicate (v2_2.length - v2_0.toNat) (0 : Int)).length) : Int)))
    (K ((((f57 a0.1.1), (f57 a0.1.2)), (((f58 a0.2.1).set a1.1.toNat ((a0.2.1.getD a1.1.toNat ((⟨#[]⟩ : ByteArray), (0, (0, (0, 0))))).1, (((a0.2.1.getD a1.1.toNat ((⟨#[]⟩ : ByteArray), (0, (0, (0, 0))))).2).1, ((IntKind.i64.wrap ((((a0.2.1.getD a1.1.toNat ((⟨#[]⟩ : ByteArray), (0, (0, (0, 0))))).2).2).1 + (IntKind.i64.wrap ((IntKind.i64.wrap (a1.2.1 + a1.2.2)) - (((a0.2.1.getD a1.1.toNat ((⟨#[]⟩ : ByteArray), (0, (0, (0, 0))))).2).2).1)))), ((IntKind.i64.wrap (((((a0.2.1.getD a1.1.toNat ((⟨#[]⟩ : ByteArray), (0, (0, (0, 0))))).2).2).2).1 + (IntKind.i64.wrap ((IntKind.i64.wrap (a1.2.1 + a1.2.2)) - (((a0.2.1.getD a1.1.toNat ((⟨#[]⟩ : ByteArray), (0, (0, (0, 0))))).2).2).1)))), ((((a0.2.1.getD a1.1.toNat ((⟨#[]⟩ : ByteArray), (0, (0, (0, 0))))).2).2).2).2))))), (((v2_2.take v2_0.toNat ++ List.replicate (v2_2.length - v2_0.toNat) (0 : Int)).take v2_0.toNat).drop 0))), 0))
    False)
    False))
    True)
    (fun v2_0 v2_1 v2_2 => again (v2_0, v2_1, v2_2, ())) v.1 v.2.1 v.2.2.1) (v1_0, (IntKind.i64.wrap (v1_0 + 1)), (f60 a0.2.2), ())))
    (again1 (IntKind.i64.wrap (v1_0 + 1))))
    False)
    (K ((((f57 a0.1.1), (f57 a0.1.2)), (((f58 a0.2.1).set a1.1.toNat ((a0.2.1.getD a1.1.toNat ((⟨#[]⟩ : ByteArray), (0, (0, (0, 0))))).1, (((a0.2.1.getD a1.1.toNat ((⟨#[]⟩ : ByteArray), (0, (0, (0, 0))))).2).1, ((IntKind.i64.wrap ((((a0.2.1.getD a1.1.toNat ((⟨#[]⟩ : ByteArray), (0, (0, (0, 0))))).2).2).1 + (IntKind.i64.wrap ((IntKind.i64.wrap (a1.2.1 + a1.2.2)) - (((a0.2.1.getD a1.1.toNat ((⟨#[]⟩ : ByteArray), (0, (0, (0, 0))))).2).2).1)))), ((IntKind.i64.wrap (((((a0.2.1.getD a1.1.toNat ((⟨#[]⟩ : ByteArray), (0, (0, (0, 0))))).2).2).2).1 + (IntKind.i64.wrap ((IntKind.i64.wrap (a1.2.1 + a1.2.2)) - (((a0.2.1.getD a1.1.toNat ((⟨#[]⟩ : ByteArray), (0, (0, (0, 0))))).2).2).1)))), ((((a0.2.1.getD a1.1.toNat ((⟨#[]⟩ : ByteArray), (0, (0, (0, 0))))).2).2).2).2))))), (f60 a0.2.2))), 0)))
    (fun v1_0 => again (v1_0, ())) v.1) (0, ()))
    True)
    False))))
    False))
    True) := by kernel_rfl
theorem f20_t (a0 : (List (List Int) × List (List Int)) × List (ByteArray × Int × Int × Int × Int) × List Int) (a1 : Int × Int × Int) (hpre : f20_pre (a0, a1)) (K : (((List (List Int) × List (List Int)) × List (ByteArray × Int × Int × Int × Int) × List Int) × Int) → Prop) (hK : ∀ y : ((List (List Int) × List (List Int)) × List (ByteArray × Int × Int × Int × Int) × List Int) × Int, y = f20 (a0, a1) → K y) : RunF Tryz.prog f20_E f20_A 6 Tryz.f20 f20_e.doms f20_e.cods (a0, a1) K := by
  refine ⟨?_⟩
  rw [f20_run a0 a1 K]
  obtain ⟨hp76, hl1, p1, p2, p3⟩ := hpre
  simp only at hp76 hl1 p1 p2 p3
  have ef : f20 (a0, a1) = if (probOf a0).2 ≠ 0 then (noProb, (probOf a0).2) else if aroundE a0 a1 ≠ 0 then (noProb, aroundE a0 a1) else (aroundF a0 a1, 0) := rfl
  rw [ef] at hK
  have e37 : (f37 a0).2 = (probOf a0).2 := rfl
  have ed : noProb = (((([] : List (List Int)), ([] : List (List Int))), (([] : List (ByteArray × Int × Int × Int × Int)), ([] : List Int)))) := rfl
  refine ⟨hp76, ?_⟩
  rw [br_true_]
  intro _
  rw [e37, wr (n := (a0.2.1.length : Int) - 1) (by omega) (by omega), f42_cons, f42_cons, f42_nil]
  by_cases hp : (probOf a0).2 ≠ 0
  · rw [if_neg hp, show ((probOf a0).2 != 0) = true from by simpa using hp, br_t]
    exact hK _ (by rw [if_pos hp]; rfl)
  have hok : okP a0 := Classical.byContradiction hp
  have hv := hok.v
  have h6 := hv.six
  rw [if_neg hp] at hK
  rw [if_pos (Classical.byContradiction hp)]
  by_cases hin : ¬ inA a0 a1.1
  · have h39 : f39 (a1.1, 0, (a0.2.1.length : Int) - 1) = false := f39_f1.2 (fun hh => hin ⟨hh.1, by have := hh.2; omega⟩)
    have he : aroundE a0 a1 = 6 := by rw [aroundE, if_pos hin]
    rw [he] at hK
    rw [h39]
    exact hK _ rfl
  have hin := Classical.byContradiction hin
  have h0 := hin.1
  have hlt : a1.1.toNat < a0.2.1.length := by have := hin.2; omega
  have h39 : f39 (a1.1, 0, (a0.2.1.length : Int) - 1) = true := f39_t1.2 ⟨h0, by have := hin.2; omega⟩
  have h43 : f43 (true, 6) = 0 := rfl
  rw [h39, h43]
  simp only [if_true, bne_self_eq_false, br_f]
  obtain ⟨⟨_, av, hle⟩, _⟩ := hv.arr a1.1.toNat hlt
  have hd : ((⟨#[]⟩ : ByteArray), ((0 : Int), ((0 : Int), ((0 : Int), (0 : Int))))) = arrD := rfl
  have hb : (decide (0 ≤ a1.1) && decide (a1.1 < (a0.2.1.length : Int))) = true := inb (by omega) (by have := hin.2; omega)
  rw [hb, br_t]
  simp only [hd]
  have hE : aroundE a0 a1 = if ¬ (((a0.2.1.getD a1.1.toNat arrD).2.2.1 ≤ a1.2.1 ∧ a1.2.1 ≤ (a0.2.1.getD a1.1.toNat arrD).2.2.2.1) ∧ (1 ≤ a1.2.2 ∧ a1.2.2 ≤ 3600)) then 2 else
      if (a0.2.1.getD a1.1.toNat arrD).2.2.2.1 + a1.2.1 + a1.2.2 - (a0.2.1.getD a1.1.toNat arrD).2.2.1 > 100000 then 20 else 0 := by
    rw [aroundE, if_neg (fun hh => hh hin)]
  unfold aroundF movedA at hK
  generalize hA : a0.2.1.getD a1.1.toNat arrD = A at *
  obtain ⟨_, v2, v3, _⟩ := av
  rw [br_both]
  refine ⟨fun h1 => ?_, fun h1 => ?_⟩
  · have h1 := f39_f1.1 (not_true.1 h1)
    rw [if_pos (fun hh => h1 hh.1)] at hE
    rw [hE] at hK
    exact hK _ rfl
  have h1 := f39_t1.1 (not_false_.1 h1)
  rw [br_both]
  refine ⟨fun h2 => ?_, fun h2 => ?_⟩
  · have h2 := f39_f1.1 (not_true.1 h2)
    rw [if_pos (fun hh => h2 hh.2)] at hE
    rw [hE] at hK
    exact hK _ rfl
  have h2 := f39_t1.1 (not_false_.1 h2)
  rw [if_neg (fun hh => hh ⟨h1, h2⟩)] at hE
  rw [wr (n := a1.2.1 + a1.2.2) (by omega) (by omega), wr (n := a1.2.1 + a1.2.2 - A.2.2.1) (by omega) (by omega), wr (n := A.2.2.1 + (a1.2.1 + a1.2.2 - A.2.2.1)) (by omega) (by omega), wr (n := A.2.2.2.1 + (a1.2.1 + a1.2.2 - A.2.2.1)) (by omega) (by omega), show A.2.2.1 + (a1.2.1 + a1.2.2 - A.2.2.1) = a1.2.1 + a1.2.2 by omega]
  have e54 : f54 (A.2.2.2.1 + (a1.2.1 + a1.2.2 - A.2.2.1)) = decide (A.2.2.2.1 + (a1.2.1 + a1.2.2 - A.2.2.1) ≤ 100000) := by
    have : 0 ≤ A.2.2.2.1 + (a1.2.1 + a1.2.2 - A.2.2.1) := by omega
    simp [f54, this]
  rw [e54, br_both]
  refine ⟨fun h3 => ?_, fun h3 => ?_⟩
  · have h3 : ¬ (A.2.2.2.1 + (a1.2.1 + a1.2.2 - A.2.2.1) ≤ 100000) := of_decide_eq_false (not_true.1 h3)
    rw [if_pos (by omega)] at hE
    rw [hE] at hK
    exact hK _ rfl
  have h3 : A.2.2.2.1 + (a1.2.1 + a1.2.2 - A.2.2.1) ≤ 100000 := of_decide_eq_true (not_false_.1 h3)
  rw [if_neg (by omega)] at hE
  rw [hE] at hK
  simp only [ne_eq, not_true_eq_false, if_false] at hK
  have e58 : f58 a0.2.1 = a0.2.1 := rfl
  have e60 : f60 a0.2.2 = a0.2.2 := rfl
  have e57 : ∀ l, f57 l = l := fun l => rfl
  rw [e58, e60]
  simp only [e57]
  refine ⟨p1, p2, show a0.2.1.length ≤ 1048576 by omega, ?_⟩
  rw [hb, br_t]
  refine ⟨show a0.2.2.length ≤ 1048576 by omega, ?_⟩
  rw [br_true_]
  intro _
  generalize hl : a0.2.2 = l at *
  refine LoopP.of (fun q : Int × Unit => ∃ i : Nat, i ≤ l.length ∧ q.1 = (i : Int) ∧ (l.take i).filter (fun n => n != a1.1) = l.take i) (fun q => ((l.length : Int) - q.1).toNat) (fun again q hq hag => ?_) ⟨0, by omega, rfl, rfl⟩
  obtain ⟨ii, u⟩ := q
  obtain ⟨i, hi, e1, e2⟩ := hq
  simp only at e1
  subst e1
  dsimp only
  rw [br_dec]
  refine ⟨fun hlt2 => ?_, fun hlt2 => ?_⟩
  · have hlt2 : i < l.length := by omega
    have hs := filter_succ hlt2 (fun n => n != a1.1)
    rw [br_false_]
    refine ⟨inb (by omega) (by omega), ?_⟩
    rw [Int.toNat_natCast, wr (n := (i : Int) + 1) (by omega) (by omega), br_both]
    refine ⟨fun he => ?_, fun hne => ?_⟩
    · rw [show ((i : Int) == -1) = false from beq_eq_false_iff_ne.2 (by omega), br_f]
      have he : l.getD i 0 = a1.1 := by simpa using he
      rw [if_neg (by rw [he]; simp), List.append_nil, e2] at hs
      refine LoopP.of (fun q : Int × Int × List Int × Unit => ∃ m j : Nat, m < j ∧ j ≤ l.length ∧ q.1 = (m : Int) ∧ q.2.1 = (j : Int) ∧ q.2.2.1.length = l.length ∧ q.2.2.1.take m = (l.take j).filter (fun n => n != a1.1) ∧ ∀ r, j ≤ r → q.2.2.1.getD r 0 = l.getD r 0) (fun q => ((l.length : Int) - q.2.1).toNat) (fun again2 q hq hag2 => ?_) ⟨i, i + 1, by omega, by omega, rfl, by simp only; omega, rfl, hs.symm, fun r hr => rfl⟩
      obtain ⟨mm, jj, s, u⟩ := q
      obtain ⟨m, j, hmj, hj, f1, f2, f3, f4, f5⟩ := hq
      simp only at f1 f2 f3 f4 f5
      subst f1 f2
      dsimp only
      rw [br_true_]
      intro _
      rw [f3, br_dec]
      refine ⟨fun hlt3 => ?_, fun hlt3 => ?_⟩
      · have hlt3 : j < l.length := by omega
        have hs2 := filter_succ hlt3 (fun n => n != a1.1)
        rw [br_false_]
        refine ⟨inb (by omega) (by omega), ?_⟩
        rw [Int.toNat_natCast, Int.toNat_natCast, f5 j (Nat.le_refl _), wr (n := (m : Int) + 1) (by omega) (by omega), wr (n := (j : Int) + 1) (by omega) (by omega), br_both]
        refine ⟨fun hk => ?_, fun hk => ?_⟩
        · have hk2 : (l.getD j 0 != a1.1) = true := hk
          rw [if_pos hk2] at hs2
          rw [br_false_]
          refine ⟨inb (by omega) (by omega), hag2 _ ⟨m + 1, j + 1, by omega, by omega, by simp only; omega, by simp only; omega, ?_, ?_, fun r hr => ?_⟩ (by simp only; omega)⟩
          · simp only
            rw [List.length_set]; exact f3
          · simp only
            rw [take_set_succ (by omega), f4, hs2]
          · simp only
            rw [getD_set_ne (by omega)]
            exact f5 r (by omega)
        · have hk2 : (l.getD j 0 != a1.1) = false := hk
          rw [if_neg (by rw [hk2]; simp), List.append_nil] at hs2
          exact hag2 _ ⟨m, j + 1, by omega, by omega, rfl, by simp only; omega, f3, by simp only; rw [hs2]; exact f4, fun r hr => f5 r (by omega)⟩ (by simp only; omega)
      · have : j = l.length := by omega
        subst this
        rw [List.take_length] at f4
        have hml : (s.take m).length = m := by rw [List.length_take]; omega
        rw [br_false_]
        refine ⟨by simp; omega, ?_⟩
        rw [br_false_]
        refine ⟨by simp; omega, hK _ ?_⟩
        rw [Int.toNat_natCast, List.drop_zero, List.take_left' hml, f4]
    · have hne : (l.getD i 0 == a1.1) = false := hne
      have hne2 : (l.getD i 0 != a1.1) = true := by rw [bne, hne]; rfl
      rw [if_pos hne2] at hs
      refine hag _ ⟨i + 1, by omega, by simp only; omega, ?_⟩ (by simp only; omega)
      rw [hs, e2, List.take_add_one, List.getElem?_eq_getElem hlt2, getD_lt hlt2]
      rfl
  · have : i = l.length := by omega
    subst this
    rw [List.take_length] at e2
    exact hK _ (by rw [e2])
theorem f20_fn : f20_e.fn = f20 := rfl
theorem f20_ok : EntryOK Tryz.prog 20 f20_e := by
  refine entryF progOK (EnvOK.cons f37_ok (EnvOK.cons f39_ok (EnvOK.cons f42_ok (EnvOK.cons f43_ok (EnvOK.cons f54_ok (EnvOK.cons f57_ok (EnvOK.cons f58_ok (EnvOK.cons f60_ok (EnvOK.cons f76_ok (EnvOK.nil)))))))))) (A := f20_A) (d := 6) Tryz.func20 rfl rfl rfl rfl (fun h => by cases h) fun x hpre => ?_
  obtain ⟨a0, a1⟩ := x
  exact f20_t a0 a1 hpre _ fun _ h => h.trans (congrFun f20_fn.symm _)
end Go.Proofs.YtglokajinehbmaaGreat
end

section
namespace Go.Proofs.YtglokajinehbmaaGreat
open Go Go.Pi Go.RowKit
set_option maxRecDepth 100000
set_option linter.unusedVariables false
set_option linter.unusedSimpArgs false

def f64 (x : List Int × List Int) : Bool := decide (x.1 = x.2)
def f64_e : Entry := { doms := [(false, (.sl (.int .i64))), (false, (.sl (.int .i64)))], cods := [(false, .bool)], pre := fun _ => True, fn := f64, uq := false, total := true }
def f64_E : Env := []
def f64_A : Anns := { loops := [(1048576, { tms := [(0, .keep), (1, .keep), (5, .data false (.int .i64))], obs := [], fz := [] })], own := [] }
theorem f64_run (a0 : List Int) (a1 : List Int) (K : Bool → Prop) : runF Tryz.prog f64_E f64_A 6 Tryz.f64 f64_e.doms f64_e.cods (a0, a1) K =
    (br (lenOk (a0.length))
    (br (lenOk (a1.length))
    (br (((a0.length) : Int) != ((a1.length) : Int))
    (K false)
    (LoopP (V := Int × Unit) (fun again v => (fun (again1 : Int → Prop) (v1_0 : Int) =>
    br (lenOk (a0.length))
    (br (decide (v1_0 < ((a0.length) : Int)))
    (br (decide (0 ≤ v1_0) && decide (v1_0 < ((a0.length) : Int)))
    (br (decide (0 ≤ v1_0) && decide (v1_0 < ((a1.length) : Int)))
    (br ((a0.getD v1_0.toNat 0) != (a1.getD v1_0.toNat 0))
    (K false)
    (again1 (IntKind.i64.wrap (v1_0 + 1))))
    False)
    False)
    (K true))
    True)
    (fun v1_0 => again (v1_0, ())) v.1) (0, ())))
    True)
    True) := by kernel_rfl
theorem f64_t (a0 : List Int) (a1 : List Int) (K : Bool → Prop) (hK : ∀ y : Bool, y = f64 (a0, a1) → K y) : RunF Tryz.prog f64_E f64_A 6 Tryz.f64 f64_e.doms f64_e.cods (a0, a1) K := by
  refine ⟨?_⟩
  rw [f64_run a0 a1 K]
  rw [br_true_, lenOk_iff]
  intro hl
  rw [br_true_]
  intro _
  rw [br_both]
  refine ⟨fun hne => hK _ ?_, fun he => ?_⟩
  · have : a0 ≠ a1 := fun e => by simp [e] at hne
    simp [f64, this]
  have he : a0.length = a1.length := by
    simp only [bne_eq_false_iff_eq] at he
    omega
  refine LoopP.up a0.length (fun i _ => a0.take i.toNat = a1.take i.toNat) (fun again i v hi0 hn hI hag => ?_) (by omega) (by simp)
  dsimp only
  rw [br_true_]
  intro _
  rw [br_both]
  refine ⟨fun hi => ?_, fun hi => hK _ ?_⟩
  · simp only [decide_eq_true_eq] at hi
    simp only [br_false_, Bool.and_eq_true, decide_eq_true_eq]
    refine ⟨⟨hi0, hi⟩, ⟨hi0, by omega⟩, ?_⟩
    rw [br_both]
    refine ⟨fun hne => hK _ ?_, fun heq => ?_⟩
    · have : a0 ≠ a1 := fun e => by simp [e] at hne
      simp [f64, this]
    · rw [wr (by omega) (by omega)]
      refine hag () hi ?_
      have h1 : i.toNat < a0.length := by omega
      have h2 : i.toNat < a1.length := by omega
      rw [getD_lt h1, getD_lt h2] at heq
      have h3 : a0[i.toNat] = a1[i.toNat] := by simpa using heq
      rw [show (i + 1).toNat = i.toNat + 1 by omega, List.take_add_one, List.take_add_one, hI, List.getElem?_eq_getElem h1, List.getElem?_eq_getElem h2, h3]
  · simp only [decide_eq_false_iff_not] at hi
    rw [List.take_of_length_le (by omega), List.take_of_length_le (by omega)] at hI
    simp [f64, hI]
theorem f64_fn : f64_e.fn = f64 := rfl
theorem f64_ok : EntryOK Tryz.prog 64 f64_e := by
  refine entryF progOK (EnvOK.nil) (A := f64_A) (d := 6) Tryz.func64 rfl rfl rfl rfl (fun _ _ => trivial) fun x hpre => ?_
  obtain ⟨a0, a1⟩ := x
  exact f64_t a0 a1 _ fun _ h => h.trans (congrFun f64_fn.symm _)
end Go.Proofs.YtglokajinehbmaaGreat
end

section
namespace Go.Proofs.YtglokajinehbmaaGreat
set_option linter.unusedVariables false
set_option linter.unusedSimpArgs false
open Go Go.Pi
/-- Two lists are compared item by item. -/
theorem sameW {α : Type} [DecidableEq α] {a b : List α} {d : α} {K : Bool → Prop} (hK : K (decide (a = b))) (hl : a.length = b.length) {step : ((Int × Unit) → Prop) → (Int × Unit) → Prop}
    (h : ∀ (again : (Int × Unit) → Prop) (i : Nat), i ≤ a.length → (i < a.length → a.getD i d = b.getD i d → again ((i : Int) + 1, ())) → (i < a.length → a.getD i d ≠ b.getD i d → K false) → (i = a.length → K true) → step again ((i : Int), ())) :
    LoopP step (0, ()) := by
  refine LoopP.of (fun q : Int × Unit => ∃ i : Nat, i ≤ a.length ∧ q.1 = (i : Int) ∧ a.take i = b.take i) (fun q => ((a.length : Int) - q.1).toNat) (fun again q hq hag => ?_) ⟨0, by omega, rfl, rfl⟩
  obtain ⟨ii, u⟩ := q
  obtain ⟨i, hi, e, ht⟩ := hq
  simp only at e
  subst e
  refine h again i hi (fun hlt heq => hag (_, ()) ⟨i + 1, by omega, by simp only; omega, ?_⟩ (by simp only; omega)) (fun hlt hne => ?_) (fun he => ?_)
  · rw [getD_lt hlt, getD_lt (by omega)] at heq
    rw [List.take_add_one, List.take_add_one, ht, List.getElem?_eq_getElem hlt, List.getElem?_eq_getElem (by omega), heq]
  · have : a ≠ b := fun hh => hne (by rw [hh])
    rw [decide_eq_false this] at hK
    exact hK
  · subst he
    rw [List.take_of_length_le (by omega), List.take_of_length_le (by omega)] at ht
    rw [decide_eq_true ht] at hK
    exact hK
theorem same_len {α : Type} [DecidableEq α] {a b : List α} {K : Bool → Prop} (hK : K (decide (a = b))) (h : a.length ≠ b.length) : K false := by
  have : a ≠ b := fun e => h (by rw [e])
  rw [decide_eq_false this] at hK
  exact hK
end Go.Proofs.YtglokajinehbmaaGreat
end

section
namespace Go.Proofs.YtglokajinehbmaaGreat
open Go Go.Pi Go.RowKit
set_option maxRecDepth 100000
set_option linter.unusedVariables false
set_option linter.unusedSimpArgs false

def f91 (x : List (List Int) × List (List Int)) : Bool := decide (x.1 = x.2)
def f91_e : Entry := { doms := [(false, (.sl (.sl (.int .i64)))), (false, (.sl (.sl (.int .i64))))], cods := [(false, .bool)], pre := fun _ => True, fn := f91, uq := false, total := true }
def f91_E : Env := [(64, f64_e)]
def f91_A : Anns := { loops := [(1048576, { tms := [(0, .keep), (1, .keep), (5, .data false (.int .i64))], obs := [], fz := [] })], own := [] }
theorem f91_run (a0 : List (List Int)) (a1 : List (List Int)) (K : Bool → Prop) : runF Tryz.prog f91_E f91_A 6 Tryz.f91 f91_e.doms f91_e.cods (a0, a1) K =
    (br (lenOk (a0.length))
    (br (lenOk (a1.length))
    (br (((a0.length) : Int) != ((a1.length) : Int))
    (K false)
    (LoopP (V := Int × Unit) (fun again v => (fun (again1 : Int → Prop) (v1_0 : Int) =>
    br (lenOk (a0.length))
    (br (decide (v1_0 < ((a0.length) : Int)))
    (br (decide (0 ≤ v1_0) && decide (v1_0 < ((a0.length) : Int)))
    (br (decide (0 ≤ v1_0) && decide (v1_0 < ((a1.length) : Int)))
    (br (!(f64 ((a0.getD v1_0.toNat []), (a1.getD v1_0.toNat []))))
    (K false)
    (again1 (IntKind.i64.wrap (v1_0 + 1))))
    False)
    False)
    (K true))
    True)
    (fun v1_0 => again (v1_0, ())) v.1) (0, ())))
    True)
    True) := by kernel_rfl
theorem f91_t (a0 : List (List Int)) (a1 : List (List Int)) (K : Bool → Prop) (hK : ∀ y : Bool, y = f91 (a0, a1) → K y) : RunF Tryz.prog f91_E f91_A 6 Tryz.f91 f91_e.doms f91_e.cods (a0, a1) K := by
  refine ⟨?_⟩
  rw [f91_run a0 a1 K]
  have hK : K (decide (a0 = a1)) := hK _ rfl
  rw [br_true_, br_true_]
  intro _ _
  rw [br_both]
  refine ⟨fun h => same_len hK (cast_ne.1 h), fun h => ?_⟩
  have hl := cast_ne_f.1 h
  refine sameW (d := []) hK hl (fun again i hi hag hno hend => ?_)
  dsimp only
  rw [br_true_]
  intro hlen
  have hlen := lenOk_iff.1 hlen
  rw [br_dec]
  refine ⟨fun hlt => ?_, fun hlt => hend (by omega)⟩
  have hlt : i < a0.length := by omega
  rw [br_false_]
  refine ⟨inb (by omega) (by omega), ?_⟩
  rw [br_false_]
  refine ⟨inb (by omega) (by omega), ?_⟩
  simp only [Int.toNat_natCast]
  rw [br_both, wr (n := (i : Int) + 1) (by omega) (by omega)]
  refine ⟨fun hne => hno hlt fun he => ?_, fun heq => hag hlt ?_⟩
  · rw [he] at hne
    simp [f64] at hne
  · simpa [f64] using heq
theorem f91_fn : f91_e.fn = f91 := rfl
theorem f91_ok : EntryOK Tryz.prog 91 f91_e := by
  refine entryF progOK (EnvOK.cons f64_ok (EnvOK.nil)) (A := f91_A) (d := 6) Tryz.func91 rfl rfl rfl rfl (fun _ _ => trivial) fun x hpre => ?_
  obtain ⟨a0, a1⟩ := x
  exact f91_t a0 a1 _ fun _ h => h.trans (congrFun f91_fn.symm _)
end Go.Proofs.YtglokajinehbmaaGreat
end

section
namespace Go.Proofs.YtglokajinehbmaaGreat
open Go Go.Pi Go.RowKit
set_option maxRecDepth 100000
set_option linter.unusedVariables false
set_option linter.unusedSimpArgs false

def f62 (x : (List (List Int) × List (List Int)) × (List (List Int) × List (List Int))) : Bool := decide (x.1 = x.2)
def f62_e : Entry := { doms := [(true, (.pair (.sl (.sl (.int .i64))) (.sl (.sl (.int .i64))))), (true, (.pair (.sl (.sl (.int .i64))) (.sl (.sl (.int .i64)))))], cods := [(false, .bool)], pre := fun _ => True, fn := f62, uq := false, total := true }
def f62_E : Env := [(91, f91_e)]
def f62_A : Anns := { loops := [], own := [] }
theorem f62_run (a0 : List (List Int) × List (List Int)) (a1 : List (List Int) × List (List Int)) (K : Bool → Prop) : runF Tryz.prog f62_E f62_A 6 Tryz.f62 f62_e.doms f62_e.cods (a0, a1) K =
    (br (f91 (a0.1, a1.1))
    (K (f91 (a0.2, a1.2)))
    (K false)) := by kernel_rfl
theorem f62_t (a0 : List (List Int) × List (List Int)) (a1 : List (List Int) × List (List Int)) (K : Bool → Prop) (hK : ∀ y : Bool, y = f62 (a0, a1) → K y) : RunF Tryz.prog f62_E f62_A 6 Tryz.f62 f62_e.doms f62_e.cods (a0, a1) K := by
  refine ⟨?_⟩
  rw [f62_run a0 a1 K]
  have e1 : f91 (a0.1, a1.1) = decide (a0.1 = a1.1) := rfl
  have e2 : f91 (a0.2, a1.2) = decide (a0.2 = a1.2) := rfl
  have hK : K (decide (a0 = a1)) := hK _ rfl
  rw [e1, e2, br_dec]
  refine ⟨fun h => ?_, fun h => ?_⟩
  · rw [show decide (a0.2 = a1.2) = decide (a0 = a1) from decide_eq_decide.2 ⟨fun h2 => Prod.ext h h2, fun hh => by rw [hh]⟩]
    exact hK
  · rw [decide_eq_false (fun hh => h (by rw [hh]))] at hK
    exact hK
theorem f62_fn : f62_e.fn = f62 := rfl
theorem f62_ok : EntryOK Tryz.prog 62 f62_e := by
  refine entryF progOK (EnvOK.cons f91_ok (EnvOK.nil)) (A := f62_A) (d := 6) Tryz.func62 rfl rfl rfl rfl (fun _ _ => trivial) fun x hpre => ?_
  obtain ⟨a0, a1⟩ := x
  exact f62_t a0 a1 _ fun _ h => h.trans (congrFun f62_fn.symm _)
end Go.Proofs.YtglokajinehbmaaGreat
end

section
namespace Go.Proofs.YtglokajinehbmaaGreat
open Go Go.Pi Go.RowKit
set_option maxRecDepth 100000
set_option linter.unusedVariables false
set_option linter.unusedSimpArgs false

def f63 (x : List (ByteArray × Int × Int × Int × Int) × List (ByteArray × Int × Int × Int × Int)) : Bool := decide (x.1 = x.2)
theorem bytes_ext {a b : ByteArray} (h : a.toList = b.toList) : a = b := by
  rw [ByteArray.toList_eq, ByteArray.toList_eq] at h
  exact ByteArray.ext (Array.toList_inj.1 h)
def f63_e : Entry := { doms := [(false, (.sl (.pair .str (.pair (.int .i64) (.pair (.int .i64) (.pair (.int .i64) (.int .i64))))))), (false, (.sl (.pair .str (.pair (.int .i64) (.pair (.int .i64) (.pair (.int .i64) (.int .i64)))))))], cods := [(false, .bool)], pre := fun _ => True, fn := f63, uq := false, total := true }
def f63_E : Env := []
def f63_A : Anns := { loops := [(1048576, { tms := [(0, .keep), (1, .keep), (5, .data false (.int .i64))], obs := [], fz := [] })], own := [] }
theorem f63_run (a0 : List (ByteArray × Int × Int × Int × Int)) (a1 : List (ByteArray × Int × Int × Int × Int)) (K : Bool → Prop) : runF Tryz.prog f63_E f63_A 6 Tryz.f63 f63_e.doms f63_e.cods (a0, a1) K =
    (br (lenOk (a0.length))
    (br (lenOk (a1.length))
    (br (((a0.length) : Int) != ((a1.length) : Int))
    (K false)
    (LoopP (V := Int × Unit) (fun again v => (fun (again1 : Int → Prop) (v1_0 : Int) =>
    br (lenOk (a0.length))
    (br (decide (v1_0 < ((a0.length) : Int)))
    (br (decide (0 ≤ v1_0) && decide (v1_0 < ((a0.length) : Int)))
    (br (decide (0 ≤ v1_0) && decide (v1_0 < ((a1.length) : Int)))
    (br (!((((a0.getD v1_0.toNat ((⟨#[]⟩ : ByteArray), (0, (0, (0, 0))))).1).toList == ((a1.getD v1_0.toNat ((⟨#[]⟩ : ByteArray), (0, (0, (0, 0))))).1).toList) && ((((a0.getD v1_0.toNat ((⟨#[]⟩ : ByteArray), (0, (0, (0, 0))))).2).1 == ((a1.getD v1_0.toNat ((⟨#[]⟩ : ByteArray), (0, (0, (0, 0))))).2).1) && (((((a0.getD v1_0.toNat ((⟨#[]⟩ : ByteArray), (0, (0, (0, 0))))).2).2).1 == (((a1.getD v1_0.toNat ((⟨#[]⟩ : ByteArray), (0, (0, (0, 0))))).2).2).1) && ((((((a0.getD v1_0.toNat ((⟨#[]⟩ : ByteArray), (0, (0, (0, 0))))).2).2).2).1 == ((((a1.getD v1_0.toNat ((⟨#[]⟩ : ByteArray), (0, (0, (0, 0))))).2).2).2).1) && ((((((a0.getD v1_0.toNat ((⟨#[]⟩ : ByteArray), (0, (0, (0, 0))))).2).2).2).2 == ((((a1.getD v1_0.toNat ((⟨#[]⟩ : ByteArray), (0, (0, (0, 0))))).2).2).2).2) && true))))))
    (K false)
    (again1 (IntKind.i64.wrap (v1_0 + 1))))
    False)
    False)
    (K true))
    True)
    (fun v1_0 => again (v1_0, ())) v.1) (0, ())))
    True)
    True) := by kernel_rfl
theorem f63_t (a0 : List (ByteArray × Int × Int × Int × Int)) (a1 : List (ByteArray × Int × Int × Int × Int)) (K : Bool → Prop) (hK : ∀ y : Bool, y = f63 (a0, a1) → K y) : RunF Tryz.prog f63_E f63_A 6 Tryz.f63 f63_e.doms f63_e.cods (a0, a1) K := by
  refine ⟨?_⟩
  rw [f63_run a0 a1 K]
  have hK : K (decide (a0 = a1)) := hK _ rfl
  rw [br_true_, br_true_]
  intro _ _
  rw [br_both]
  refine ⟨fun h => same_len hK (cast_ne.1 h), fun h => ?_⟩
  have hl := cast_ne_f.1 h
  refine sameW (d := ((⟨#[]⟩ : ByteArray), (0, (0, (0, 0))))) hK hl (fun again i hi hag hno hend => ?_)
  dsimp only
  rw [br_true_]
  intro hlen
  have hlen := lenOk_iff.1 hlen
  rw [br_dec]
  refine ⟨fun hlt => ?_, fun hlt => hend (by omega)⟩
  have hlt : i < a0.length := by omega
  rw [br_false_]
  refine ⟨inb (by omega) (by omega), ?_⟩
  rw [br_false_]
  refine ⟨inb (by omega) (by omega), ?_⟩
  simp only [Int.toNat_natCast]
  rw [br_both, wr (n := (i : Int) + 1) (by omega) (by omega)]
  refine ⟨fun hne => hno hlt fun he => ?_, fun heq => hag hlt ?_⟩
  · rw [he] at hne
    simp at hne
  · simp only [Bool.not_eq_false', Bool.and_eq_true, beq_iff_eq] at heq
    exact Prod.ext (bytes_ext heq.1) (Prod.ext heq.2.1 (Prod.ext heq.2.2.1 (Prod.ext heq.2.2.2.1 heq.2.2.2.2.1)))
theorem f63_fn : f63_e.fn = f63 := rfl
theorem f63_ok : EntryOK Tryz.prog 63 f63_e := by
  refine entryF progOK (EnvOK.nil) (A := f63_A) (d := 6) Tryz.func63 rfl rfl rfl rfl (fun _ _ => trivial) fun x hpre => ?_
  obtain ⟨a0, a1⟩ := x
  exact f63_t a0 a1 _ fun _ h => h.trans (congrFun f63_fn.symm _)
end Go.Proofs.YtglokajinehbmaaGreat
end

section
namespace Go.Proofs.YtglokajinehbmaaGreat
open Go Go.Pi Go.RowKit
set_option maxRecDepth 100000
set_option linter.unusedVariables false
set_option linter.unusedSimpArgs false

def f21 (x : ((List (List Int) × List (List Int)) × List (ByteArray × Int × Int × Int × Int) × List Int) × ((List (List Int) × List (List Int)) × List (ByteArray × Int × Int × Int × Int) × List Int)) : Bool := f62 (x.1.1, x.2.1) && (f63 (x.1.2.1, x.2.2.1) && f64 (x.1.2.2, x.2.2.2))
theorem f21_self (p : (List (List Int) × List (List Int)) × List (ByteArray × Int × Int × Int × Int) × List Int) : f21 (p, p) = true := by simp [f21, f62, f63, f64]
def f21_e : Entry := { doms := [(true, (.pair (.pair (.sl (.sl (.int .i64))) (.sl (.sl (.int .i64)))) (.pair (.sl (.pair .str (.pair (.int .i64) (.pair (.int .i64) (.pair (.int .i64) (.int .i64)))))) (.sl (.int .i64))))), (true, (.pair (.pair (.sl (.sl (.int .i64))) (.sl (.sl (.int .i64)))) (.pair (.sl (.pair .str (.pair (.int .i64) (.pair (.int .i64) (.pair (.int .i64) (.int .i64)))))) (.sl (.int .i64)))))], cods := [(false, .bool)], pre := fun _ => True, fn := f21, uq := false, total := true }
def f21_E : Env := [(62, f62_e), (63, f63_e), (64, f64_e)]
def f21_A : Anns := { loops := [], own := [] }
theorem f21_run (a0 : (List (List Int) × List (List Int)) × List (ByteArray × Int × Int × Int × Int) × List Int) (a1 : (List (List Int) × List (List Int)) × List (ByteArray × Int × Int × Int × Int) × List Int) (K : Bool → Prop) : runF Tryz.prog f21_E f21_A 6 Tryz.f21 f21_e.doms f21_e.cods (a0, a1) K =
    (br (f62 (a0.1, a1.1))
    (br (f63 (a0.2.1, a1.2.1))
    (K (f64 (a0.2.2, a1.2.2)))
    (K false))
    (K false)) := by kernel_rfl
theorem f21_t (a0 : (List (List Int) × List (List Int)) × List (ByteArray × Int × Int × Int × Int) × List Int) (a1 : (List (List Int) × List (List Int)) × List (ByteArray × Int × Int × Int × Int) × List Int) (K : Bool → Prop) (hK : ∀ y : Bool, y = f21 (a0, a1) → K y) : RunF Tryz.prog f21_E f21_A 6 Tryz.f21 f21_e.doms f21_e.cods (a0, a1) K := by
  refine ⟨?_⟩
  rw [f21_run a0 a1 K]
  have hK : K (f62 (a0.1, a1.1) && (f63 (a0.2.1, a1.2.1) && f64 (a0.2.2, a1.2.2))) := hK _ rfl
  cases h1 : f62 (a0.1, a1.1) with
  | false => rw [h1] at hK; exact hK
  | true =>
    cases h2 : f63 (a0.2.1, a1.2.1) with
    | false => rw [h1, h2] at hK; exact hK
    | true => rw [h1, h2] at hK; exact hK
theorem f21_fn : f21_e.fn = f21 := rfl
theorem f21_ok : EntryOK Tryz.prog 21 f21_e := by
  refine entryF progOK (EnvOK.cons f62_ok (EnvOK.cons f63_ok (EnvOK.cons f64_ok (EnvOK.nil)))) (A := f21_A) (d := 6) Tryz.func21 rfl rfl rfl rfl (fun _ _ => trivial) fun x hpre => ?_
  obtain ⟨a0, a1⟩ := x
  exact f21_t a0 a1 _ fun _ h => h.trans (congrFun f21_fn.symm _)
end Go.Proofs.YtglokajinehbmaaGreat
end

section
namespace Go.Proofs.YtglokajinehbmaaGreat
open Go Go.Pi Go.RowKit
set_option maxRecDepth 100000
set_option linter.unusedVariables false
set_option linter.unusedSimpArgs false

def f22 (x : ((List (List Int) × List (List Int)) × List (ByteArray × Int × Int × Int × Int) × List Int) × Int × Int × Int) : Int := aroundE x.1 x.2
def f22_pre (x : ((List (List Int) × List (List Int)) × List (ByteArray × Int × Int × Int × Int) × List Int) × Int × Int × Int) : Prop := okP x.1
def f22_e : Entry := { doms := [(true, (.pair (.pair (.sl (.sl (.int .i64))) (.sl (.sl (.int .i64)))) (.pair (.sl (.pair .str (.pair (.int .i64) (.pair (.int .i64) (.pair (.int .i64) (.int .i64)))))) (.sl (.int .i64))))), (true, (.pair (.int .i64) (.pair (.int .i64) (.int .i64))))], cods := [(false, (.int .i64))], pre := f22_pre, fn := f22, uq := false, total := false }
def f22_E : Env := [(25, f25_e)]
def f22_A : Anns := { loops := [], own := [] }
theorem f22_run (a0 : (List (List Int) × List (List Int)) × List (ByteArray × Int × Int × Int × Int) × List Int) (a1 : Int × Int × Int) (K : Int → Prop) : runF Tryz.prog f22_E f22_A 6 Tryz.f22 f22_e.doms f22_e.cods (a0, a1) K =
    (br (lenOk (a0.2.1.length))
    (br (!(f25 (a1.1, (0, (IntKind.i64.wrap (((a0.2.1.length) : Int) - 1))))))
    (K 6)
    (br (decide (0 ≤ a1.1) && decide (a1.1 < ((a0.2.1.length) : Int)))
    (br (!(f25 (a1.2.1, ((((a0.2.1.getD a1.1.toNat ((⟨#[]⟩ : ByteArray), (0, (0, (0, 0))))).2).2).1, ((((a0.2.1.getD a1.1.toNat ((⟨#[]⟩ : ByteArray), (0, (0, (0, 0))))).2).2).2).1))))
    (K 2)
    (br (!(f25 (a1.2.2, (1, 3600))))
    (K 2)
    (br (decide ((IntKind.i64.wrap ((IntKind.i64.wrap ((IntKind.i64.wrap (((((a0.2.1.getD a1.1.toNat ((⟨#[]⟩ : ByteArray), (0, (0, (0, 0))))).2).2).2).1 + a1.2.1)) + a1.2.2)) - (((a0.2.1.getD a1.1.toNat ((⟨#[]⟩ : ByteArray), (0, (0, (0, 0))))).2).2).1)) > 100000))
    (K 20)
    (K 0))))
    False))
    True) := by kernel_rfl
theorem f22_t (a0 : (List (List Int) × List (List Int)) × List (ByteArray × Int × Int × Int × Int) × List Int) (a1 : Int × Int × Int) (hpre : f22_pre (a0, a1)) (K : Int → Prop) (hK : ∀ y : Int, y = f22 (a0, a1) → K y) : RunF Tryz.prog f22_E f22_A 6 Tryz.f22 f22_e.doms f22_e.cods (a0, a1) K := by
  refine ⟨?_⟩
  rw [f22_run a0 a1 K]
  have hok : okP a0 := hpre
  have hv := hok.v
  have h6 := hv.six
  have ef : f22 (a0, a1) = aroundE a0 a1 := rfl
  rw [ef] at hK
  rw [br_true_]
  intro _
  rw [wr (n := (a0.2.1.length : Int) - 1) (by omega) (by omega), br_both]
  refine ⟨fun hb => hK _ ?_, fun hb => ?_⟩
  · have hb := f25_f1.1 (not_true.1 hb)
    rw [aroundE, if_pos (fun hh => hb ⟨hh.1, by have := hh.2; omega⟩)]
  have hb := f25_t1.1 (not_false_.1 hb)
  have hin : inA a0 a1.1 := ⟨hb.1, by omega⟩
  rw [br_false_]
  refine ⟨inb (by omega) (by omega), ?_⟩
  have hd : ((⟨#[]⟩ : ByteArray), ((0 : Int), ((0 : Int), ((0 : Int), (0 : Int))))) = arrD := rfl
  simp only [hd]
  obtain ⟨⟨_, av, hle⟩, _⟩ := hv.arr a1.1.toNat (by have := hin.2; have := hin.1; omega)
  rw [aroundE, if_neg (fun hh => hh hin)] at hK
  generalize hA : a0.2.1.getD a1.1.toNat arrD = A at *
  obtain ⟨_, v2, v3, _⟩ := av
  rw [br_both]
  refine ⟨fun h1 => hK _ ?_, fun h1 => ?_⟩
  · have h1 := f25_f1.1 (not_true.1 h1)
    rw [if_pos (fun hh => h1 hh.1)]
  have h1 := f25_t1.1 (not_false_.1 h1)
  rw [br_both]
  refine ⟨fun h2 => hK _ ?_, fun h2 => ?_⟩
  · have h2 := f25_f1.1 (not_true.1 h2)
    rw [if_pos (fun hh => h2 hh.2)]
  have h2 := f25_t1.1 (not_false_.1 h2)
  rw [if_neg (fun hh => hh ⟨h1, h2⟩)] at hK
  rw [wr (n := A.2.2.2.1 + a1.2.1) (by omega) (by omega), wr (n := A.2.2.2.1 + a1.2.1 + a1.2.2) (by omega) (by omega), wr (n := A.2.2.2.1 + a1.2.1 + a1.2.2 - A.2.2.1) (by omega) (by omega), br_dec]
  exact ⟨fun h => hK _ (by rw [if_pos h]), fun h => hK _ (by rw [if_neg h])⟩
theorem f22_fn : f22_e.fn = f22 := rfl
theorem f22_ok : EntryOK Tryz.prog 22 f22_e := by
  refine entryF progOK (EnvOK.cons f25_ok (EnvOK.nil)) (A := f22_A) (d := 6) Tryz.func22 rfl rfl rfl rfl (fun h => by cases h) fun x hpre => ?_
  obtain ⟨a0, a1⟩ := x
  exact f22_t a0 a1 hpre _ fun _ h => h.trans (congrFun f22_fn.symm _)
end Go.Proofs.YtglokajinehbmaaGreat
end
