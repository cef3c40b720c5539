/- What functions of the program compute, each proved once, part 4. -/
import Derived.Test.YtglokajinehbmaaPiD
import Derived.Test.YtglokajinehbmaaFnA

section
namespace Go.Proofs.Ytglokajinehbmaa
open Go Go.Pi Go.RowKit
set_option maxRecDepth 100000
set_option linter.unusedVariables false
set_option linter.unusedSimpArgs false

def f14 (r : List (List Int) × List (List Int)) : Bool := decide ((r.1.length ≤ 6 ∧ r.2.length ≤ 6) ∧ (∀ x ∈ r.1, x.length ≤ 6) ∧ ∀ x ∈ r.2, x.length ≤ 6)
def f14_e : Entry := { doms := [(true, (.pair (.sl (.sl (.int .i64))) (.sl (.sl (.int .i64)))))], cods := [(false, .bool)], pre := fun _ => True, fn := f14, uq := false, total := true }
def f14_E : Env := []
def f14_A : Anns := { loops := [(1048576, { tms := [(1, .keep), (3, .data false (.int .i64))], obs := [(1048576, .keep)], fz := [] }),
  (1048578, { tms := [(1, .keep), (4, .data false (.int .i64))], obs := [(1048576, .keep)], fz := [] })], own := [] }
theorem f14_run (a0 : List (List Int) × List (List Int)) (K : Bool → Prop) : runF Try.prog f14_E f14_A 6 Try.f14 f14_e.doms f14_e.cods a0 K =
    (br (lenOk (a0.1.length))
    (br (decide (((a0.1.length) : Int) > 6))
    (K false)
    (br (lenOk (a0.2.length))
    (br (decide (((a0.2.length) : Int) > 6))
    (K false)
    (LoopP (V := Int × Unit) (fun again v => (fun (again1 : Int → Prop) (v1_0 : Int) =>
    br (lenOk (a0.1.length))
    (br (decide (v1_0 < ((a0.1.length) : Int)))
    (br (decide (0 ≤ v1_0) && decide (v1_0 < ((a0.1.length) : Int)))
    (br (lenOk ((a0.1.getD v1_0.toNat []).length))
    (br (decide ((((a0.1.getD v1_0.toNat []).length) : Int) > 6))
    (K false)
    (again1 (IntKind.i64.wrap (v1_0 + 1))))
    True)
    False)
    (LoopP (V := Int × Unit) (fun again v => (fun (again2 : Int → Prop) (v2_0 : Int) =>
    br (lenOk (a0.2.length))
    (br (decide (v2_0 < ((a0.2.length) : Int)))
    (br (decide (0 ≤ v2_0) && decide (v2_0 < ((a0.2.length) : Int)))
    (br (lenOk ((a0.2.getD v2_0.toNat []).length))
    (br (decide ((((a0.2.getD v2_0.toNat []).length) : Int) > 6))
    (K false)
    (again2 (IntKind.i64.wrap (v2_0 + 1))))
    True)
    False)
    (K true))
    True)
    (fun v2_0 => again (v2_0, ())) v.1) (0, ())))
    True)
    (fun v1_0 => again (v1_0, ())) v.1) (0, ())))
    True))
    True) := by kernel_rfl
theorem f14_t (a0 : List (List Int) × List (List Int)) (K : Bool → Prop) (hK : ∀ y : Bool, y = f14 a0 → K y) : RunF Try.prog f14_E f14_A 6 Try.f14 f14_e.doms f14_e.cods a0 K := by
  refine ⟨?_⟩
  rw [f14_run a0 K]
  have no : ¬ ((a0.1.length ≤ 6 ∧ a0.2.length ≤ 6) ∧ (∀ x ∈ a0.1, x.length ≤ 6) ∧ ∀ x ∈ a0.2, x.length ≤ 6) → K false := fun h => hK _ (decide_eq_false h).symm
  rw [br_true_]
  intro _
  rw [br_dec]
  refine ⟨fun h => no fun hh => by omega, fun h1 => ?_⟩
  rw [br_true_]
  intro _
  rw [br_dec]
  refine ⟨fun h => no fun hh => by omega, fun h2 => ?_⟩
  refine LoopP.up a0.1.length (fun i _ => ∀ x ∈ a0.1.take i.toNat, x.length ≤ 6) (fun again i v h0 hn hI hag => ?_) (by omega) all_zero
  dsimp only
  rw [br_true_]
  intro _
  rw [br_dec]
  refine ⟨fun hi => ?_, fun hi => ?_⟩
  · rw [br_false_]
    refine ⟨by simp; omega, ?_⟩
    rw [br_true_]
    intro _
    rw [br_dec]
    refine ⟨fun h => no fun hh => ?_, fun h => ?_⟩
    · have := hh.2.1 (a0.1.getD i.toNat []) (by rw [getD_lt (by omega)]; exact List.getElem_mem _)
      omega
    · rw [wr (n := i + 1) (by omega) (by omega)]
      exact hag () hi (all_step (d := []) h0 hi hI (by omega))
  · have hall := all_done hi hI
    refine LoopP.up a0.2.length (fun i _ => ∀ x ∈ a0.2.take i.toNat, x.length ≤ 6) (fun again i v h0 hn hI hag => ?_) (by omega) all_zero
    dsimp only
    rw [br_true_]
    intro _
    rw [br_dec]
    refine ⟨fun hi => ?_, fun hi => hK _ ?_⟩
    · rw [br_false_]
      refine ⟨by simp; omega, ?_⟩
      rw [br_true_]
      intro _
      rw [br_dec]
      refine ⟨fun h => no fun hh => ?_, fun h => ?_⟩
      · have := hh.2.2 (a0.2.getD i.toNat []) (by rw [getD_lt (by omega)]; exact List.getElem_mem _)
        omega
      · rw [wr (n := i + 1) (by omega) (by omega)]
        exact hag () hi (all_step (d := []) h0 hi hI (by omega))
    · unfold f14
      rw [decide_eq_true]
      exact ⟨⟨by omega, by omega⟩, hall, all_done hi hI⟩
theorem f14_fn : f14_e.fn = f14 := rfl
theorem f14_ok : EntryOK Try.prog 14 f14_e := by
  refine entryF progOK (EnvOK.nil) (A := f14_A) (d := 6) Try.func14 rfl rfl rfl (fun _ _ => trivial) fun x hpre => ?_
  exact f14_t x _ fun _ h => h.trans (congrFun f14_fn.symm _)
end Go.Proofs.Ytglokajinehbmaa
end

section
namespace Go.Proofs.Ytglokajinehbmaa
set_option linter.unusedVariables false
set_option linter.unusedSimpArgs false
open Go Go.Pi
/-- Two lists are compared item by item. -/
theorem sameW {α : Type} [DecidableEq α] {a b : List α} {d : α} {K : Bool → Prop} (hK : K (decide (a = b))) (hl : a.length = b.length) {step : ((Int × Unit) → Prop) → (Int × Unit) → Prop}
    (h : ∀ (again : (Int × Unit) → Prop) (i : Nat), i ≤ a.length → (i < a.length → a.getD i d = b.getD i d → again ((i : Int) + 1, ())) → (i < a.length → a.getD i d ≠ b.getD i d → K false) → (i = a.length → K true) → step again ((i : Int), ())) :
    LoopP step (0, ()) := by
  refine LoopP.of (fun q : Int × Unit => ∃ i : Nat, i ≤ a.length ∧ q.1 = (i : Int) ∧ a.take i = b.take i) (fun q => ((a.length : Int) - q.1).toNat) (fun again q hq hag => ?_) ⟨0, by omega, rfl, rfl⟩
  obtain ⟨ii, u⟩ := q
  obtain ⟨i, hi, e, ht⟩ := hq
  simp only at e
  subst e
  refine h again i hi (fun hlt heq => hag (_, ()) ⟨i + 1, by omega, by simp only; omega, ?_⟩ (by simp only; omega)) (fun hlt hne => ?_) (fun he => ?_)
  · rw [getD_lt hlt, getD_lt (by omega)] at heq
    rw [List.take_add_one, List.take_add_one, ht, List.getElem?_eq_getElem hlt, List.getElem?_eq_getElem (by omega), heq]
  · have : a ≠ b := fun hh => hne (by rw [hh])
    rw [decide_eq_false this] at hK
    exact hK
  · subst he
    rw [List.take_of_length_le (by omega), List.take_of_length_le (by omega)] at ht
    rw [decide_eq_true ht] at hK
    exact hK
theorem same_len {α : Type} [DecidableEq α] {a b : List α} {K : Bool → Prop} (hK : K (decide (a = b))) (h : a.length ≠ b.length) : K false := by
  have : a ≠ b := fun e => h (by rw [e])
  rw [decide_eq_false this] at hK
  exact hK
end Go.Proofs.Ytglokajinehbmaa
end

section
namespace Go.Proofs.Ytglokajinehbmaa
set_option linter.unusedVariables false
set_option linter.unusedSimpArgs false
open Go Go.Pi
abbrev Rul := List (List Int) × List (List Int)
/-- The separation behind the i-th of a mix. -/
def gapAt (r : Rul) (mix : List Int) (i : Nat) : Int := (r.1.getD (mix.getD i 0).toNat []).getD (mix.getD ((i + 1) % mix.length) 0).toNat 0
def catI (r : Rul) (mix : List Int) (i : Nat) : Int := if 0 ≤ mix.getD i 0 ∧ mix.getD i 0 < r.1.length then 0 else 6
def gapI (r : Rul) (mix : List Int) (i : Nat) : Int := if gapAt r mix i = 0 then 11 else 0
def mixErr (r : Rul) (mix : List Int) (secs : Int) : Int :=
  if mix.length = 0 then 10 else if mix.length > 12 then 8 else if (eachE mix.length (catI r mix)).2 ≠ 0 then 6 else if ¬ (0 ≤ secs ∧ secs ≤ 7200) then 2 else if (eachE mix.length (gapI r mix)).2 ≠ 0 then 11 else 0
theorem tm_nat (a b : Nat) : ((a : Int)).tmod (b : Int) = ((a % b : Nat) : Int) := (Int.ofNat_tmod a b).symm
structure MixV (r : Rul) (mix : List Int) (secs : Int) : Prop where
  rule : (ruleOf r).2 = 0
  len : 0 < mix.length ∧ mix.length ≤ 12
  cat : ∀ i, i < mix.length → 0 ≤ mix.getD i 0 ∧ mix.getD i 0 < r.1.length
  secs : 0 ≤ secs ∧ secs ≤ 7200
  gap : ∀ i, i < mix.length → gapAt r mix i ≠ 0
theorem mixErr_zero {r : Rul} {mix : List Int} {secs : Int} (hr : (ruleOf r).2 = 0) (h : mixErr r mix secs = 0) : MixV r mix secs := by
  unfold mixErr at h
  split at h
  · simp at h
  · rename_i h1
    split at h
    · simp at h
    · rename_i h2
      split at h
      · simp at h
      · rename_i h3
        split at h
        · simp at h
        · rename_i h4
          split at h
          · simp at h
          · rename_i h5
            have h3 := eachE_zero (Classical.byContradiction h3)
            have h5 := eachE_zero (Classical.byContradiction h5)
            refine ⟨hr, ⟨by omega, by omega⟩, fun i hi => ?_, Classical.byContradiction h4, fun i hi => ?_⟩
            · have := h3 i hi
              unfold catI at this
              split at this
              · assumption
              · simp at this
            · have := h5 i hi
              unfold gapI at this
              split at this
              · simp at this
              · assumption
theorem MixV.gap_in {r : Rul} {mix : List Int} {secs : Int} (h : MixV r mix secs) {i : Nat} (hi : i < mix.length) : 1 ≤ gapAt r mix i ∧ gapAt r mix i ≤ 600 := by
  obtain ⟨⟨p1, p2, p3⟩, hr⟩ := ruleOf_zero h.rule
  obtain ⟨c1, c2⟩ := h.cat i hi
  have hm : (i + 1) % mix.length < mix.length := Nat.mod_lt _ h.len.1
  obtain ⟨d1, d2⟩ := h.cat _ hm
  have := (hr (mix.getD i 0).toNat (by omega)).2 (mix.getD ((i + 1) % mix.length) 0).toNat (by omega)
  have h2 := h.gap i hi
  unfold gapAt at h2 ⊢
  have h3 := this.1
  omega
/-- The time of the k-th arrival. -/
def timeAt (r : Rul) (mix : List Int) : Nat → Int
  | 0 => 0
  | k + 1 => timeAt r mix k + gapAt r mix (k % mix.length)
structure IsCap (r : Rul) (mix : List Int) (secs : Int) (k : Nat) : Prop where
  le : ∀ j, j < k → timeAt r mix j ≤ secs
  gt : secs < timeAt r mix k
theorem IsCap.uniq {r : Rul} {mix : List Int} {secs : Int} {k l : Nat} (h : IsCap r mix secs k) (g : IsCap r mix secs l) : k = l := by
  rcases Nat.lt_trichotomy k l with hh | hh | hh
  · have := g.le k hh
    have := h.gt
    omega
  · exact hh
  · have := h.le l hh
    have := g.gt
    omega
theorem timeAt_ge {r : Rul} {mix : List Int} {secs : Int} (h : MixV r mix secs) : ∀ k : Nat, (k : Int) ≤ timeAt r mix k
  | 0 => Int.le_refl _
  | k + 1 => by
    have := timeAt_ge h k
    have := (h.gap_in (Nat.mod_lt k h.len.1)).1
    rw [timeAt]
    omega
theorem timeAt_le {r : Rul} {mix : List Int} {secs : Int} (h : MixV r mix secs) {k l : Nat} (hkl : k ≤ l) : timeAt r mix k ≤ timeAt r mix l := by
  induction l with
  | zero => rw [show k = 0 by omega]; exact Int.le_refl _
  | succ l ih =>
    rcases Nat.lt_or_ge l k with hh | hh
    · rw [show k = l + 1 by omega]; exact Int.le_refl _
    · have := ih hh
      have := (h.gap_in (Nat.mod_lt l h.len.1)).1
      rw [timeAt]
      omega
theorem timeAt_600 {r : Rul} {mix : List Int} {secs : Int} (h : MixV r mix secs) : ∀ k : Nat, timeAt r mix k ≤ 600 * (k : Int)
  | 0 => Int.le_refl _
  | k + 1 => by
    have := timeAt_600 h k
    have := (h.gap_in (Nat.mod_lt k h.len.1)).2
    rw [timeAt]
    omega
def capGo (r : Rul) (mix : List Int) (secs : Int) : Nat → Nat → Nat
  | 0, k => k
  | n + 1, k => if timeAt r mix k ≤ secs then capGo r mix secs n (k + 1) else k
def capF (r : Rul) (mix : List Int) (secs : Int) : Nat := capGo r mix secs 7202 0
theorem capGo_is {r : Rul} {mix : List Int} {secs : Int} (h : MixV r mix secs) : ∀ n k, secs < (n + k : Nat) → (∀ j, j < k → timeAt r mix j ≤ secs) → IsCap r mix secs (capGo r mix secs n k)
  | 0, k, hn, hk => ⟨hk, by have := timeAt_ge h k; unfold capGo; omega⟩
  | n + 1, k, hn, hk => by
    unfold capGo
    split
    · rename_i hle
      exact capGo_is h n (k + 1) (by omega) fun j hj => by
        rcases Nat.lt_or_ge j k with hh | hh
        · exact hk j hh
        · rw [show j = k by omega]; exact hle
    · exact ⟨hk, by omega⟩
theorem capF_is {r : Rul} {mix : List Int} {secs : Int} (h : MixV r mix secs) : IsCap r mix secs (capF r mix secs) :=
  capGo_is h 7202 0 (by have := h.secs; omega) fun j hj => by omega
theorem IsCap.le_secs {r : Rul} {mix : List Int} {secs : Int} (h : MixV r mix secs) {k : Nat} (hk : ∀ j, j < k → timeAt r mix j ≤ secs) : (k : Int) ≤ secs + 1 := by
  cases k with
  | zero => have := h.secs; omega
  | succ k =>
    have := hk k (by omega)
    have := timeAt_ge h k
    omega
end Go.Proofs.Ytglokajinehbmaa
end
