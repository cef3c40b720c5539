/- What functions of the program compute, each proved once, part 2. -/
import Derived.Test.YtdhekhichomoiaaPiC
import Derived.Test.YtdhekhichomoiaaFnA

section
namespace Go.Proofs.Ytdhekhichomoiaa
open Go Go.Pi Go.RowKit
set_option maxRecDepth 100000
set_option linter.unusedVariables false
set_option linter.unusedSimpArgs false

def f33 (l : List (Int × Int)) : Int × Int := if l.length = 0 then (0, 10) else if 48 < l.length then (0, 8) else match l.findIdx? (fun g => !f103 g) with
  | some i => ((i : Int), 2)
  | none => (0, 0)
def f33_e : Entry := { doms := [(false, (.sl (.pair (.int .i64) (.int .i64))))], cods := [(false, (.int .i64)), (false, (.int .i64))], pre := fun _ => True, fn := f33, uq := false, total := true }
def f33_E : Env := [(93, f93_e), (94, f94_e), (103, f103_e)]
def f33_A : Anns := { loops := [(1157426204821684224, { tms := [(0, .keep), (1, .keep), (7, .keep), (8, .data false (.int .i64))], obs := [(1103807643648, .keep)], fz := [] })], own := [] }
theorem f33_run (a0 : List (Int × Int)) (K : (Int × Int) → Prop) : runF Try.prog f33_E f33_A 6 Try.f33 f33_e.doms f33_e.cods a0 K =
    (br (lenOk (a0.length))
    (br (lenOk (a0.length))
    (br ((f93 ([(f94 ((decide (((a0.length) : Int) > 0)), 10)), (f94 ((decide (((a0.length) : Int) ≤ 48)), 8))] : List Int)) != 0)
    (K (0, (f93 ([(f94 ((decide (((a0.length) : Int) > 0)), 10)), (f94 ((decide (((a0.length) : Int) ≤ 48)), 8))] : List Int))))
    (br (lenOk (a0.length))
    (LoopP (V := Int × Unit) (fun again v => (fun (again1 : Int → Prop) (v1_0 : Int) =>
    br (decide (v1_0 < ((a0.length) : Int)))
    (br (decide (0 ≤ v1_0) && decide (v1_0 < ((a0.length) : Int)))
    (br (!(f103 (a0.getD v1_0.toNat (0, 0))))
    (br (decide (v1_0 ≥ 0))
    (K (v1_0, 2))
    (K (0, 0)))
    (again1 (IntKind.i64.wrap (v1_0 + 1))))
    False)
    (K (0, 0)))
    (fun v1_0 => again (v1_0, ())) v.1) (0, ()))
    True))
    True)
    True) := by kernel_rfl
theorem f33_t (a0 : List (Int × Int)) (K : (Int × Int) → Prop) (hK : ∀ y : Int × Int, y = f33 a0 → K y) : RunF Try.prog f33_E f33_A 6 Try.f33 f33_e.doms f33_e.cods a0 K := by
  refine ⟨?_⟩
  rw [f33_run a0 K]
  simp only [br_true_, lenOk_iff]
  simp only [br_both]
  intro hl _
  by_cases h0 : a0.length = 0
  · have e : f93 [f94 (decide ((a0.length : Int) > 0), 10), f94 (decide ((a0.length : Int) ≤ 48), 8)] = 10 := by simp [h0, f94, f93_cons]
    rw [e]
    exact ⟨fun _ => hK _ (by simp [f33, h0]), fun h => by simp at h⟩
  by_cases h1 : 48 < a0.length
  · have e : f93 [f94 (decide ((a0.length : Int) > 0), 10), f94 (decide ((a0.length : Int) ≤ 48), 8)] = 8 := by
      have : ¬ (a0.length : Int) ≤ 48 := by omega
      have h2 : 0 < a0.length := by omega
      simp [this, h2, f94, f93_cons, f93_nil]
    rw [e]
    exact ⟨fun _ => hK _ (by simp [f33, h0, h1]), fun h => by simp at h⟩
  have e : f93 [f94 (decide ((a0.length : Int) > 0), 10), f94 (decide ((a0.length : Int) ≤ 48), 8)] = 0 := by
    have : (a0.length : Int) ≤ 48 := by omega
    have h2 : 0 < a0.length := by omega
    simp [this, h2, f94, f93_cons, f93_nil]
  rw [e]
  refine ⟨fun h => by simp at h, fun _ _ => ?_⟩
  refine LoopP.up a0.length (fun i _ => ∀ x ∈ a0.take i.toNat, (!f103 x) = false) (fun again i v hi0 hn hI hag => ?_) (by omega) all_zero
  simp only [br_both, decide_eq_true_eq, decide_eq_false_iff_not, Bool.and_eq_true]
  refine ⟨fun hi => ⟨fun _ => ⟨fun hne => ⟨fun _ => ?_, fun hf => ?_⟩, fun he => ?_⟩, fun hf => ?_⟩, fun hi => ?_⟩
  · refine hK _ ?_
    rw [f33, if_neg h0, if_neg h1, findIdx_at hi0 hi hI hne]
    simp only
    rw [Int.toNat_of_nonneg hi0]
  · omega
  · rw [wr (by omega) (by omega)]
    exact hag () hi (all_step hi0 hi hI he)
  · simp at hf; omega
  · refine hK _ ?_
    rw [f33, if_neg h0, if_neg h1, findIdx_none (all_done hi hI)]
theorem f33_fn : f33_e.fn = f33 := rfl
theorem f33_ok : EntryOK Try.prog 33 f33_e := by
  refine entryF progOK (EnvOK.cons f93_ok (EnvOK.cons f94_ok (EnvOK.cons f103_ok (EnvOK.nil)))) (A := f33_A) (d := 6) Try.func33 rfl rfl (fun _ _ => trivial) fun x hpre => ?_
  exact f33_t x _ fun _ h => h.trans (congrFun f33_fn.symm _)
/-- A valid block. -/
theorem blk_ok {l : List (Int × Int)} (h : (f33 l).2 = 0) : 0 < l.length ∧ l.length ≤ 48 ∧ ∀ x ∈ l, -1000 ≤ x.1 ∧ x.1 ≤ 1000 ∧ -1000 ≤ x.2 ∧ x.2 ≤ 1000 := by
  unfold f33 at h
  split at h
  · simp at h
  · split at h
    · simp at h
    · split at h
      · simp at h
      · rename_i h0 h1 hf
        refine ⟨by omega, by omega, fun x hx => ?_⟩
        rw [List.findIdx?_eq_none_iff] at hf
        have := hf x hx
        simp only [Bool.not_eq_false', f103, szd, Bool.and_eq_true, decide_eq_true_eq] at this
        omega
end Go.Proofs.Ytdhekhichomoiaa
end

section
namespace Go.Proofs.Ytdhekhichomoiaa
open Go Go.Pi Go.RowKit
set_option maxRecDepth 100000
set_option linter.unusedVariables false
set_option linter.unusedSimpArgs false

def f97 (l : List (Int × Int)) : Int := (f33 l).2
def f97_e : Entry := { doms := [(false, (.sl (.pair (.int .i64) (.int .i64))))], cods := [(false, (.int .i64))], pre := fun _ => True, fn := f97, uq := false, total := true }
def f97_E : Env := [(33, f33_e)]
def f97_A : Anns := { loops := [], own := [] }
theorem f97_run (a0 : List (Int × Int)) (K : Int → Prop) : runF Try.prog f97_E f97_A 6 Try.f97 f97_e.doms f97_e.cods a0 K =
    (K ((f33 a0).2)) := by kernel_rfl
theorem f97_t (a0 : List (Int × Int)) (K : Int → Prop) (hK : ∀ y : Int, y = f97 a0 → K y) : RunF Try.prog f97_E f97_A 6 Try.f97 f97_e.doms f97_e.cods a0 K := by
  refine ⟨?_⟩
  rw [f97_run a0 K]
  exact hK _ (by rw [f97])
theorem f97_fn : f97_e.fn = f97 := rfl
theorem f97_ok : EntryOK Try.prog 97 f97_e := by
  refine entryF progOK (EnvOK.cons f33_ok (EnvOK.nil)) (A := f97_A) (d := 6) Try.func97 rfl rfl (fun _ _ => trivial) fun x hpre => ?_
  exact f97_t x _ fun _ h => h.trans (congrFun f97_fn.symm _)
end Go.Proofs.Ytdhekhichomoiaa
end

section
namespace Go.Proofs.Ytdhekhichomoiaa
open Go Go.Pi Go.RowKit
set_option maxRecDepth 100000
set_option linter.unusedVariables false
set_option linter.unusedSimpArgs false

def f98 (x : (Int × Int) × Int) : Int × Int := match (x.2.tmod 4).toNat with
  | 0 => x.1
  | 1 => (x.1.2, IntKind.i64.wrap (0 - x.1.1))
  | 2 => (IntKind.i64.wrap (0 - x.1.1), IntKind.i64.wrap (0 - x.1.2))
  | _ => (IntKind.i64.wrap (0 - x.1.2), x.1.1)
def f98_pre (x : (Int × Int) × Int) : Prop := 0 ≤ x.2
def f98_e : Entry := { doms := [(true, (.pair (.int .i64) (.int .i64))), (false, (.int .i64))], cods := [(true, (.pair (.int .i64) (.int .i64)))], pre := f98_pre, fn := f98, uq := false, total := false }
def f98_E : Env := []
def f98_A : Anns := { loops := [], own := [] }
theorem f98_run (a0 : Int × Int) (a1 : Int) (K : (Int × Int) → Prop) : runF Try.prog f98_E f98_A 6 Try.f98 f98_e.doms f98_e.cods (a0, a1) K =
    (br (decide (0 ≤ (a1.tmod 4)) && decide ((a1.tmod 4) < 4))
    (K (([a0, (a0.2, (IntKind.i64.wrap (0 - a0.1))), ((IntKind.i64.wrap (0 - a0.1)), (IntKind.i64.wrap (0 - a0.2))), ((IntKind.i64.wrap (0 - a0.2)), a0.1)] : List (Int × Int)).getD ((a1.tmod 4).toNat) (0, 0)))
    False) := by kernel_rfl
theorem f98_t (a0 : Int × Int) (a1 : Int) (hpre : f98_pre (a0, a1)) (K : (Int × Int) → Prop) (hK : ∀ y : Int × Int, y = f98 (a0, a1) → K y) : RunF Try.prog f98_E f98_A 6 Try.f98 f98_e.doms f98_e.cods (a0, a1) K := by
  refine ⟨?_⟩
  rw [f98_run a0 a1 K]
  have h0 : 0 ≤ a1 := hpre
  have h1 : 0 ≤ a1.tmod 4 := Int.tmod_nonneg 4 h0
  have h2 : a1.tmod 4 < 4 := Int.tmod_lt_of_pos a1 (by omega)
  simp only [br_false_, Bool.and_eq_true, decide_eq_true_eq]
  refine ⟨⟨h1, h2⟩, ?_⟩
  refine hK _ ?_
  unfold f98
  simp only
  generalize h : (a1.tmod 4).toNat = n
  have : n < 4 := by omega
  match n, this with
  | 0, _ => rfl
  | 1, _ => rfl
  | 2, _ => rfl
  | 3, _ => rfl
theorem f98_fn : f98_e.fn = f98 := rfl
theorem f98_ok : EntryOK Try.prog 98 f98_e := by
  refine entryF progOK (EnvOK.nil) (A := f98_A) (d := 6) Try.func98 rfl rfl (fun h => by cases h) fun x hpre => ?_
  obtain ⟨a0, a1⟩ := x
  exact f98_t a0 a1 hpre _ fun _ h => h.trans (congrFun f98_fn.symm _)
end Go.Proofs.Ytdhekhichomoiaa
end

section
namespace Go.Proofs.Ytdhekhichomoiaa
open Go Go.Pi Go.RowKit
set_option maxRecDepth 100000
set_option linter.unusedVariables false
set_option linter.unusedSimpArgs false

def f105 (n : Int) : Bool := decide (0 ≤ n) && decide (n ≤ 100)
def f105_e : Entry := { doms := [(false, (.int .i64))], cods := [(false, .bool)], pre := fun _ => True, fn := f105, uq := false, total := true }
def f105_E : Env := [(95, f95_e)]
def f105_A : Anns := { loops := [], own := [] }
theorem f105_run (a0 : Int) (K : Bool → Prop) : runF Try.prog f105_E f105_A 6 Try.f105 f105_e.doms f105_e.cods a0 K =
    (K (f95 (a0, (0, 100)))) := by kernel_rfl
theorem f105_t (a0 : Int) (K : Bool → Prop) (hK : ∀ y : Bool, y = f105 a0 → K y) : RunF Try.prog f105_E f105_A 6 Try.f105 f105_e.doms f105_e.cods a0 K := by
  refine ⟨?_⟩
  rw [f105_run a0 K]
  exact hK _ (by simp [f105, f95])
theorem f105_fn : f105_e.fn = f105 := rfl
theorem f105_ok : EntryOK Try.prog 105 f105_e := by
  refine entryF progOK (EnvOK.cons f95_ok (EnvOK.nil)) (A := f105_A) (d := 6) Try.func105 rfl rfl (fun _ _ => trivial) fun x hpre => ?_
  exact f105_t x _ fun _ h => h.trans (congrFun f105_fn.symm _)
end Go.Proofs.Ytdhekhichomoiaa
end

section
namespace Go.Proofs.Ytdhekhichomoiaa
open Go Go.Pi Go.RowKit
set_option maxRecDepth 100000
set_option linter.unusedVariables false
set_option linter.unusedSimpArgs false

def f34 (g : Int × Int × Int × List Int) : Int × Int :=
  if ¬ ((0 ≤ g.1 ∧ g.1 ≤ 48) ∧ (1 ≤ g.2.1 ∧ g.2.1 ≤ 48) ∧ (1 ≤ g.2.2.1 ∧ g.2.2.1 ≤ 20)) then (0, 2)
  else if g.2.2.2.length = 0 then (0, 10) else if 16 < g.2.2.2.length then (0, 8) else match g.2.2.2.findIdx? (fun n => !f105 n) with
  | some i => ((i : Int), 2)
  | none => (0, 0)
def f34_e : Entry := { doms := [(true, (.pair (.int .i64) (.pair (.int .i64) (.pair (.int .i64) (.sl (.int .i64))))))], cods := [(false, (.int .i64)), (false, (.int .i64))], pre := fun _ => True, fn := f34, uq := false, total := true }
def f34_E : Env := [(93, f93_e), (94, f94_e), (95, f95_e), (105, f105_e)]
def f34_A : Anns := { loops := [(1157427304333312000, { tms := [(0, .keep), (1, .keep), (7, .keep), (8, .data false (.int .i64))], obs := [(1048576, .keep), (1103808692224, .keep)], fz := [] })], own := [] }
theorem f34_run (a0 : Int × Int × Int × List Int) (K : (Int × Int) → Prop) : runF Try.prog f34_E f34_A 6 Try.f34 f34_e.doms f34_e.cods a0 K =
    (br (f95 (a0.1, (0, 48)))
    (br (f95 (a0.2.1, (1, 48)))
    (br (lenOk (a0.2.2.2.length))
    (br (lenOk (a0.2.2.2.length))
    (br ((f93 ([(f94 ((f95 (a0.2.2.1, (1, 20))), 2)), (f94 ((decide (((a0.2.2.2.length) : Int) > 0)), 10)), (f94 ((decide (((a0.2.2.2.length) : Int) ≤ 16)), 8))] : List Int)) != 0)
    (K (0, (f93 ([(f94 ((f95 (a0.2.2.1, (1, 20))), 2)), (f94 ((decide (((a0.2.2.2.length) : Int) > 0)), 10)), (f94 ((decide (((a0.2.2.2.length) : Int) ≤ 16)), 8))] : List Int))))
    (br (lenOk (a0.2.2.2.length))
    (LoopP (V := Int × Unit) (fun again v => (fun (again1 : Int → Prop) (v1_0 : Int) =>
    br (decide (v1_0 < ((a0.2.2.2.length) : Int)))
    (br (decide (0 ≤ v1_0) && decide (v1_0 < ((a0.2.2.2.length) : Int)))
    (br (!(f105 (a0.2.2.2.getD v1_0.toNat 0)))
    (br (decide (v1_0 ≥ 0))
    (K (v1_0, 2))
    (K (0, 0)))
    (again1 (IntKind.i64.wrap (v1_0 + 1))))
    False)
    (K (0, 0)))
    (fun v1_0 => again (v1_0, ())) v.1) (0, ()))
    True))
    True)
    True)
    (br (lenOk (a0.2.2.2.length))
    (br (lenOk (a0.2.2.2.length))
    (br ((f93 ([(f94 (false, 2)), (f94 ((decide (((a0.2.2.2.length) : Int) > 0)), 10)), (f94 ((decide (((a0.2.2.2.length) : Int) ≤ 16)), 8))] : List Int)) != 0)
    (K (0, (f93 ([(f94 (false, 2)), (f94 ((decide (((a0.2.2.2.length) : Int) > 0)), 10)), (f94 ((decide (((a0.2.2.2.length) : Int) ≤ 16)), 8))] : List Int))))
    (br (lenOk (a0.2.2.2.length))
    (LoopP (V := Int × Unit) (fun again v => (fun (again2 : Int → Prop) (v2_0 : Int) =>
    br (decide (v2_0 < ((a0.2.2.2.length) : Int)))
    (br (decide (0 ≤ v2_0) && decide (v2_0 < ((a0.2.2.2.length) : Int)))
    (br (!(f105 (a0.2.2.2.getD v2_0.toNat 0)))
    (br (decide (v2_0 ≥ 0))
    (K (v2_0, 2))
    (K (0, 0)))
    (again2 (IntKind.i64.wrap (v2_0 + 1))))
    False)
    (K (0, 0)))
    (fun v2_0 => again (v2_0, ())) v.1) (0, ()))
    True))
    True)
    True))
    (br (lenOk (a0.2.2.2.length))
    (br (lenOk (a0.2.2.2.length))
    (br ((f93 ([(f94 (false, 2)), (f94 ((decide (((a0.2.2.2.length) : Int) > 0)), 10)), (f94 ((decide (((a0.2.2.2.length) : Int) ≤ 16)), 8))] : List Int)) != 0)
    (K (0, (f93 ([(f94 (false, 2)), (f94 ((decide (((a0.2.2.2.length) : Int) > 0)), 10)), (f94 ((decide (((a0.2.2.2.length) : Int) ≤ 16)), 8))] : List Int))))
    (br (lenOk (a0.2.2.2.length))
    (LoopP (V := Int × Unit) (fun again v => (fun (again3 : Int → Prop) (v3_0 : Int) =>
    br (decide (v3_0 < ((a0.2.2.2.length) : Int)))
    (br (decide (0 ≤ v3_0) && decide (v3_0 < ((a0.2.2.2.length) : Int)))
    (br (!(f105 (a0.2.2.2.getD v3_0.toNat 0)))
    (br (decide (v3_0 ≥ 0))
    (K (v3_0, 2))
    (K (0, 0)))
    (again3 (IntKind.i64.wrap (v3_0 + 1))))
    False)
    (K (0, 0)))
    (fun v3_0 => again (v3_0, ())) v.1) (0, ()))
    True))
    True)
    True)) := by kernel_rfl
theorem f34_t (a0 : Int × Int × Int × List Int) (K : (Int × Int) → Prop) (hK : ∀ y : Int × Int, y = f34 a0 → K y) : RunF Try.prog f34_E f34_A 6 Try.f34 f34_e.doms f34_e.cods a0 K := by
  refine ⟨?_⟩
  rw [f34_run a0 K]
  simp only [br_true_, lenOk_iff]
  simp only [br_both]
  have bad : ∀ a b, f93 [f94 (false, 2), a, b] = 2 := fun a b => by simp [f94, f93_cons]
  simp only [bad]
  refine ⟨fun h1 => ⟨fun h2 => fun hl _ => ?_, fun h2 => fun hl _ => ⟨fun _ => ?_, fun h => by simp at h⟩⟩, fun h1 => fun hl _ => ⟨fun _ => ?_, fun h => by simp at h⟩⟩
  · simp only [f95, Bool.and_eq_true, decide_eq_true_eq] at h1 h2
    by_cases h3 : 1 ≤ a0.2.2.1 ∧ a0.2.2.1 ≤ 20
    · by_cases h4 : a0.2.2.2.length = 0
      · have e : f93 [f94 (f95 (a0.2.2.1, 1, 20), 2), f94 (decide ((a0.2.2.2.length : Int) > 0), 10), f94 (decide ((a0.2.2.2.length : Int) ≤ 16), 8)] = 10 := by simp [h3, h4, f95, f94, f93_cons]
        rw [e]
        exact ⟨fun _ => hK _ (by simp [f34, h1, h2, h3, h4]), fun h => by simp at h⟩
      by_cases h5 : 16 < a0.2.2.2.length
      · have e : f93 [f94 (f95 (a0.2.2.1, 1, 20), 2), f94 (decide ((a0.2.2.2.length : Int) > 0), 10), f94 (decide ((a0.2.2.2.length : Int) ≤ 16), 8)] = 8 := by
          have : ¬ (a0.2.2.2.length : Int) ≤ 16 := by omega
          have h6 : 0 < a0.2.2.2.length := by omega
          simp [h3, this, h6, f95, f94, f93_cons]
        rw [e]
        exact ⟨fun _ => hK _ (by simp [f34, h1, h2, h3, h4, h5]), fun h => by simp at h⟩
      have e : f93 [f94 (f95 (a0.2.2.1, 1, 20), 2), f94 (decide ((a0.2.2.2.length : Int) > 0), 10), f94 (decide ((a0.2.2.2.length : Int) ≤ 16), 8)] = 0 := by
        have : (a0.2.2.2.length : Int) ≤ 16 := by omega
        have h6 : 0 < a0.2.2.2.length := by omega
        simp [h3, this, h6, f95, f94, f93_cons, f93_nil]
      rw [e]
      refine ⟨fun h => by simp at h, fun _ _ => ?_⟩
      have hc : ¬ ¬ ((0 ≤ a0.1 ∧ a0.1 ≤ 48) ∧ (1 ≤ a0.2.1 ∧ a0.2.1 ≤ 48) ∧ (1 ≤ a0.2.2.1 ∧ a0.2.2.1 ≤ 20)) := not_not_intro ⟨h1, h2, h3⟩
      refine LoopP.up a0.2.2.2.length (fun i _ => ∀ x ∈ a0.2.2.2.take i.toNat, (!f105 x) = false) (fun again i v hi0 hn hI hag => ?_) (by omega) all_zero
      simp only [br_both, decide_eq_true_eq, decide_eq_false_iff_not, Bool.and_eq_true]
      refine ⟨fun hi => ⟨fun _ => ⟨fun hne => ⟨fun _ => ?_, fun hf => ?_⟩, fun he => ?_⟩, fun hf => ?_⟩, fun hi => ?_⟩
      · refine hK _ ?_
        rw [f34, if_neg hc, if_neg h4, if_neg h5, findIdx_at hi0 hi hI hne]
        simp only
        rw [Int.toNat_of_nonneg hi0]
      · omega
      · rw [wr (by omega) (by omega)]
        exact hag () hi (all_step hi0 hi hI he)
      · simp at hf; omega
      · refine hK _ ?_
        rw [f34, if_neg hc, if_neg h4, if_neg h5, findIdx_none (all_done hi hI)]
    · have e : ∀ a b, f93 [f94 (f95 (a0.2.2.1, 1, 20), 2), a, b] = 2 := fun a b => by
        have : f95 (a0.2.2.1, 1, 20) = false := by simp [f95]; omega
        rw [this, bad]
      rw [e]
      exact ⟨fun _ => hK _ (by rw [f34, if_pos fun h => h3 h.2.2]), fun h => by simp at h⟩
  · exact hK _ (by rw [f34, if_pos fun h => by simp [f95, h.2.1] at h2])
  · exact hK _ (by rw [f34, if_pos fun h => by simp [f95, h.1] at h1])
theorem f34_fn : f34_e.fn = f34 := rfl
theorem f34_ok : EntryOK Try.prog 34 f34_e := by
  refine entryF progOK (EnvOK.cons f93_ok (EnvOK.cons f94_ok (EnvOK.cons f95_ok (EnvOK.cons f105_ok (EnvOK.nil))))) (A := f34_A) (d := 6) Try.func34 rfl rfl (fun _ _ => trivial) fun x hpre => ?_
  exact f34_t x _ fun _ h => h.trans (congrFun f34_fn.symm _)
/-- Valid gates. -/
structure GatesOK (g : Int × Int × Int × List Int) : Prop where
  first : 0 ≤ g.1 ∧ g.1 ≤ 48
  hop : 1 ≤ g.2.1 ∧ g.2.1 ≤ 48
  count : 1 ≤ g.2.2.1 ∧ g.2.2.1 ≤ 20
  len : 0 < g.2.2.2.length ∧ g.2.2.2.length ≤ 16
  weights : ∀ n ∈ g.2.2.2, 0 ≤ n ∧ n ≤ 100
theorem gates_ok {g : Int × Int × Int × List Int} (h : (f34 g).2 = 0) : GatesOK g := by
  unfold f34 at h
  split at h
  · simp at h
  · rename_i hc
    have hc := Classical.not_not.1 hc
    split at h
    · simp at h
    · split at h
      · simp at h
      · split at h
        · simp at h
        · rename_i h0 h1 hf
          rw [List.findIdx?_eq_none_iff] at hf
          refine ⟨hc.1, hc.2.1, hc.2.2, ⟨by omega, by omega⟩, fun n hn => ?_⟩
          have := hf n hn
          simpa [f105] using this
end Go.Proofs.Ytdhekhichomoiaa
end

section
namespace Go.Proofs.Ytdhekhichomoiaa
open Go Go.Pi Go.RowKit
set_option maxRecDepth 100000
set_option linter.unusedVariables false
set_option linter.unusedSimpArgs false

def f106 (g : Int × Int × Int × List Int) : Int := (f34 g).2
def f106_e : Entry := { doms := [(true, (.pair (.int .i64) (.pair (.int .i64) (.pair (.int .i64) (.sl (.int .i64))))))], cods := [(false, (.int .i64))], pre := fun _ => True, fn := f106, uq := false, total := true }
def f106_E : Env := [(34, f34_e)]
def f106_A : Anns := { loops := [], own := [] }
theorem f106_run (a0 : Int × Int × Int × List Int) (K : Int → Prop) : runF Try.prog f106_E f106_A 6 Try.f106 f106_e.doms f106_e.cods a0 K =
    (K ((f34 a0).2)) := by kernel_rfl
theorem f106_t (a0 : Int × Int × Int × List Int) (K : Int → Prop) (hK : ∀ y : Int, y = f106 a0 → K y) : RunF Try.prog f106_E f106_A 6 Try.f106 f106_e.doms f106_e.cods a0 K := by
  refine ⟨?_⟩
  rw [f106_run a0 K]
  exact hK _ (by rw [f106])
theorem f106_fn : f106_e.fn = f106 := rfl
theorem f106_ok : EntryOK Try.prog 106 f106_e := by
  refine entryF progOK (EnvOK.cons f34_ok (EnvOK.nil)) (A := f106_A) (d := 6) Try.func106 rfl rfl (fun _ _ => trivial) fun x hpre => ?_
  exact f106_t x _ fun _ h => h.trans (congrFun f106_fn.symm _)
end Go.Proofs.Ytdhekhichomoiaa
end

section
namespace Go.Proofs.Ytdhekhichomoiaa
open Go Go.Pi Go.RowKit
set_option maxRecDepth 100000
set_option linter.unusedVariables false
set_option linter.unusedSimpArgs false

def f107 (x : (Int × Int × Int × List Int) × Int) : Int := f94 (f95 (x.2, 0, IntKind.i64.wrap (x.1.2.2.1 - 1)), 6)
def f107_e : Entry := { doms := [(true, (.pair (.int .i64) (.pair (.int .i64) (.pair (.int .i64) (.sl (.int .i64)))))), (false, (.int .i64))], cods := [(false, (.int .i64))], pre := fun _ => True, fn := f107, uq := false, total := true }
def f107_E : Env := [(94, f94_e), (95, f95_e)]
def f107_A : Anns := { loops := [], own := [] }
theorem f107_run (a0 : Int × Int × Int × List Int) (a1 : Int) (K : Int → Prop) : runF Try.prog f107_E f107_A 6 Try.f107 f107_e.doms f107_e.cods (a0, a1) K =
    (K (f94 ((f95 (a1, (0, (IntKind.i64.wrap (a0.2.2.1 - 1))))), 6))) := by kernel_rfl
theorem f107_t (a0 : Int × Int × Int × List Int) (a1 : Int) (K : Int → Prop) (hK : ∀ y : Int, y = f107 (a0, a1) → K y) : RunF Try.prog f107_E f107_A 6 Try.f107 f107_e.doms f107_e.cods (a0, a1) K := by
  refine ⟨?_⟩
  rw [f107_run a0 a1 K]
  exact hK _ (by simp only [f107])
theorem f107_fn : f107_e.fn = f107 := rfl
theorem f107_ok : EntryOK Try.prog 107 f107_e := by
  refine entryF progOK (EnvOK.cons f94_ok (EnvOK.cons f95_ok (EnvOK.nil))) (A := f107_A) (d := 6) Try.func107 rfl rfl (fun _ _ => trivial) fun x hpre => ?_
  obtain ⟨a0, a1⟩ := x
  exact f107_t a0 a1 _ fun _ h => h.trans (congrFun f107_fn.symm _)
end Go.Proofs.Ytdhekhichomoiaa
end

section
namespace Go.Proofs.Ytdhekhichomoiaa
open Go Go.Pi Go.RowKit
set_option maxRecDepth 100000
set_option linter.unusedVariables false
set_option linter.unusedSimpArgs false

def f110 (x : (Int × Int × Int × List Int) × Int) : Int := IntKind.i64.wrap (x.1.1 + IntKind.i64.wrap (x.2 * x.1.2.1))
def f110_e : Entry := { doms := [(true, (.pair (.int .i64) (.pair (.int .i64) (.pair (.int .i64) (.sl (.int .i64)))))), (false, (.int .i64))], cods := [(false, (.int .i64))], pre := fun _ => True, fn := f110, uq := false, total := true }
def f110_E : Env := []
def f110_A : Anns := { loops := [], own := [] }
theorem f110_run (a0 : Int × Int × Int × List Int) (a1 : Int) (K : Int → Prop) : runF Try.prog f110_E f110_A 6 Try.f110 f110_e.doms f110_e.cods (a0, a1) K =
    (K (IntKind.i64.wrap (a0.1 + (IntKind.i64.wrap (a1 * a0.2.1))))) := by kernel_rfl
theorem f110_t (a0 : Int × Int × Int × List Int) (a1 : Int) (K : Int → Prop) (hK : ∀ y : Int, y = f110 (a0, a1) → K y) : RunF Try.prog f110_E f110_A 6 Try.f110 f110_e.doms f110_e.cods (a0, a1) K := by
  refine ⟨?_⟩
  rw [f110_run a0 a1 K]
  exact hK _ (by simp only [f110])
theorem f110_fn : f110_e.fn = f110 := rfl
theorem f110_ok : EntryOK Try.prog 110 f110_e := by
  refine entryF progOK (EnvOK.nil) (A := f110_A) (d := 6) Try.func110 rfl rfl (fun _ _ => trivial) fun x hpre => ?_
  obtain ⟨a0, a1⟩ := x
  exact f110_t a0 a1 _ fun _ h => h.trans (congrFun f110_fn.symm _)
end Go.Proofs.Ytdhekhichomoiaa
end

section
namespace Go.Proofs.Ytdhekhichomoiaa
open Go Go.Pi Go.RowKit
set_option maxRecDepth 100000
set_option linter.unusedVariables false
set_option linter.unusedSimpArgs false

def f108 (x : (Int × Int × Int × List Int) × List (Int × Int) × Int) : Bool := decide (IntKind.i64.wrap (f110 (x.1, x.2.2) + (x.1.2.2.2.length : Int)) ≤ (x.2.1.length : Int))
def f108_e : Entry := { doms := [(true, (.pair (.int .i64) (.pair (.int .i64) (.pair (.int .i64) (.sl (.int .i64)))))), (false, (.sl (.pair (.int .i64) (.int .i64)))), (false, (.int .i64))], cods := [(false, .bool)], pre := fun _ => True, fn := f108, uq := false, total := true }
def f108_E : Env := [(110, f110_e)]
def f108_A : Anns := { loops := [], own := [] }
theorem f108_run (a0 : Int × Int × Int × List Int) (a1 : List (Int × Int)) (a2 : Int) (K : Bool → Prop) : runF Try.prog f108_E f108_A 6 Try.f108 f108_e.doms f108_e.cods (a0, a1, a2) K =
    (br (lenOk (a0.2.2.2.length))
    (br (lenOk (a1.length))
    (K (decide ((IntKind.i64.wrap ((f110 (a0, a2)) + ((a0.2.2.2.length) : Int))) ≤ ((a1.length) : Int))))
    True)
    True) := by kernel_rfl
theorem f108_t (a0 : Int × Int × Int × List Int) (a1 : List (Int × Int)) (a2 : Int) (K : Bool → Prop) (hK : ∀ y : Bool, y = f108 (a0, a1, a2) → K y) : RunF Try.prog f108_E f108_A 6 Try.f108 f108_e.doms f108_e.cods (a0, a1, a2) K := by
  refine ⟨?_⟩
  rw [f108_run a0 a1 a2 K]
  rw [br_true_]
  intro _
  rw [br_true_]
  intro _
  exact hK _ (by simp only [f108])
theorem f108_fn : f108_e.fn = f108 := rfl
theorem f108_ok : EntryOK Try.prog 108 f108_e := by
  refine entryF progOK (EnvOK.cons f110_ok (EnvOK.nil)) (A := f108_A) (d := 6) Try.func108 rfl rfl (fun _ _ => trivial) fun x hpre => ?_
  obtain ⟨a0, a1, a2⟩ := x
  exact f108_t a0 a1 a2 _ fun _ h => h.trans (congrFun f108_fn.symm _)
end Go.Proofs.Ytdhekhichomoiaa
end

section
namespace Go.Proofs.Ytdhekhichomoiaa
open Go Go.Pi Go.RowKit
set_option maxRecDepth 100000
set_option linter.unusedVariables false
set_option linter.unusedSimpArgs false

def f126 (x : (Int × Int) × (Int × Int)) : Int × Int := (IntKind.i64.wrap (x.1.1 + x.2.1), IntKind.i64.wrap (x.1.2 + x.2.2))
def f126_e : Entry := { doms := [(true, (.pair (.int .i64) (.int .i64))), (true, (.pair (.int .i64) (.int .i64)))], cods := [(true, (.pair (.int .i64) (.int .i64)))], pre := fun _ => True, fn := f126, uq := false, total := true }
def f126_E : Env := []
def f126_A : Anns := { loops := [], own := [] }
theorem f126_run (a0 : Int × Int) (a1 : Int × Int) (K : (Int × Int) → Prop) : runF Try.prog f126_E f126_A 6 Try.f126 f126_e.doms f126_e.cods (a0, a1) K =
    (K ((IntKind.i64.wrap (a0.1 + a1.1)), (IntKind.i64.wrap (a0.2 + a1.2)))) := by kernel_rfl
theorem f126_t (a0 : Int × Int) (a1 : Int × Int) (K : (Int × Int) → Prop) (hK : ∀ y : Int × Int, y = f126 (a0, a1) → K y) : RunF Try.prog f126_E f126_A 6 Try.f126 f126_e.doms f126_e.cods (a0, a1) K := by
  refine ⟨?_⟩
  rw [f126_run a0 a1 K]
  exact hK _ (by simp only [f126])
theorem f126_fn : f126_e.fn = f126 := rfl
theorem f126_ok : EntryOK Try.prog 126 f126_e := by
  refine entryF progOK (EnvOK.nil) (A := f126_A) (d := 6) Try.func126 rfl rfl (fun _ _ => trivial) fun x hpre => ?_
  obtain ⟨a0, a1⟩ := x
  exact f126_t a0 a1 _ fun _ h => h.trans (congrFun f126_fn.symm _)
end Go.Proofs.Ytdhekhichomoiaa
end

section
namespace Go.Proofs.Ytdhekhichomoiaa
open Go Go.Pi Go.RowKit
set_option maxRecDepth 100000
set_option linter.unusedVariables false
set_option linter.unusedSimpArgs false

def f127 (x : (Int × Int) × (Int × Int)) : Int × Int := (IntKind.i64.wrap (IntKind.i64.wrap (x.1.1 * x.2.1) + IntKind.i64.wrap (x.1.2 * x.2.2)), IntKind.i64.wrap (IntKind.i64.wrap (x.1.1 * x.2.2) - IntKind.i64.wrap (x.1.2 * x.2.1)))
def f127_e : Entry := { doms := [(true, (.pair (.int .i64) (.int .i64))), (true, (.pair (.int .i64) (.int .i64)))], cods := [(true, (.pair (.int .i64) (.int .i64)))], pre := fun _ => True, fn := f127, uq := false, total := true }
def f127_E : Env := []
def f127_A : Anns := { loops := [], own := [] }
theorem f127_run (a0 : Int × Int) (a1 : Int × Int) (K : (Int × Int) → Prop) : runF Try.prog f127_E f127_A 6 Try.f127 f127_e.doms f127_e.cods (a0, a1) K =
    (K ((IntKind.i64.wrap ((IntKind.i64.wrap (a0.1 * a1.1)) + (IntKind.i64.wrap (a0.2 * a1.2)))), (IntKind.i64.wrap ((IntKind.i64.wrap (a0.1 * a1.2)) - (IntKind.i64.wrap (a0.2 * a1.1)))))) := by kernel_rfl
theorem f127_t (a0 : Int × Int) (a1 : Int × Int) (K : (Int × Int) → Prop) (hK : ∀ y : Int × Int, y = f127 (a0, a1) → K y) : RunF Try.prog f127_E f127_A 6 Try.f127 f127_e.doms f127_e.cods (a0, a1) K := by
  refine ⟨?_⟩
  rw [f127_run a0 a1 K]
  exact hK _ (by simp only [f127])
theorem f127_fn : f127_e.fn = f127 := rfl
theorem f127_ok : EntryOK Try.prog 127 f127_e := by
  refine entryF progOK (EnvOK.nil) (A := f127_A) (d := 6) Try.func127 rfl rfl (fun _ _ => trivial) fun x hpre => ?_
  obtain ⟨a0, a1⟩ := x
  exact f127_t a0 a1 _ fun _ h => h.trans (congrFun f127_fn.symm _)
end Go.Proofs.Ytdhekhichomoiaa
end

section
namespace Go.Proofs.Ytdhekhichomoiaa
open Go Go.Pi Go.RowKit
set_option maxRecDepth 100000
set_option linter.unusedVariables false
set_option linter.unusedSimpArgs false

def f118 (x : Int × Int) : Int := IntKind.i64.wrap (IntKind.i64.wrap (x.1 * x.1) + IntKind.i64.wrap (x.2 * x.2))
def f118_e : Entry := { doms := [(true, (.pair (.int .i64) (.int .i64)))], cods := [(false, (.int .i64))], pre := fun _ => True, fn := f118, uq := false, total := true }
def f118_E : Env := []
def f118_A : Anns := { loops := [], own := [] }
theorem f118_run (a0 : Int × Int) (K : Int → Prop) : runF Try.prog f118_E f118_A 6 Try.f118 f118_e.doms f118_e.cods a0 K =
    (K (IntKind.i64.wrap ((IntKind.i64.wrap (a0.1 * a0.1)) + (IntKind.i64.wrap (a0.2 * a0.2))))) := by kernel_rfl
theorem f118_t (a0 : Int × Int) (K : Int → Prop) (hK : ∀ y : Int, y = f118 a0 → K y) : RunF Try.prog f118_E f118_A 6 Try.f118 f118_e.doms f118_e.cods a0 K := by
  refine ⟨?_⟩
  rw [f118_run a0 K]
  exact hK _ (by simp only [f118])
theorem f118_fn : f118_e.fn = f118 := rfl
theorem f118_ok : EntryOK Try.prog 118 f118_e := by
  refine entryF progOK (EnvOK.nil) (A := f118_A) (d := 6) Try.func118 rfl rfl (fun _ _ => trivial) fun x hpre => ?_
  exact f118_t x _ fun _ h => h.trans (congrFun f118_fn.symm _)
end Go.Proofs.Ytdhekhichomoiaa
end
