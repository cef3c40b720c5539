/- What functions of the program compute, each proved once, part 2. -/
import Derived.Test.YtdhekhichomoiaaPiC
import Derived.Test.YtdhekhichomoiaaFnA

section
namespace Go.Proofs.Ytdhekhichomoiaa
open Go Go.Pi Go.RowKit
set_option maxRecDepth 100000
set_option linter.unusedVariables false
set_option linter.unusedSimpArgs false

def f33 (l : List (Int × Int)) : Int × Int := if l.length = 0 then (0, 10) else if 48 < l.length then (0, 8) else match l.findIdx? (fun g => !f103 g) with
  | some i => ((i : Int), 2)
  | none => (0, 0)
def f33_e : Entry := { doms := [(false, (.sl (.pair (.int .i64) (.int .i64))))], cods := [(false, (.int .i64)), (false, (.int .i64))], pre := fun _ => True, fn := f33, uq := false, total := true }
def f33_E : Env := [(93, f93_e), (94, f94_e), (103, f103_e)]
def f33_A : Anns := { loops := [(1157426204821684224, { tms := [(0, .keep), (1, .keep), (7, .keep), (8, .data false (.int .i64))], obs := [(1103807643648, .keep)], fz := [] })], own := [] }
theorem f33_run (a0 : List (Int × Int)) (K : (Int × Int) → Prop) : runF Try.prog f33_E f33_A 6 Try.f33 f33_e.doms f33_e.cods a0 K =
    (br (lenOk (a0.length))
    (br (lenOk (a0.length))
    (br ((f93 ([(f94 ((decide (((a0.length) : Int) > 0)), 10)), (f94 ((decide (((a0.length) : Int) ≤ 48)), 8))] : List Int)) != 0)
    (K (0, (f93 ([(f94 ((decide (((a0.length) : Int) > 0)), 10)), (f94 ((decide (((a0.length) : Int) ≤ 48)), 8))] : List Int))))
    (br (lenOk (a0.length))
    (LoopP (V := Int × Unit) (fun again v => (fun (again1 : Int → Prop) (v1_0 : Int) =>
    br (decide (v1_0 < ((a0.length) : Int)))
    (br (decide (0 ≤ v1_0) && decide (v1_0 < ((a0.length) : Int)))
    (br (!(f103 (a0.getD v1_0.toNat (0, 0))))
    (br (decide (v1_0 ≥ 0))
    (K (v1_0, 2))
    (K (0, 0)))
    (again1 (IntKind.i64.wrap (v1_0 + 1))))
    False)
    (K (0, 0)))
    (fun v1_0 => again (v1_0, ())) v.1) (0, ()))
    True))
    True)
    True) := by kernel_rfl
theorem f33_t (a0 : List (Int × Int)) (K : (Int × Int) → Prop) (hK : ∀ y : Int × Int, y = f33 a0 → K y) : RunF Try.prog f33_E f33_A 6 Try.f33 f33_e.doms f33_e.cods a0 K := by
  refine ⟨?_⟩
  rw [f33_run a0 K]
  simp only [br_true_, lenOk_iff]
  simp only [br_both]
  intro hl _
  by_cases h0 : a0.length = 0
  · have e : f93 [f94 (decide ((a0.length : Int) > 0), 10), f94 (decide ((a0.length : Int) ≤ 48), 8)] = 10 := by simp [h0, f94, f93_cons]
    rw [e]
    exact ⟨fun _ => hK _ (by simp [f33, h0]), fun h => by simp at h⟩
  by_cases h1 : 48 < a0.length
  · have e : f93 [f94 (decide ((a0.length : Int) > 0), 10), f94 (decide ((a0.length : Int) ≤ 48), 8)] = 8 := by
      have : ¬ (a0.length : Int) ≤ 48 := by omega
      have h2 : 0 < a0.length := by omega
      simp [this, h2, f94, f93_cons, f93_nil]
    rw [e]
    exact ⟨fun _ => hK _ (by simp [f33, h0, h1]), fun h => by simp at h⟩
  have e : f93 [f94 (decide ((a0.length : Int) > 0), 10), f94 (decide ((a0.length : Int) ≤ 48), 8)] = 0 := by
    have : (a0.length : Int) ≤ 48 := by omega
    have h2 : 0 < a0.length := by omega
    simp [this, h2, f94, f93_cons, f93_nil]
  rw [e]
  refine ⟨fun h => by simp at h, fun _ _ => ?_⟩
  refine LoopP.up a0.length (fun i _ => ∀ x ∈ a0.take i.toNat, (!f103 x) = false) (fun again i v hi0 hn hI hag => ?_) (by omega) all_zero
  simp only [br_both, decide_eq_true_eq, decide_eq_false_iff_not, Bool.and_eq_true]
  refine ⟨fun hi => ⟨fun _ => ⟨fun hne => ⟨fun _ => ?_, fun hf => ?_⟩, fun he => ?_⟩, fun hf => ?_⟩, fun hi => ?_⟩
  · refine hK _ ?_
    rw [f33, if_neg h0, if_neg h1, findIdx_at hi0 hi hI hne]
    simp only
    rw [Int.toNat_of_nonneg hi0]
  · omega
  · rw [wr (by omega) (by omega)]
    exact hag () hi (all_step hi0 hi hI he)
  · simp at hf; omega
  · refine hK _ ?_
    rw [f33, if_neg h0, if_neg h1, findIdx_none (all_done hi hI)]
theorem f33_fn : f33_e.fn = f33 := rfl
theorem f33_ok : EntryOK Try.prog 33 f33_e := by
  refine entryF progOK (EnvOK.cons f93_ok (EnvOK.cons f94_ok (EnvOK.cons f103_ok (EnvOK.nil)))) (A := f33_A) (d := 6) Try.func33 rfl rfl (fun _ _ => trivial) fun x hpre => ?_
  exact f33_t x _ fun _ h => h.trans (congrFun f33_fn.symm _)
end Go.Proofs.Ytdhekhichomoiaa
end

section
namespace Go.Proofs.Ytdhekhichomoiaa
open Go Go.Pi Go.RowKit
set_option maxRecDepth 100000
set_option linter.unusedVariables false
set_option linter.unusedSimpArgs false

def f97 (l : List (Int × Int)) : Int := (f33 l).2
def f97_e : Entry := { doms := [(false, (.sl (.pair (.int .i64) (.int .i64))))], cods := [(false, (.int .i64))], pre := fun _ => True, fn := f97, uq := false, total := true }
def f97_E : Env := [(33, f33_e)]
def f97_A : Anns := { loops := [], own := [] }
theorem f97_run (a0 : List (Int × Int)) (K : Int → Prop) : runF Try.prog f97_E f97_A 6 Try.f97 f97_e.doms f97_e.cods a0 K =
    (K ((f33 a0).2)) := by kernel_rfl
theorem f97_t (a0 : List (Int × Int)) (K : Int → Prop) (hK : ∀ y : Int, y = f97 a0 → K y) : RunF Try.prog f97_E f97_A 6 Try.f97 f97_e.doms f97_e.cods a0 K := by
  refine ⟨?_⟩
  rw [f97_run a0 K]
  exact hK _ (by rw [f97])
theorem f97_fn : f97_e.fn = f97 := rfl
theorem f97_ok : EntryOK Try.prog 97 f97_e := by
  refine entryF progOK (EnvOK.cons f33_ok (EnvOK.nil)) (A := f97_A) (d := 6) Try.func97 rfl rfl (fun _ _ => trivial) fun x hpre => ?_
  exact f97_t x _ fun _ h => h.trans (congrFun f97_fn.symm _)
end Go.Proofs.Ytdhekhichomoiaa
end

section
namespace Go.Proofs.Ytdhekhichomoiaa
open Go Go.Pi Go.RowKit
set_option maxRecDepth 100000
set_option linter.unusedVariables false
set_option linter.unusedSimpArgs false

def f98 (x : (Int × Int) × Int) : Int × Int := match (x.2.tmod 4).toNat with
  | 0 => x.1
  | 1 => (x.1.2, IntKind.i64.wrap (0 - x.1.1))
  | 2 => (IntKind.i64.wrap (0 - x.1.1), IntKind.i64.wrap (0 - x.1.2))
  | _ => (IntKind.i64.wrap (0 - x.1.2), x.1.1)
def f98_pre (x : (Int × Int) × Int) : Prop := 0 ≤ x.2
def f98_e : Entry := { doms := [(true, (.pair (.int .i64) (.int .i64))), (false, (.int .i64))], cods := [(true, (.pair (.int .i64) (.int .i64)))], pre := f98_pre, fn := f98, uq := false, total := false }
def f98_E : Env := []
def f98_A : Anns := { loops := [], own := [] }
theorem f98_run (a0 : Int × Int) (a1 : Int) (K : (Int × Int) → Prop) : runF Try.prog f98_E f98_A 6 Try.f98 f98_e.doms f98_e.cods (a0, a1) K =
    (br (decide (0 ≤ (a1.tmod 4)) && decide ((a1.tmod 4) < 4))
    (K (([a0, (a0.2, (IntKind.i64.wrap (0 - a0.1))), ((IntKind.i64.wrap (0 - a0.1)), (IntKind.i64.wrap (0 - a0.2))), ((IntKind.i64.wrap (0 - a0.2)), a0.1)] : List (Int × Int)).getD ((a1.tmod 4).toNat) (0, 0)))
    False) := by kernel_rfl
theorem f98_t (a0 : Int × Int) (a1 : Int) (hpre : f98_pre (a0, a1)) (K : (Int × Int) → Prop) (hK : ∀ y : Int × Int, y = f98 (a0, a1) → K y) : RunF Try.prog f98_E f98_A 6 Try.f98 f98_e.doms f98_e.cods (a0, a1) K := by
  refine ⟨?_⟩
  rw [f98_run a0 a1 K]
  have h0 : 0 ≤ a1 := hpre
  have h1 : 0 ≤ a1.tmod 4 := Int.tmod_nonneg 4 h0
  have h2 : a1.tmod 4 < 4 := Int.tmod_lt_of_pos a1 (by omega)
  simp only [br_false_, Bool.and_eq_true, decide_eq_true_eq]
  refine ⟨⟨h1, h2⟩, ?_⟩
  refine hK _ ?_
  unfold f98
  simp only
  generalize h : (a1.tmod 4).toNat = n
  have : n < 4 := by omega
  match n, this with
  | 0, _ => rfl
  | 1, _ => rfl
  | 2, _ => rfl
  | 3, _ => rfl
theorem f98_fn : f98_e.fn = f98 := rfl
theorem f98_ok : EntryOK Try.prog 98 f98_e := by
  refine entryF progOK (EnvOK.nil) (A := f98_A) (d := 6) Try.func98 rfl rfl (fun h => by cases h) fun x hpre => ?_
  obtain ⟨a0, a1⟩ := x
  exact f98_t a0 a1 hpre _ fun _ h => h.trans (congrFun f98_fn.symm _)
end Go.Proofs.Ytdhekhichomoiaa
end

section
namespace Go.Proofs.Ytdhekhichomoiaa
open Go Go.Pi Go.RowKit
set_option maxRecDepth 100000
set_option linter.unusedVariables false
set_option linter.unusedSimpArgs false

def f105 (n : Int) : Bool := decide (0 ≤ n) && decide (n ≤ 100)
def f105_e : Entry := { doms := [(false, (.int .i64))], cods := [(false, .bool)], pre := fun _ => True, fn := f105, uq := false, total := true }
def f105_E : Env := [(95, f95_e)]
def f105_A : Anns := { loops := [], own := [] }
theorem f105_run (a0 : Int) (K : Bool → Prop) : runF Try.prog f105_E f105_A 6 Try.f105 f105_e.doms f105_e.cods a0 K =
    (K (f95 (a0, (0, 100)))) := by kernel_rfl
theorem f105_t (a0 : Int) (K : Bool → Prop) (hK : ∀ y : Bool, y = f105 a0 → K y) : RunF Try.prog f105_E f105_A 6 Try.f105 f105_e.doms f105_e.cods a0 K := by
  refine ⟨?_⟩
  rw [f105_run a0 K]
  exact hK _ (by simp [f105, f95])
theorem f105_fn : f105_e.fn = f105 := rfl
theorem f105_ok : EntryOK Try.prog 105 f105_e := by
  refine entryF progOK (EnvOK.cons f95_ok (EnvOK.nil)) (A := f105_A) (d := 6) Try.func105 rfl rfl (fun _ _ => trivial) fun x hpre => ?_
  exact f105_t x _ fun _ h => h.trans (congrFun f105_fn.symm _)
end Go.Proofs.Ytdhekhichomoiaa
end

section
namespace Go.Proofs.Ytdhekhichomoiaa
open Go Go.Pi Go.RowKit
set_option maxRecDepth 100000
set_option linter.unusedVariables false
set_option linter.unusedSimpArgs false

def f34 (g : Int × Int × Int × List Int) : Int × Int :=
  if ¬ ((0 ≤ g.1 ∧ g.1 ≤ 48) ∧ (1 ≤ g.2.1 ∧ g.2.1 ≤ 48) ∧ (1 ≤ g.2.2.1 ∧ g.2.2.1 ≤ 20)) then (0, 2)
  else if g.2.2.2.length = 0 then (0, 10) else if 16 < g.2.2.2.length then (0, 8) else match g.2.2.2.findIdx? (fun n => !f105 n) with
  | some i => ((i : Int), 2)
  | none => (0, 0)
def f34_e : Entry := { doms := [(true, (.pair (.int .i64) (.pair (.int .i64) (.pair (.int .i64) (.sl (.int .i64))))))], cods := [(false, (.int .i64)), (false, (.int .i64))], pre := fun _ => True, fn := f34, uq := false, total := true }
def f34_E : Env := [(93, f93_e), (94, f94_e), (95, f95_e), (105, f105_e)]
def f34_A : Anns := { loops := [(1157427304333312000, { tms := [(0, .keep), (1, .keep), (7, .keep), (8, .data false (.int .i64))], obs := [(1048576, .keep), (1103808692224, .keep)], fz := [] })], own := [] }
theorem f34_run (a0 : Int × Int × Int × List Int) (K : (Int × Int) → Prop) : runF Try.prog f34_E f34_A 6 Try.f34 f34_e.doms f34_e.cods a0 K =
    (br (f95 (a0.1, (0, 48)))
    (br (f95 (a0.2.1, (1, 48)))
    (br (lenOk (a0.2.2.2.length))
    (br (lenOk (a0.2.2.2.length))
    (br ((f93 ([(f94 ((f95 (a0.2.2.1, (1, 20))), 2)), (f94 ((decide (((a0.2.2.2.length) : Int) > 0)), 10)), (f94 ((decide (((a0.2.2.2.length) : Int) ≤ 16)), 8))] : List Int)) != 0)
    (K (0, (f93 ([(f94 ((f95 (a0.2.2.1, (1, 20))), 2)), (f94 ((decide (((a0.2.2.2.length) : Int) > 0)), 10)), (f94 ((decide (((a0.2.2.2.length) : Int) ≤ 16)), 8))] : List Int))))
    (br (lenOk (a0.2.2.2.length))
    (LoopP (V := Int × Unit) (fun again v => (fun (again1 : Int → Prop) (v1_0 : Int) =>
    br (decide (v1_0 < ((a0.2.2.2.length) : Int)))
    (br (decide (0 ≤ v1_0) && decide (v1_0 < ((a0.2.2.2.length) : Int)))
    (br (!(f105 (a0.2.2.2.getD v1_0.toNat 0)))
    (br (decide (v1_0 ≥ 0))
    (K (v1_0, 2))
    (K (0, 0)))
    (again1 (IntKind.i64.wrap (v1_0 + 1))))
    False)
    (K (0, 0)))
    (fun v1_0 => again (v1_0, ())) v.1) (0, ()))
    True))
    True)
    True)
    (br (lenOk (a0.2.2.2.length))
    (br (lenOk (a0.2.2.2.length))
    (br ((f93 ([(f94 (false, 2)), (f94 ((decide (((a0.2.2.2.length) : Int) > 0)), 10)), (f94 ((decide (((a0.2.2.2.length) : Int) ≤ 16)), 8))] : List Int)) != 0)
    (K (0, (f93 ([(f94 (false, 2)), (f94 ((decide (((a0.2.2.2.length) : Int) > 0)), 10)), (f94 ((decide (((a0.2.2.2.length) : Int) ≤ 16)), 8))] : List Int))))
    (br (lenOk (a0.2.2.2.length))
    (LoopP (V := Int × Unit) (fun again v => (fun (again2 : Int → Prop) (v2_0 : Int) =>
    br (decide (v2_0 < ((a0.2.2.2.length) : Int)))
    (br (decide (0 ≤ v2_0) && decide (v2_0 < ((a0.2.2.2.length) : Int)))
    (br (!(f105 (a0.2.2.2.getD v2_0.toNat 0)))
    (br (decide (v2_0 ≥ 0))
    (K (v2_0, 2))
    (K (0, 0)))
    (again2 (IntKind.i64.wrap (v2_0 + 1))))
    False)
    (K (0, 0)))
    (fun v2_0 => again (v2_0, ())) v.1) (0, ()))
    True))
    True)
    True))
    (br (lenOk (a0.2.2.2.length))
    (br (lenOk (a0.2.2.2.length))
    (br ((f93 ([(f94 (false, 2)), (f94 ((decide (((a0.2.2.2.length) : Int) > 0)), 10)), (f94 ((decide (((a0.2.2.2.length) : Int) ≤ 16)), 8))] : List Int)) != 0)
    (K (0, (f93 ([(f94 (false, 2)), (f94 ((decide (((a0.2.2.2.length) : Int) > 0)), 10)), (f94 ((decide (((a0.2.2.2.length) : Int) ≤ 16)), 8))] : List Int))))
    (br (lenOk (a0.2.2.2.length))
    (LoopP (V := Int × Unit) (fun again v => (fun (again3 : Int → Prop) (v3_0 : Int) =>
    br (decide (v3_0 < ((a0.2.2.2.length) : Int)))
    (br (decide (0 ≤ v3_0) && decide (v3_0 < ((a0.2.2.2.length) : Int)))
    (br (!(f105 (a0.2.2.2.getD v3_0.toNat 0)))
    (br (decide (v3_0 ≥ 0))
    (K (v3_0, 2))
    (K (0, 0)))
    (again3 (IntKind.i64.wrap (v3_0 + 1))))
    False)
    (K (0, 0)))
    (fun v3_0 => again (v3_0, ())) v.1) (0, ()))
    True))
    True)
    True)) := by kernel_rfl
theorem f34_t (a0 : Int × Int × Int × List Int) (K : (Int × Int) → Prop) (hK : ∀ y : Int × Int, y = f34 a0 → K y) : RunF Try.prog f34_E f34_A 6 Try.f34 f34_e.doms f34_e.cods a0 K := by
  refine ⟨?_⟩
  rw [f34_run a0 K]
  simp only [br_true_, lenOk_iff]
  simp only [br_both]
  have bad : ∀ a b, f93 [f94 (false, 2), a, b] = 2 := fun a b => by simp [f94, f93_cons]
  simp only [bad]
  refine ⟨fun h1 => ⟨fun h2 => fun hl _ => ?_, fun h2 => fun hl _ => ⟨fun _ => ?_, fun h => by simp at h⟩⟩, fun h1 => fun hl _ => ⟨fun _ => ?_, fun h => by simp at h⟩⟩
  · simp only [f95, Bool.and_eq_true, decide_eq_true_eq] at h1 h2
    by_cases h3 : 1 ≤ a0.2.2.1 ∧ a0.2.2.1 ≤ 20
    · by_cases h4 : a0.2.2.2.length = 0
      · have e : f93 [f94 (f95 (a0.2.2.1, 1, 20), 2), f94 (decide ((a0.2.2.2.length : Int) > 0), 10), f94 (decide ((a0.2.2.2.length : Int) ≤ 16), 8)] = 10 := by simp [h3, h4, f95, f94, f93_cons]
        rw [e]
        exact ⟨fun _ => hK _ (by simp [f34, h1, h2, h3, h4]), fun h => by simp at h⟩
      by_cases h5 : 16 < a0.2.2.2.length
      · have e : f93 [f94 (f95 (a0.2.2.1, 1, 20), 2), f94 (decide ((a0.2.2.2.length : Int) > 0), 10), f94 (decide ((a0.2.2.2.length : Int) ≤ 16), 8)] = 8 := by
          have : ¬ (a0.2.2.2.length : Int) ≤ 16 := by omega
          have h6 : 0 < a0.2.2.2.length := by omega
          simp [h3, this, h6, f95, f94, f93_cons]
        rw [e]
        exact ⟨fun _ => hK _ (by simp [f34, h1, h2, h3, h4, h5]), fun h => by simp at h⟩
      have e : f93 [f94 (f95 (a0.2.2.1, 1, 20), 2), f94 (decide ((a0.2.2.2.length : Int) > 0), 10), f94 (decide ((a0.2.2.2.length : Int) ≤ 16), 8)] = 0 := by
        have : (a0.2.2.2.length : Int) ≤ 16 := by omega
        have h6 : 0 < a0.2.2.2.length := by omega
        simp [h3, this, h6, f95, f94, f93_cons, f93_nil]
      rw [e]
      refine ⟨fun h => by simp at h, fun _ _ => ?_⟩
      have hc : ¬ ¬ ((0 ≤ a0.1 ∧ a0.1 ≤ 48) ∧ (1 ≤ a0.2.1 ∧ a0.2.1 ≤ 48) ∧ (1 ≤ a0.2.2.1 ∧ a0.2.2.1 ≤ 20)) := not_not_intro ⟨h1, h2, h3⟩
      refine LoopP.up a0.2.2.2.length (fun i _ => ∀ x ∈ a0.2.2.2.take i.toNat, (!f105 x) = false) (fun again i v hi0 hn hI hag => ?_) (by omega) all_zero
      simp only [br_both, decide_eq_true_eq, decide_eq_false_iff_not, Bool.and_eq_true]
      refine ⟨fun hi => ⟨fun _ => ⟨fun hne => ⟨fun _ => ?_, fun hf => ?_⟩, fun he => ?_⟩, fun hf => ?_⟩, fun hi => ?_⟩
      · refine hK _ ?_
        rw [f34, if_neg hc, if_neg h4, if_neg h5, findIdx_at hi0 hi hI hne]
        simp only
        rw [Int.toNat_of_nonneg hi0]
      · omega
      · rw [wr (by omega) (by omega)]
        exact hag () hi (all_step hi0 hi hI he)
      · simp at hf; omega
      · refine hK _ ?_
        rw [f34, if_neg hc, if_neg h4, if_neg h5, findIdx_none (all_done hi hI)]
    · have e : ∀ a b, f93 [f94 (f95 (a0.2.2.1, 1, 20), 2), a, b] = 2 := fun a b => by
        have : f95 (a0.2.2.1, 1, 20) = false := by simp [f95]; omega
        rw [this, bad]
      rw [e]
      exact ⟨fun _ => hK _ (by rw [f34, if_pos fun h => h3 h.2.2]), fun h => by simp at h⟩
  · exact hK _ (by rw [f34, if_pos fun h => by simp [f95, h.2.1] at h2])
  · exact hK _ (by rw [f34, if_pos fun h => by simp [f95, h.1] at h1])
theorem f34_fn : f34_e.fn = f34 := rfl
theorem f34_ok : EntryOK Try.prog 34 f34_e := by
  refine entryF progOK (EnvOK.cons f93_ok (EnvOK.cons f94_ok (EnvOK.cons f95_ok (EnvOK.cons f105_ok (EnvOK.nil))))) (A := f34_A) (d := 6) Try.func34 rfl rfl (fun _ _ => trivial) fun x hpre => ?_
  exact f34_t x _ fun _ h => h.trans (congrFun f34_fn.symm _)
end Go.Proofs.Ytdhekhichomoiaa
end

section
namespace Go.Proofs.Ytdhekhichomoiaa
open Go Go.Pi Go.RowKit
set_option maxRecDepth 100000
set_option linter.unusedVariables false
set_option linter.unusedSimpArgs false

def f106 (g : Int × Int × Int × List Int) : Int := (f34 g).2
def f106_e : Entry := { doms := [(true, (.pair (.int .i64) (.pair (.int .i64) (.pair (.int .i64) (.sl (.int .i64))))))], cods := [(false, (.int .i64))], pre := fun _ => True, fn := f106, uq := false, total := true }
def f106_E : Env := [(34, f34_e)]
def f106_A : Anns := { loops := [], own := [] }
theorem f106_run (a0 : Int × Int × Int × List Int) (K : Int → Prop) : runF Try.prog f106_E f106_A 6 Try.f106 f106_e.doms f106_e.cods a0 K =
    (K ((f34 a0).2)) := by kernel_rfl
theorem f106_t (a0 : Int × Int × Int × List Int) (K : Int → Prop) (hK : ∀ y : Int, y = f106 a0 → K y) : RunF Try.prog f106_E f106_A 6 Try.f106 f106_e.doms f106_e.cods a0 K := by
  refine ⟨?_⟩
  rw [f106_run a0 K]
  exact hK _ (by rw [f106])
theorem f106_fn : f106_e.fn = f106 := rfl
theorem f106_ok : EntryOK Try.prog 106 f106_e := by
  refine entryF progOK (EnvOK.cons f34_ok (EnvOK.nil)) (A := f106_A) (d := 6) Try.func106 rfl rfl (fun _ _ => trivial) fun x hpre => ?_
  exact f106_t x _ fun _ h => h.trans (congrFun f106_fn.symm _)
end Go.Proofs.Ytdhekhichomoiaa
end

section
namespace Go.Proofs.Ytdhekhichomoiaa
open Go Go.Pi Go.RowKit
set_option maxRecDepth 100000
set_option linter.unusedVariables false
set_option linter.unusedSimpArgs false

def f107 (x : (Int × Int × Int × List Int) × Int) : Int := f94 (f95 (x.2, 0, IntKind.i64.wrap (x.1.2.2.1 - 1)), 6)
def f107_e : Entry := { doms := [(true, (.pair (.int .i64) (.pair (.int .i64) (.pair (.int .i64) (.sl (.int .i64)))))), (false, (.int .i64))], cods := [(false, (.int .i64))], pre := fun _ => True, fn := f107, uq := false, total := true }
def f107_E : Env := [(94, f94_e), (95, f95_e)]
def f107_A : Anns := { loops := [], own := [] }
theorem f107_run (a0 : Int × Int × Int × List Int) (a1 : Int) (K : Int → Prop) : runF Try.prog f107_E f107_A 6 Try.f107 f107_e.doms f107_e.cods (a0, a1) K =
    (K (f94 ((f95 (a1, (0, (IntKind.i64.wrap (a0.2.2.1 - 1))))), 6))) := by kernel_rfl
theorem f107_t (a0 : Int × Int × Int × List Int) (a1 : Int) (K : Int → Prop) (hK : ∀ y : Int, y = f107 (a0, a1) → K y) : RunF Try.prog f107_E f107_A 6 Try.f107 f107_e.doms f107_e.cods (a0, a1) K := by
  refine ⟨?_⟩
  rw [f107_run a0 a1 K]
  exact hK _ (by simp only [f107])
theorem f107_fn : f107_e.fn = f107 := rfl
theorem f107_ok : EntryOK Try.prog 107 f107_e := by
  refine entryF progOK (EnvOK.cons f94_ok (EnvOK.cons f95_ok (EnvOK.nil))) (A := f107_A) (d := 6) Try.func107 rfl rfl (fun _ _ => trivial) fun x hpre => ?_
  obtain ⟨a0, a1⟩ := x
  exact f107_t a0 a1 _ fun _ h => h.trans (congrFun f107_fn.symm _)
end Go.Proofs.Ytdhekhichomoiaa
end

section
namespace Go.Proofs.Ytdhekhichomoiaa
open Go Go.Pi Go.RowKit
set_option maxRecDepth 100000
set_option linter.unusedVariables false
set_option linter.unusedSimpArgs false

def f110 (x : (Int × Int × Int × List Int) × Int) : Int := IntKind.i64.wrap (x.1.1 + IntKind.i64.wrap (x.2 * x.1.2.1))
def f110_e : Entry := { doms := [(true, (.pair (.int .i64) (.pair (.int .i64) (.pair (.int .i64) (.sl (.int .i64)))))), (false, (.int .i64))], cods := [(false, (.int .i64))], pre := fun _ => True, fn := f110, uq := false, total := true }
def f110_E : Env := []
def f110_A : Anns := { loops := [], own := [] }
theorem f110_run (a0 : Int × Int × Int × List Int) (a1 : Int) (K : Int → Prop) : runF Try.prog f110_E f110_A 6 Try.f110 f110_e.doms f110_e.cods (a0, a1) K =
    (K (IntKind.i64.wrap (a0.1 + (IntKind.i64.wrap (a1 * a0.2.1))))) := by kernel_rfl
theorem f110_t (a0 : Int × Int × Int × List Int) (a1 : Int) (K : Int → Prop) (hK : ∀ y : Int, y = f110 (a0, a1) → K y) : RunF Try.prog f110_E f110_A 6 Try.f110 f110_e.doms f110_e.cods (a0, a1) K := by
  refine ⟨?_⟩
  rw [f110_run a0 a1 K]
  exact hK _ (by simp only [f110])
theorem f110_fn : f110_e.fn = f110 := rfl
theorem f110_ok : EntryOK Try.prog 110 f110_e := by
  refine entryF progOK (EnvOK.nil) (A := f110_A) (d := 6) Try.func110 rfl rfl (fun _ _ => trivial) fun x hpre => ?_
  obtain ⟨a0, a1⟩ := x
  exact f110_t a0 a1 _ fun _ h => h.trans (congrFun f110_fn.symm _)
end Go.Proofs.Ytdhekhichomoiaa
end

section
namespace Go.Proofs.Ytdhekhichomoiaa
open Go Go.Pi Go.RowKit
set_option maxRecDepth 100000
set_option linter.unusedVariables false
set_option linter.unusedSimpArgs false

def f108 (x : (Int × Int × Int × List Int) × List (Int × Int) × Int) : Bool := decide (IntKind.i64.wrap (f110 (x.1, x.2.2) + (x.1.2.2.2.length : Int)) ≤ (x.2.1.length : Int))
def f108_e : Entry := { doms := [(true, (.pair (.int .i64) (.pair (.int .i64) (.pair (.int .i64) (.sl (.int .i64)))))), (false, (.sl (.pair (.int .i64) (.int .i64)))), (false, (.int .i64))], cods := [(false, .bool)], pre := fun _ => True, fn := f108, uq := false, total := true }
def f108_E : Env := [(110, f110_e)]
def f108_A : Anns := { loops := [], own := [] }
theorem f108_run (a0 : Int × Int × Int × List Int) (a1 : List (Int × Int)) (a2 : Int) (K : Bool → Prop) : runF Try.prog f108_E f108_A 6 Try.f108 f108_e.doms f108_e.cods (a0, a1, a2) K =
    (br (lenOk (a0.2.2.2.length))
    (br (lenOk (a1.length))
    (K (decide ((IntKind.i64.wrap ((f110 (a0, a2)) + ((a0.2.2.2.length) : Int))) ≤ ((a1.length) : Int))))
    True)
    True) := by kernel_rfl
theorem f108_t (a0 : Int × Int × Int × List Int) (a1 : List (Int × Int)) (a2 : Int) (K : Bool → Prop) (hK : ∀ y : Bool, y = f108 (a0, a1, a2) → K y) : RunF Try.prog f108_E f108_A 6 Try.f108 f108_e.doms f108_e.cods (a0, a1, a2) K := by
  refine ⟨?_⟩
  rw [f108_run a0 a1 a2 K]
  rw [br_true_]
  intro _
  rw [br_true_]
  intro _
  exact hK _ (by simp only [f108])
theorem f108_fn : f108_e.fn = f108 := rfl
theorem f108_ok : EntryOK Try.prog 108 f108_e := by
  refine entryF progOK (EnvOK.cons f110_ok (EnvOK.nil)) (A := f108_A) (d := 6) Try.func108 rfl rfl (fun _ _ => trivial) fun x hpre => ?_
  obtain ⟨a0, a1, a2⟩ := x
  exact f108_t a0 a1 a2 _ fun _ h => h.trans (congrFun f108_fn.symm _)
end Go.Proofs.Ytdhekhichomoiaa
end

section
namespace Go.Proofs.Ytdhekhichomoiaa
open Go Go.Pi Go.RowKit
set_option maxRecDepth 100000
set_option linter.unusedVariables false
set_option linter.unusedSimpArgs false

def f126 (x : (Int × Int) × (Int × Int)) : Int × Int := (IntKind.i64.wrap (x.1.1 + x.2.1), IntKind.i64.wrap (x.1.2 + x.2.2))
def f126_e : Entry := { doms := [(true, (.pair (.int .i64) (.int .i64))), (true, (.pair (.int .i64) (.int .i64)))], cods := [(true, (.pair (.int .i64) (.int .i64)))], pre := fun _ => True, fn := f126, uq := false, total := true }
def f126_E : Env := []
def f126_A : Anns := { loops := [], own := [] }
theorem f126_run (a0 : Int × Int) (a1 : Int × Int) (K : (Int × Int) → Prop) : runF Try.prog f126_E f126_A 6 Try.f126 f126_e.doms f126_e.cods (a0, a1) K =
    (K ((IntKind.i64.wrap (a0.1 + a1.1)), (IntKind.i64.wrap (a0.2 + a1.2)))) := by kernel_rfl
theorem f126_t (a0 : Int × Int) (a1 : Int × Int) (K : (Int × Int) → Prop) (hK : ∀ y : Int × Int, y = f126 (a0, a1) → K y) : RunF Try.prog f126_E f126_A 6 Try.f126 f126_e.doms f126_e.cods (a0, a1) K := by
  refine ⟨?_⟩
  rw [f126_run a0 a1 K]
  exact hK _ (by simp only [f126])
theorem f126_fn : f126_e.fn = f126 := rfl
theorem f126_ok : EntryOK Try.prog 126 f126_e := by
  refine entryF progOK (EnvOK.nil) (A := f126_A) (d := 6) Try.func126 rfl rfl (fun _ _ => trivial) fun x hpre => ?_
  obtain ⟨a0, a1⟩ := x
  exact f126_t a0 a1 _ fun _ h => h.trans (congrFun f126_fn.symm _)
end Go.Proofs.Ytdhekhichomoiaa
end

section
namespace Go.Proofs.Ytdhekhichomoiaa
open Go Go.Pi Go.RowKit
set_option maxRecDepth 100000
set_option linter.unusedVariables false
set_option linter.unusedSimpArgs false

def f127 (x : (Int × Int) × (Int × Int)) : Int × Int := (IntKind.i64.wrap (IntKind.i64.wrap (x.1.1 * x.2.1) + IntKind.i64.wrap (x.1.2 * x.2.2)), IntKind.i64.wrap (IntKind.i64.wrap (x.1.1 * x.2.2) - IntKind.i64.wrap (x.1.2 * x.2.1)))
def f127_e : Entry := { doms := [(true, (.pair (.int .i64) (.int .i64))), (true, (.pair (.int .i64) (.int .i64)))], cods := [(true, (.pair (.int .i64) (.int .i64)))], pre := fun _ => True, fn := f127, uq := false, total := true }
def f127_E : Env := []
def f127_A : Anns := { loops := [], own := [] }
theorem f127_run (a0 : Int × Int) (a1 : Int × Int) (K : (Int × Int) → Prop) : runF Try.prog f127_E f127_A 6 Try.f127 f127_e.doms f127_e.cods (a0, a1) K =
    (K ((IntKind.i64.wrap ((IntKind.i64.wrap (a0.1 * a1.1)) + (IntKind.i64.wrap (a0.2 * a1.2)))), (IntKind.i64.wrap ((IntKind.i64.wrap (a0.1 * a1.2)) - (IntKind.i64.wrap (a0.2 * a1.1)))))) := by kernel_rfl
theorem f127_t (a0 : Int × Int) (a1 : Int × Int) (K : (Int × Int) → Prop) (hK : ∀ y : Int × Int, y = f127 (a0, a1) → K y) : RunF Try.prog f127_E f127_A 6 Try.f127 f127_e.doms f127_e.cods (a0, a1) K := by
  refine ⟨?_⟩
  rw [f127_run a0 a1 K]
  exact hK _ (by simp only [f127])
theorem f127_fn : f127_e.fn = f127 := rfl
theorem f127_ok : EntryOK Try.prog 127 f127_e := by
  refine entryF progOK (EnvOK.nil) (A := f127_A) (d := 6) Try.func127 rfl rfl (fun _ _ => trivial) fun x hpre => ?_
  obtain ⟨a0, a1⟩ := x
  exact f127_t a0 a1 _ fun _ h => h.trans (congrFun f127_fn.symm _)
end Go.Proofs.Ytdhekhichomoiaa
end

section
namespace Go.Proofs.Ytdhekhichomoiaa
open Go Go.Pi Go.RowKit
set_option maxRecDepth 100000
set_option linter.unusedVariables false
set_option linter.unusedSimpArgs false

def f118 (x : Int × Int) : Int := IntKind.i64.wrap (IntKind.i64.wrap (x.1 * x.1) + IntKind.i64.wrap (x.2 * x.2))
def f118_e : Entry := { doms := [(true, (.pair (.int .i64) (.int .i64)))], cods := [(false, (.int .i64))], pre := fun _ => True, fn := f118, uq := false, total := true }
def f118_E : Env := []
def f118_A : Anns := { loops := [], own := [] }
theorem f118_run (a0 : Int × Int) (K : Int → Prop) : runF Try.prog f118_E f118_A 6 Try.f118 f118_e.doms f118_e.cods a0 K =
    (K (IntKind.i64.wrap ((IntKind.i64.wrap (a0.1 * a0.1)) + (IntKind.i64.wrap (a0.2 * a0.2))))) := by kernel_rfl
theorem f118_t (a0 : Int × Int) (K : Int → Prop) (hK : ∀ y : Int, y = f118 a0 → K y) : RunF Try.prog f118_E f118_A 6 Try.f118 f118_e.doms f118_e.cods a0 K := by
  refine ⟨?_⟩
  rw [f118_run a0 K]
  exact hK _ (by simp only [f118])
theorem f118_fn : f118_e.fn = f118 := rfl
theorem f118_ok : EntryOK Try.prog 118 f118_e := by
  refine entryF progOK (EnvOK.nil) (A := f118_A) (d := 6) Try.func118 rfl rfl (fun _ _ => trivial) fun x hpre => ?_
  exact f118_t x _ fun _ h => h.trans (congrFun f118_fn.symm _)
end Go.Proofs.Ytdhekhichomoiaa
end

section
namespace Go.Proofs.Ytdhekhichomoiaa
open Go Go.Pi Go.RowKit
set_option maxRecDepth 100000
set_option linter.unusedVariables false
set_option linter.unusedSimpArgs false

def f16 (x : Unit) : Bool := true
def f16_e : Entry := { doms := [], cods := [(false, .bool)], pre := fun _ => True, fn := f16, uq := false, total := true }
def sM (r : Nat) : Nat := (1053698 * 1099511627776 + r) * 1048576 + 7169
def f16_E : Env := [(92, f92_e), (96, f96_e), (93, f93_e), (94, f94_e), (95, f95_e), (97, f97_e), (98, f98_e), (106, f106_e), (107, f107_e), (108, f108_e), (110, f110_e), (126, f126_e), (127, f127_e), (118, f118_e)]
def f16_A : Anns := { loops := [], own := [sM 1, sM 2, sM 3], unroll := 100 }
theorem f16_run (K : Bool → Prop) : runF Try.prog f16_E f16_A 30 Try.f16 f16_e.doms f16_e.cods () K = ((0 : Int) ≤ 0 ∧ (0 : Int) ≤ 0 ∧ (0 : Int) ≤ 0 ∧ (0 : Int) ≤ 0 ∧ (0 : Int) ≤ 1 ∧ (0 : Int) ≤ 2 ∧ (0 : Int) ≤ 0 ∧ (0 : Int) ≤ 2 ∧ (0 : Int) ≤ 4 ∧ (0 : Int) ≤ 0 ∧ (0 : Int) ≤ 3 ∧ (0 : Int) ≤ 6 ∧ (0 < 2 ∧ 2 ≤ 1073741824) ∧ (0 < 2 ∧ 2 ≤ 1048576) ∧ (0 < 2 ∧ 2 ≤ 1073741824) ∧ (0 < 2 ∧ 2 ≤ 1048576) ∧ (0 < 2 ∧ 2 ≤ 1073741824) ∧ (0 < 2 ∧ 2 ≤ 1048576) ∧ K true) := by kernel_rfl
theorem f16_t (K : Bool → Prop) (hK : ∀ y : Bool, y = f16 () → K y) : RunF Try.prog f16_E f16_A 30 Try.f16 f16_e.doms f16_e.cods () K := by
  refine ⟨?_⟩
  rw [f16_run K]
  refine ⟨by decide, by decide, by decide, by decide, by decide, by decide, by decide, by decide, by decide, by decide, by decide, by decide, by decide, by decide, by decide, by decide, by decide, by decide, hK _ rfl⟩
theorem f16_fn : f16_e.fn = f16 := rfl
theorem f16_ok : EntryOK Try.prog 16 f16_e := by
  refine entryF progOK (EnvOK.cons f92_ok (EnvOK.cons f96_ok (EnvOK.cons f93_ok (EnvOK.cons f94_ok (EnvOK.cons f95_ok (EnvOK.cons f97_ok (EnvOK.cons f98_ok (EnvOK.cons f106_ok (EnvOK.cons f107_ok (EnvOK.cons f108_ok (EnvOK.cons f110_ok (EnvOK.cons f126_ok (EnvOK.cons f127_ok (EnvOK.cons f118_ok EnvOK.nil)))))))))))))) (A := f16_A) (d := 30) Try.func16 rfl rfl (fun _ _ => trivial) fun x hpre => ?_
  exact f16_t _ fun _ h => h.trans (congrFun f16_fn.symm _)
end Go.Proofs.Ytdhekhichomoiaa
end

section
namespace Go.Proofs.Ytdhekhichomoiaa
open Go Go.Pi Go.RowKit
set_option maxRecDepth 100000
set_option linter.unusedVariables false
set_option linter.unusedSimpArgs false

def f42 (x : Int × Int) : Int := if x.1 ≠ 0 then x.1 else x.2
def f42_e : Entry := { doms := [(false, (.int .i64)), (false, (.int .i64))], cods := [(false, (.int .i64))], pre := fun _ => True, fn := f42, uq := false, total := true }
def f42_E : Env := []
def f42_A : Anns := { loops := [], own := [] }
theorem f42_run (a0 : Int) (a1 : Int) (K : Int → Prop) : runF Try.prog f42_E f42_A 6 Try.f42 f42_e.doms f42_e.cods (a0, a1) K =
    (br (a0 != 0)
    (K a0)
    (K a1)) := by kernel_rfl
theorem f42_t (a0 : Int) (a1 : Int) (K : Int → Prop) (hK : ∀ y : Int, y = f42 (a0, a1) → K y) : RunF Try.prog f42_E f42_A 6 Try.f42 f42_e.doms f42_e.cods (a0, a1) K := by
  refine ⟨?_⟩
  rw [f42_run a0 a1 K]
  rw [br_both]
  exact ⟨fun h => hK _ (by simp at h; simp [f42, h]), fun h => hK _ (by simp at h; simp [f42, h])⟩
theorem f42_fn : f42_e.fn = f42 := rfl
theorem f42_ok : EntryOK Try.prog 42 f42_e := by
  refine entryF progOK (EnvOK.nil) (A := f42_A) (d := 6) Try.func42 rfl rfl (fun _ _ => trivial) fun x hpre => ?_
  obtain ⟨a0, a1⟩ := x
  exact f42_t a0 a1 _ fun _ h => h.trans (congrFun f42_fn.symm _)
end Go.Proofs.Ytdhekhichomoiaa
end

section
namespace Go.Proofs.Ytdhekhichomoiaa
open Go Go.Pi Go.RowKit
set_option maxRecDepth 100000
set_option linter.unusedVariables false
set_option linter.unusedSimpArgs false

def f18 (x : Int × Int × Int) : Bool := decide (x.2.1 ≤ x.1) && decide (x.1 ≤ x.2.2)
def f18_e : Entry := { doms := [(false, (.int .i64)), (false, (.int .i64)), (false, (.int .i64))], cods := [(false, .bool)], pre := fun _ => True, fn := f18, uq := false, total := true }
def f18_E : Env := []
def f18_A : Anns := { loops := [], own := [] }
theorem f18_run (a0 : Int) (a1 : Int) (a2 : Int) (K : Bool → Prop) : runF Try.prog f18_E f18_A 6 Try.f18 f18_e.doms f18_e.cods (a0, a1, a2) K =
    (br (decide (a1 ≤ a0))
    (K (decide (a0 ≤ a2)))
    (K false)) := by kernel_rfl
theorem f18_t (a0 : Int) (a1 : Int) (a2 : Int) (K : Bool → Prop) (hK : ∀ y : Bool, y = f18 (a0, a1, a2) → K y) : RunF Try.prog f18_E f18_A 6 Try.f18 f18_e.doms f18_e.cods (a0, a1, a2) K := by
  refine ⟨?_⟩
  rw [f18_run a0 a1 a2 K]
  rw [br_dec]
  exact ⟨fun h => hK _ (by simp [f18, h]), fun h => hK _ (by simp [f18, h])⟩
theorem f18_fn : f18_e.fn = f18 := rfl
theorem f18_ok : EntryOK Try.prog 18 f18_e := by
  refine entryF progOK (EnvOK.nil) (A := f18_A) (d := 6) Try.func18 rfl rfl (fun _ _ => trivial) fun x hpre => ?_
  obtain ⟨a0, a1, a2⟩ := x
  exact f18_t a0 a1 a2 _ fun _ h => h.trans (congrFun f18_fn.symm _)
end Go.Proofs.Ytdhekhichomoiaa
end

section
namespace Go.Proofs.Ytdhekhichomoiaa
open Go Go.Pi Go.RowKit
set_option maxRecDepth 100000
set_option linter.unusedVariables false
set_option linter.unusedSimpArgs false

def pw (a : Int × Int × Int × Int × Int) : List Int := [a.2.1, a.2.2.1, a.2.2.2.1, a.2.2.2.2]
def okCnt (a : Int × Int × Int × Int × Int) : Bool := f18 (a.1, 1, 1000) && (pw a).all fun n => f18 (n, 0, 1000000000000)
def f49 (a : Int × Int × Int × Int × Int) : Int := if okCnt a then 0 else 2
def f49_e : Entry := { doms := [(true, (.pair (.int .i64) (.pair (.int .i64) (.pair (.int .i64) (.pair (.int .i64) (.int .i64))))))], cods := [(false, (.int .i64))], pre := fun _ => True, fn := f49, uq := false, total := true }
def f49_E : Env := [(18, f18_e)]
def f49_A : Anns := { loops := [(1048576, { tms := [(1, .keep), (3, .data false (.int .i64))], obs := [(1048576, .keep)], fz := [] })], own := [] }
theorem f49_run (a0 : Int × Int × Int × Int × Int) (K : Int → Prop) : runF Try.prog f49_E f49_A 6 Try.f49 f49_e.doms f49_e.cods a0 K =
    (br (!(f18 (a0.1, (1, 1000))))
    (K 2)
    (LoopP (V := Int × Unit) (fun again v => (fun (again1 : Int → Prop) (v1_0 : Int) =>
    br (decide (v1_0 < 4))
    (br (decide (0 ≤ v1_0) && decide (v1_0 < 4))
    (br (!(f18 ((([a0.2.1, a0.2.2.1, a0.2.2.2.1, a0.2.2.2.2] : List Int).getD v1_0.toNat 0), (0, 1000000000000))))
    (K 2)
    (again1 (IntKind.i64.wrap (v1_0 + 1))))
    False)
    (K 0))
    (fun v1_0 => again (v1_0, ())) v.1) (0, ()))) := by kernel_rfl
theorem f49_t (a0 : Int × Int × Int × Int × Int) (K : Int → Prop) (hK : ∀ y : Int, y = f49 a0 → K y) : RunF Try.prog f49_E f49_A 6 Try.f49 f49_e.doms f49_e.cods a0 K := by
  refine ⟨?_⟩
  rw [f49_run a0 K]
  rw [br_both]
  refine ⟨fun h => hK _ ?_, fun h0 => ?_⟩
  · simp only [Bool.not_eq_true'] at h
    simp [f49, okCnt, h]
  simp only [Bool.not_eq_false'] at h0
  refine LoopP.up 4 (fun i _ => ∀ x ∈ (pw a0).take i.toNat, f18 (x, 0, 1000000000000) = true) (fun again i v hi0 hn hI hag => ?_) (by omega) all_zero
  have hlen : ((pw a0).length : Int) = 4 := rfl
  simp only [br_both, decide_eq_true_eq, decide_eq_false_iff_not, Bool.and_eq_true, Bool.not_eq_true', Bool.not_eq_false']
  refine ⟨fun hi => ⟨fun _ => ⟨fun hne => ?_, fun he => ?_⟩, fun hf => ?_⟩, fun hi => ?_⟩
  · refine hK _ ?_
    have : (pw a0).all (fun n => f18 (n, 0, 1000000000000)) = false := by
      rw [List.all_eq_false]
      refine ⟨_, List.getElem_mem (n := i.toNat) (show i.toNat < (pw a0).length by omega), ?_⟩
      rw [← getD_lt (d := 0)]
      simpa [pw] using hne
    simp [f49, okCnt, this]
  · rw [wr (by omega) (by omega)]
    exact hag () hi (all_step (d := 0) hi0 (by omega) hI he)
  · simp at hf; omega
  · refine hK _ ?_
    have : (pw a0).all (fun n => f18 (n, 0, 1000000000000)) = true := by
      rw [List.all_eq_true]
      exact all_done (l := pw a0) (by omega) hI
    simp [f49, okCnt, this, h0]
theorem f49_fn : f49_e.fn = f49 := rfl
theorem f49_ok : EntryOK Try.prog 49 f49_e := by
  refine entryF progOK (EnvOK.cons f18_ok (EnvOK.nil)) (A := f49_A) (d := 6) Try.func49 rfl rfl (fun _ _ => trivial) fun x hpre => ?_
  exact f49_t x _ fun _ h => h.trans (congrFun f49_fn.symm _)
end Go.Proofs.Ytdhekhichomoiaa
end

section
namespace Go.Proofs.Ytdhekhichomoiaa
open Go Go.Pi Go.RowKit
set_option maxRecDepth 100000
set_option linter.unusedVariables false
set_option linter.unusedSimpArgs false

def f112 (a : Int × Int × Int × Int × Int) : Int := f49 a
def f112_e : Entry := { doms := [(true, (.pair (.int .i64) (.pair (.int .i64) (.pair (.int .i64) (.pair (.int .i64) (.int .i64))))))], cods := [(false, (.int .i64))], pre := fun _ => True, fn := f112, uq := false, total := true }
def f112_E : Env := [(94, f94_e), (95, f95_e), (49, f49_e)]
def f112_A : Anns := { loops := [(1154049604612784128, { tms := [(0, .keep), (1, .keep), (7, .keep), (8, .data false (.int .i64))], obs := [(1048576, .keep)], fz := [] })], own := [] }
theorem f112_run (a0 : Int × Int × Int × Int × Int) (K : Int → Prop) : runF Try.prog f112_E f112_A 6 Try.f112 f112_e.doms f112_e.cods a0 K =
    (LoopP (V := Int × Unit) (fun again v => (fun (again1 : Int → Prop) (v1_0 : Int) =>
    br (decide (v1_0 < 4))
    (br (decide (0 ≤ v1_0) && decide (v1_0 < 4))
    (br (!(f95 ((([a0.2.1, a0.2.2.1, a0.2.2.2.1, a0.2.2.2.2] : List Int).getD v1_0.toNat 0), (0, 1000000000000))))
    (br (f95 (a0.1, (1, 1000)))
    (K (f94 ((!(decide (v1_0 ≥ 0))), 2)))
    (K (f94 (false, 2))))
    (again1 (IntKind.i64.wrap (v1_0 + 1))))
    False)
    (br (f95 (a0.1, (1, 1000)))
    (K (f94 (true, 2)))
    (K (f94 (false, 2)))))
    (fun v1_0 => again (v1_0, ())) v.1) (0, ())) := by kernel_rfl
theorem f112_t (a0 : Int × Int × Int × Int × Int) (K : Int → Prop) (hK : ∀ y : Int, y = f112 a0 → K y) : RunF Try.prog f112_E f112_A 6 Try.f112 f112_e.doms f112_e.cods a0 K := by
  refine ⟨?_⟩
  rw [f112_run a0 K]
  have e : ∀ n lo hi : Int, f95 (n, lo, hi) = f18 (n, lo, hi) := fun n lo hi => rfl
  refine LoopP.up 4 (fun i _ => ∀ x ∈ (pw a0).take i.toNat, f18 (x, 0, 1000000000000) = true) (fun again i v hi0 hn hI hag => ?_) (by omega) all_zero
  have hlen : ((pw a0).length : Int) = 4 := rfl
  simp only [br_both, decide_eq_true_eq, decide_eq_false_iff_not, Bool.and_eq_true, Bool.not_eq_true', Bool.not_eq_false', e]
  refine ⟨fun hi => ⟨fun _ => ⟨fun hne => ?_, fun he => ?_⟩, fun hf => ?_⟩, fun hi => ?_⟩
  · have : (pw a0).all (fun n => f18 (n, 0, 1000000000000)) = false := by
      rw [List.all_eq_false]
      refine ⟨_, List.getElem_mem (n := i.toNat) (show i.toNat < (pw a0).length by omega), ?_⟩
      rw [← getD_lt (d := 0)]
      simpa [pw] using hne
    exact ⟨fun _ => hK _ (by simp [f112, f49, okCnt, this, f94, show (0:Int) ≤ i from hi0]), fun _ => hK _ (by simp [f112, f49, okCnt, this, f94])⟩
  · rw [wr (by omega) (by omega)]
    exact hag () hi (all_step (d := 0) hi0 (by omega) hI he)
  · simp at hf; omega
  · have : (pw a0).all (fun n => f18 (n, 0, 1000000000000)) = true := by
      rw [List.all_eq_true]
      exact all_done (l := pw a0) (by omega) hI
    exact ⟨fun h => hK _ (by simp [f112, f49, okCnt, this, f94, h]), fun h => hK _ (by simp [f112, f49, okCnt, this, f94, h])⟩
theorem f112_fn : f112_e.fn = f112 := rfl
theorem f112_ok : EntryOK Try.prog 112 f112_e := by
  refine entryF progOK (EnvOK.cons f94_ok (EnvOK.cons f95_ok (EnvOK.cons f49_ok (EnvOK.nil)))) (A := f112_A) (d := 6) Try.func112 rfl rfl (fun _ _ => trivial) fun x hpre => ?_
  exact f112_t x _ fun _ h => h.trans (congrFun f112_fn.symm _)
end Go.Proofs.Ytdhekhichomoiaa
end

section
namespace Go.Proofs.Ytdhekhichomoiaa
open Go Go.Pi Go.RowKit
set_option maxRecDepth 100000
set_option linter.unusedVariables false
set_option linter.unusedSimpArgs false

def clAt (a b : Int × Int × Int × Int × Int) (k : Nat) : Int := IntKind.i64.wrap (IntKind.i64.wrap ((pw a).getD k 0 * b.1) - IntKind.i64.wrap ((pw b).getD k 0 * a.1))
def f50 (x : (Int × Int × Int × Int × Int) × (Int × Int × Int × Int × Int)) : Int × Int × Int × Int := (clAt x.1 x.2 0, clAt x.1 x.2 1, clAt x.1 x.2 2, clAt x.1 x.2 3)
def f50_e : Entry := { doms := [(true, (.pair (.int .i64) (.pair (.int .i64) (.pair (.int .i64) (.pair (.int .i64) (.int .i64)))))), (true, (.pair (.int .i64) (.pair (.int .i64) (.pair (.int .i64) (.pair (.int .i64) (.int .i64))))))], cods := [(true, (.pair (.int .i64) (.pair (.int .i64) (.pair (.int .i64) (.int .i64)))))], pre := fun _ => True, fn := f50, uq := false, total := true }
def f50_E : Env := [(49, f49_e)]
def f50_A : Anns := { loops := [(1048576, { tms := [(2, .keep), (3, .keep), (4, .keep), (5, .keep), (6, .data false (.int .i64))], obs := [(1048576, .keep), (1048577, .keep), (1048578, .keep), (1049600, .arr (.fixed 4) (.int .i64))], fz := [] })], own := [] }
theorem f50_run (a0 : Int × Int × Int × Int × Int) (a1 : Int × Int × Int × Int × Int) (K : (Int × Int × Int × Int) → Prop) : runF Try.prog f50_E f50_A 6 Try.f50 f50_e.doms f50_e.cods (a0, a1) K =
    (LoopP (V := Int × List Int × Unit) (fun again v => (fun (again1 : Int → List Int → Prop) (v1_0 : Int) (v1_1 : List Int) =>
    br (decide (v1_0 < 4))
    (br (decide (0 ≤ v1_0) && decide (v1_0 < 4))
    (br (decide (0 ≤ v1_0) && decide (v1_0 < 4))
    (br (decide (0 ≤ v1_0) && decide (v1_0 < 4))
    (again1 (IntKind.i64.wrap (v1_0 + 1)) (v1_1.set v1_0.toNat (IntKind.i64.wrap ((IntKind.i64.wrap ((([a0.2.1, a0.2.2.1, a0.2.2.2.1, a0.2.2.2.2] : List Int).getD v1_0.toNat 0) * a1.1)) - (IntKind.i64.wrap ((([a1.2.1, a1.2.2.1, a1.2.2.2.1, a1.2.2.2.2] : List Int).getD v1_0.toNat 0) * a0.1))))))
    False)
    False)
    False)
    (K ((v1_1.getD 0 0), ((v1_1.getD 1 0), ((v1_1.getD 2 0), (v1_1.getD 3 0))))))
    (fun v1_0 v1_1 => again (v1_0, v1_1, ())) v.1 v.2.1) (0, ([0, 0, 0, 0] : List Int), ())) := by kernel_rfl
theorem f50_t (a0 : Int × Int × Int × Int × Int) (a1 : Int × Int × Int × Int × Int) (K : (Int × Int × Int × Int) → Prop) (hK : ∀ y : Int × Int × Int × Int, y = f50 (a0, a1) → K y) : RunF Try.prog f50_E f50_A 6 Try.f50 f50_e.doms f50_e.cods (a0, a1) K := by
  refine ⟨?_⟩
  rw [f50_run a0 a1 K]
  refine LoopP.up 4 (fun i v => v.1 = fillTo 4 (clAt a0 a1) 0 i.toNat) (fun again i v hi0 hn hI hag => ?_) (by omega) rfl
  obtain ⟨v, u⟩ := v
  simp only at hI hag ⊢
  subst hI
  rw [br_both]
  refine ⟨fun hi => ?_, fun hi => ?_⟩
  · simp only [decide_eq_true_eq] at hi
    simp only [br_false_, Bool.and_eq_true, decide_eq_true_eq]
    refine ⟨⟨hi0, hi⟩, ⟨hi0, hi⟩, ⟨hi0, hi⟩, ?_⟩
    rw [wr (by omega) (by omega)]
    refine hag _ hi ?_
    show _ = fillTo 4 (clAt a0 a1) 0 (i + 1).toNat
    rw [show (i + 1).toNat = i.toNat + 1 by omega, ← fillTo_step (by omega)]
    rfl
  · simp only [decide_eq_false_iff_not] at hi
    rw [show i.toNat = 4 by omega]
    refine hK _ ?_
    rw [fillTo_getD (by omega), fillTo_getD (by omega), fillTo_getD (by omega), fillTo_getD (by omega)]
    rfl
theorem f50_fn : f50_e.fn = f50 := rfl
theorem f50_ok : EntryOK Try.prog 50 f50_e := by
  refine entryF progOK (EnvOK.cons f49_ok (EnvOK.nil)) (A := f50_A) (d := 6) Try.func50 rfl rfl (fun _ _ => trivial) fun x hpre => ?_
  obtain ⟨a0, a1⟩ := x
  exact f50_t a0 a1 _ fun _ h => h.trans (congrFun f50_fn.symm _)
end Go.Proofs.Ytdhekhichomoiaa
end

section
namespace Go.Proofs.Ytdhekhichomoiaa
open Go Go.Pi Go.RowKit
set_option maxRecDepth 100000
set_option linter.unusedVariables false
set_option linter.unusedSimpArgs false

def f48 (x : (Int × Int × Int × Int × Int) × (Int × Int × Int × Int × Int)) : (Int × Int × Int × Int) × Int := if f42 (f49 x.1, f49 x.2) ≠ 0 then ((0, 0, 0, 0), f42 (f49 x.1, f49 x.2)) else (f50 x, 0)
def f48_e : Entry := { doms := [(true, (.pair (.int .i64) (.pair (.int .i64) (.pair (.int .i64) (.pair (.int .i64) (.int .i64)))))), (true, (.pair (.int .i64) (.pair (.int .i64) (.pair (.int .i64) (.pair (.int .i64) (.int .i64))))))], cods := [(true, (.pair (.int .i64) (.pair (.int .i64) (.pair (.int .i64) (.int .i64))))), (false, (.int .i64))], pre := fun _ => True, fn := f48, uq := false, total := true }
def f48_E : Env := [(93, f93_e), (112, f112_e), (42, f42_e), (50, f50_e)]
def f48_A : Anns := { loops := [(1048576, { tms := [(2, .keep), (3, .keep), (4, .keep), (7, .keep), (19, .data false (.int .i64))], obs := [(1048576, .keep), (1048577, .keep), (1048578, .keep), (1052672, .arr (.fixed 4) (.int .i64))], fz := [] })], own := [] }
theorem f48_run (a0 : Int × Int × Int × Int × Int) (a1 : Int × Int × Int × Int × Int) (K : ((Int × Int × Int × Int) × Int) → Prop) : runF Try.prog f48_E f48_A 6 Try.f48 f48_e.doms f48_e.cods (a0, a1) K =
    (br ((f93 ([(f112 a0), (f112 a1)] : List Int)) != 0)
    (K ((0, (0, (0, 0))), (f93 ([(f112 a0), (f112 a1)] : List Int))))
    (LoopP (V := Int × List Int × Unit) (fun again v => (fun (again1 : Int → List Int → Prop) (v1_0 : Int) (v1_1 : List Int) =>
    br (decide (v1_0 < 4))
    (br (decide (0 ≤ v1_0) && decide (v1_0 < 4))
    (br (decide (0 ≤ v1_0) && decide (v1_0 < 4))
    (br (decide (0 ≤ v1_0) && decide (v1_0 < 4))
    (again1 (IntKind.i64.wrap (v1_0 + 1)) (v1_1.set v1_0.toNat (IntKind.i64.wrap ((IntKind.i64.wrap ((([a0.2.1, a0.2.2.1, a0.2.2.2.1, a0.2.2.2.2] : List Int).getD v1_0.toNat 0) * a1.1)) - (IntKind.i64.wrap ((([a1.2.1, a1.2.2.1, a1.2.2.2.1, a1.2.2.2.2] : List Int).getD v1_0.toNat 0) * a0.1))))))
    False)
    False)
    False)
    (K (((v1_1.getD 0 0), ((v1_1.getD 1 0), ((v1_1.getD 2 0), (v1_1.getD 3 0)))), 0)))
    (fun v1_0 v1_1 => again (v1_0, v1_1, ())) v.1 v.2.1) (0, ([0, 0, 0, 0] : List Int), ()))) := by kernel_rfl
theorem f48_t (a0 : Int × Int × Int × Int × Int) (a1 : Int × Int × Int × Int × Int) (K : ((Int × Int × Int × Int) × Int) → Prop) (hK : ∀ y : (Int × Int × Int × Int) × Int, y = f48 (a0, a1) → K y) : RunF Try.prog f48_E f48_A 6 Try.f48 f48_e.doms f48_e.cods (a0, a1) K := by
  refine ⟨?_⟩
  rw [f48_run a0 a1 K]
  have e : f93 [f112 a0, f112 a1] = f42 (f49 a0, f49 a1) := by
    simp only [f93_cons, f93_nil, f112, f42]
    by_cases h : f49 a0 = 0 <;> by_cases h2 : f49 a1 = 0 <;> simp [h, h2]
  rw [e, br_both]
  refine ⟨fun h => hK _ ?_, fun h => ?_⟩
  · simp only [bne_iff_ne] at h
    simp [f48, h]
  have h : f42 (f49 a0, f49 a1) = 0 := by simpa using h
  refine LoopP.up 4 (fun i v => v.1 = fillTo 4 (clAt a0 a1) 0 i.toNat) (fun again i v hi0 hn hI hag => ?_) (by omega) rfl
  obtain ⟨v, u⟩ := v
  simp only at hI hag ⊢
  subst hI
  rw [br_both]
  refine ⟨fun hi => ?_, fun hi => ?_⟩
  · simp only [decide_eq_true_eq] at hi
    simp only [br_false_, Bool.and_eq_true, decide_eq_true_eq]
    refine ⟨⟨hi0, hi⟩, ⟨hi0, hi⟩, ⟨hi0, hi⟩, ?_⟩
    rw [wr (by omega) (by omega)]
    refine hag _ hi ?_
    show _ = fillTo 4 (clAt a0 a1) 0 (i + 1).toNat
    rw [show (i + 1).toNat = i.toNat + 1 by omega, ← fillTo_step (by omega)]
    rfl
  · simp only [decide_eq_false_iff_not] at hi
    rw [show i.toNat = 4 by omega]
    refine hK _ ?_
    rw [fillTo_getD (by omega), fillTo_getD (by omega), fillTo_getD (by omega), fillTo_getD (by omega)]
    simp only [f48, h, ne_eq, not_true_eq_false, if_false, f50]
theorem f48_fn : f48_e.fn = f48 := rfl
theorem f48_ok : EntryOK Try.prog 48 f48_e := by
  refine entryF progOK (EnvOK.cons f93_ok (EnvOK.cons f112_ok (EnvOK.cons f42_ok (EnvOK.cons f50_ok (EnvOK.nil))))) (A := f48_A) (d := 6) Try.func48 rfl rfl (fun _ _ => trivial) fun x hpre => ?_
  obtain ⟨a0, a1⟩ := x
  exact f48_t a0 a1 _ fun _ h => h.trans (congrFun f48_fn.symm _)
end Go.Proofs.Ytdhekhichomoiaa
end

section
namespace Go.Proofs.Ytdhekhichomoiaa
open Go Go.Pi Go.RowKit
set_option maxRecDepth 100000
set_option linter.unusedVariables false
set_option linter.unusedSimpArgs false

def f7 (x : (Int × Int × Int × Int × Int) × (Int × Int × Int × Int × Int)) : Bool := true
/-- A spectrum of twice the pulses. -/
def dbl (b : Int × Int × Int × Int × Int) : Int × Int × Int × Int × Int := (IntKind.i64.wrap (2 * b.1), IntKind.i64.wrap (2 * b.2.1), IntKind.i64.wrap (2 * b.2.2.1), IntKind.i64.wrap (2 * b.2.2.2.1), IntKind.i64.wrap (2 * b.2.2.2.2))
theorem cl_wrap (x y p q : Int) : IntKind.i64.wrap (IntKind.i64.wrap (x * IntKind.i64.wrap (2 * p)) - IntKind.i64.wrap (IntKind.i64.wrap (2 * y) * q)) = IntKind.i64.wrap (2 * IntKind.i64.wrap (IntKind.i64.wrap (x * p) - IntKind.i64.wrap (y * q))) := by
  simp only [wrap_sub_l, wrap_sub_r, wrap_mul_l, wrap_mul_r]
  congr 1
  grind
theorem cl_same (a : Int × Int × Int × Int × Int) (k : Nat) : clAt a a k = 0 := by simp [clAt, Int.sub_self, wrap_zero]
theorem cl_dbl (a b : Int × Int × Int × Int × Int) (k : Nat) (hk : k < 4) : clAt a (dbl b) k = IntKind.i64.wrap (2 * clAt a b k) := by
  have : (pw (dbl b)).getD k 0 = IntKind.i64.wrap (2 * (pw b).getD k 0) := by
    match k, hk with
    | 0, _ => rfl
    | 1, _ => rfl
    | 2, _ => rfl
    | 3, _ => rfl
  rw [clAt, this]
  exact cl_wrap _ _ _ _
def f7_e : Entry := { doms := [(true, (.pair (.int .i64) (.pair (.int .i64) (.pair (.int .i64) (.pair (.int .i64) (.int .i64)))))), (true, (.pair (.int .i64) (.pair (.int .i64) (.pair (.int .i64) (.pair (.int .i64) (.int .i64))))))], cods := [(false, .bool)], pre := fun _ => True, fn := f7, uq := false, total := true }
def f7_E : Env := [(16, f16_e), (42, f42_e), (48, f48_e), (49, f49_e), (50, f50_e)]
def f7_A : Anns := { loops := [(1048576, { tms := [(2, .keep), (3, .keep), (5, .keep), (10, .keep), (11, .data false (.int .i64))], obs := [(1048576, .keep), (1048577, .keep), (1051654, .keep), (1055750, .keep), (1058820, .cells [.data (.int .i64), .data (.int .i64), .data (.int .i64), .data (.int .i64), .data (.int .i64)])], fz := [] }),
  (1048578, { tms := [(5, .keep), (12, .keep), (13, .keep), (14, .data false (.int .i64))], obs := [(1048576, .keep), (1048577, .keep), (1051654, .keep), (1055750, .keep), (1058820, .keep), (1065990, .keep)], fz := [] })], own := [] }
theorem f7_run (a0 : Int × Int × Int × Int × Int) (a1 : Int × Int × Int × Int × Int) (K : Bool → Prop) : runF Try.prog f7_E f7_A 6 Try.f7 f7_e.doms f7_e.cods (a0, a1) K =
  (br (!(f16 ()))
  (K false)
  (br ((f42 ((f49 a0), (f49 a1))) != 0)
  (br ((f48 (a0, a1)).2 == (f42 ((f49 a0), (f49 a1))))
  (K ((((f48 (a0, a1)).1).1 == 0) && (((((f48 (a0, a1)).1).2).1 == 0) && ((((((f48 (a0, a1)).1).2).2).1 == 0) && ((((((f48 (a0, a1)).1).2).2).2 == 0) && true)))))
  (K false))
  (br ((f48 (a0, a1)).2 != 0)
  (K false)
  (br (!((((f48 (a0, a1)).1).1 == (f50 (a0, a1)).1) && (((((f48 (a0, a1)).1).2).1 == ((f50 (a0, a1)).2).1) && ((((((f48 (a0, a1)).1).2).2).1 == (((f50 (a0, a1)).2).2).1) && ((((((f48 (a0, a1)).1).2).2).2 == (((f50 (a0, a1)).2).2).2) && true)))))
  (K false)
  (br ((f48 (a0, a0)).2 != 0)
  (K false)
  (br (!((((f48 (a0, a0)).1).1 == 0) && (((((f48 (a0, a0)).1).2).1 == 0) && ((((((f48 (a0, a0)).1).2).2).1 == 0) && ((((((f48 (a0, a0)).1).2).2).2 == 0) && true)))))
  (K false)
  (LoopP (V := Int × Int × Int × Int × Int × Int × Unit) (fun again v => (fun (again1 : Int → Int → Int → Int → Int → Int → Prop) (v1_0 : Int) (v1_1 : Int) (v1_2 : Int) (v1_3 : Int) (v1_4 : Int) (v1_5 : Int) =>
  br (decide (v1_0 < 4))
  (br (decide (0 ≤ v1_0) && decide (v1_0 < 4))
  (br (decide (0 ≤ v1_0) && decide (v1_0 < 4))
  (again1 (IntKind.i64.wrap (v1_0 + 1)) v1_1 (match decide (v1_0.toNat = 0) with | true => (IntKind.i64.wrap (2 * (([a1.2.1, a1.2.2.1, a1.2.2.2.1, a1.2.2.2.2] : List Int).getD v1_0.toNat 0))) | false => v1_2) (match decide (v1_0.toNat = 1) with | true => (IntKind.i64.wrap (2 * (([a1.2.1, a1.2.2.1, a1.2.2.2.1, a1.2.2.2.2] : List Int).getD v1_0.toNat 0))) | false => v1_3) (match decide (v1_0.toNat = 2) with | true => (IntKind.i64.wrap (2 * (([a1.2.1, a1.2.2.1, a1.2.2.2.1, a1.2.2.2.2] : List Int).getD v1_0.toNat 0))) | false => v1_4) (match decide (v1_0.toNat = 3) with | true => (IntKind.i64.wrap (2 * (([a1.2.1, a1.2.2.1, a1.2.2.2.1, a1.2.2.2.2] : List Int).getD v1_0.toNat 0))) | false => v1_5))
  False)
  False)
  (br ((f49 (v1_1, (v1_2, (v1_3, (v1_4, v1_5))))) != 0)
  (K true)
  (LoopP (V := Int × Unit) (fun again v => (fun (again2 : Int → Prop) (v2_0 : Int) =>
  br (decide (v2_0 < 4))
  (br (decide (0 ≤ v2_0) && decide (v2_0 < 4))
  (br (decide (0 ≤ v2_0) && decide (v2_0 < 4))
  (br ((([((f48 (a0, (v1_1, (v1_2, (v1_3, (v1_4, v1_5)))))).1).1, (((f48 (a0, (v1_1, (v1_2, (v1_3, (v1_4, v1_5)))))).1).2).1, ((((f48 (a0, (v1_1, (v1_2, (v1_3, (v1_4, v1_5)))))).1).2).2).1, ((((f48 (a0, (v1_1, (v1_2, (v1_3, (v1_4, v1_5)))))).1).2).2).2] : List Int).getD v2_0.toNat 0) != (IntKind.i64.wrap (2 * (([((f48 (a0, a1)).1).1, (((f48 (a0, a1)).1).2).1, ((((f48 (a0, a1)).1).2).2).1, ((((f48 (a0, a1)).1).2).2).2] : List Int).getD v2_0.toNat 0))))
  (K false)
  (again2 (IntKind.i64.wrap (v2_0 + 1))))
  False)
  False)
  (K ((f48 (a0, (v1_1, (v1_2, (v1_3, (v1_4, v1_5)))))).2 == 0)))
  (fun v2_0 => again (v2_0, ())) v.1) (0, ()))))
  (fun v1_0 v1_1 v1_2 v1_3 v1_4 v1_5 => again (v1_0, v1_1, v1_2, v1_3, v1_4, v1_5, ())) v.1 v.2.1 v.2.2.1 v.2.2.2.1 v.2.2.2.2.1 v.2.2.2.2.2.1) (0, (IntKind.i64.wrap (2 * a1.1)), 0, 0, 0, 0, ())))))))) := by kernel_rfl
theorem f7_t (a0 : Int × Int × Int × Int × Int) (a1 : Int × Int × Int × Int × Int) (K : Bool → Prop) (hK : ∀ y : Bool, y = f7 (a0, a1) → K y) : RunF Try.prog f7_E f7_A 6 Try.f7 f7_e.doms f7_e.cods (a0, a1) K := by
  refine ⟨?_⟩
  rw [f7_run a0 a1 K]
  rw [show f16 () = true from rfl, Bool.not_true, br_f, br_both]
  refine ⟨fun h => ?_, fun h => ?_⟩
  · have h : f42 (f49 a0, f49 a1) ≠ 0 := by simpa using h
    have e : f48 (a0, a1) = ((0, 0, 0, 0), f42 (f49 a0, f49 a1)) := by simp [f48, h]
    rw [e, br_both]
    exact ⟨fun _ => hK _ (by simp [f7]), fun h2 => by simp at h2⟩
  have h : f42 (f49 a0, f49 a1) = 0 := by simpa using h
  have h1 : f49 a0 = 0 ∧ f49 a1 = 0 := by
    simp only [f42] at h
    split at h <;> simp_all
  have e : f48 (a0, a1) = (f50 (a0, a1), 0) := by simp [f48, h]
  have e2 : f48 (a0, a0) = ((0, 0, 0, 0), 0) := by simp [f48, f42, h1.1, f50, cl_same]
  rw [e, e2]
  rw [br_both]
  refine ⟨fun h => by simp at h, fun _ => ?_⟩
  rw [br_both]
  refine ⟨fun h => by simp at h, fun _ => ?_⟩
  rw [br_both]
  refine ⟨fun h => by simp at h, fun _ => ?_⟩
  rw [br_both]
  refine ⟨fun h => by simp at h, fun _ => ?_⟩
  refine LoopP.up 4 (fun i v => v.1 = (dbl a1).1 ∧ (0 < i → v.2.1 = (dbl a1).2.1) ∧ (1 < i → v.2.2.1 = (dbl a1).2.2.1) ∧ (2 < i → v.2.2.2.1 = (dbl a1).2.2.2.1) ∧ (3 < i → v.2.2.2.2.1 = (dbl a1).2.2.2.2)) (fun again i v hi0 hn hI hag => ?_) (by omega) ⟨rfl, by omega, by omega, by omega, by omega⟩
  obtain ⟨v1, v2, v3, v4, v5, u⟩ := v
  simp only at hI hag ⊢
  obtain ⟨rfl, g2, g3, g4, g5⟩ := hI
  rw [br_both]
  refine ⟨fun hi => ?_, fun hi => ?_⟩
  · simp only [decide_eq_true_eq] at hi
    simp only [br_false_, Bool.and_eq_true, decide_eq_true_eq]
    refine ⟨⟨hi0, hi⟩, ⟨hi0, hi⟩, ?_⟩
    rw [wr (by omega) (by omega)]
    refine hag _ hi ⟨rfl, fun _ => ?_, fun h => ?_, fun h => ?_, fun h => ?_⟩
    · by_cases e : i = 0
      · subst e; rfl
      · have : i.toNat ≠ 0 := by omega
        simpa [this] using g2 (by omega)
    · by_cases e : i = 1
      · subst e; rfl
      · have : i.toNat ≠ 1 := by omega
        simpa [this] using g3 (by omega)
    · by_cases e : i = 2
      · subst e; rfl
      · have : i.toNat ≠ 2 := by omega
        simpa [this] using g4 (by omega)
    · by_cases e : i = 3
      · subst e; rfl
      · have : i.toNat ≠ 3 := by omega
        simpa [this] using g5 (by omega)
  · simp only [decide_eq_false_iff_not] at hi
    have g2 := g2 (by omega)
    have g3 := g3 (by omega)
    have g4 := g4 (by omega)
    have g5 := g5 (by omega)
    subst g2 g3 g4 g5
    rw [show ((dbl a1).1, (dbl a1).2.1, (dbl a1).2.2.1, (dbl a1).2.2.2.1, (dbl a1).2.2.2.2) = dbl a1 from rfl, br_both]
    refine ⟨fun _ => hK _ (by simp [f7]), fun h3 => ?_⟩
    have h3 : f49 (dbl a1) = 0 := by simpa using h3
    have e3 : f48 (a0, dbl a1) = (f50 (a0, dbl a1), 0) := by simp [f48, f42, h1.1, h3]
    rw [e3]
    refine LoopP.up 4 (fun i v => True) (fun again i v hi0 hn hI hag => ?_) (by omega) trivial
    rw [br_both]
    refine ⟨fun hi => ?_, fun hi => hK _ (by simp [f7])⟩
    simp only [decide_eq_true_eq] at hi
    simp only [br_false_, Bool.and_eq_true, decide_eq_true_eq]
    refine ⟨⟨hi0, hi⟩, ⟨hi0, hi⟩, ?_⟩
    have hk : ∀ k, k < 4 → clAt a0 (dbl a1) k = IntKind.i64.wrap (2 * clAt a0 a1 k) := fun k hk => cl_dbl a0 a1 k hk
    rw [br_both]
    refine ⟨fun hne => ?_, fun _ => ?_⟩
    · exfalso
      have : i = 0 ∨ i = 1 ∨ i = 2 ∨ i = 3 := by omega
      rcases this with rfl | rfl | rfl | rfl <;> simp [f50, hk] at hne
    · rw [wr (by omega) (by omega)]
      exact hag () hi trivial
theorem f7_fn : f7_e.fn = f7 := rfl
theorem f7_ok : EntryOK Try.prog 7 f7_e := by
  refine entryF progOK (EnvOK.cons f16_ok (EnvOK.cons f42_ok (EnvOK.cons f48_ok (EnvOK.cons f49_ok (EnvOK.cons f50_ok (EnvOK.nil)))))) (A := f7_A) (d := 6) Try.func7 rfl rfl (fun _ _ => trivial) fun x hpre => ?_
  obtain ⟨a0, a1⟩ := x
  exact f7_t a0 a1 _ fun _ h => h.trans (congrFun f7_fn.symm _)
end Go.Proofs.Ytdhekhichomoiaa
end
