/- What functions of the program compute, each proved once, part 2. -/
import Derived.Test.YtdhekhichomoiaaPiC
import Derived.Test.YtdhekhichomoiaaFnA

section
namespace Go.Proofs.Ytdhekhichomoiaa
open Go Go.Pi Go.RowKit
set_option maxRecDepth 100000
set_option linter.unusedVariables false
set_option linter.unusedSimpArgs false

def f33 (l : List (Int × Int)) : Int × Int := if l.length = 0 then (0, 10) else if 48 < l.length then (0, 8) else match l.findIdx? (fun g => !f103 g) with
  | some i => ((i : Int), 2)
  | none => (0, 0)
def f33_e : Entry := { doms := [(false, (.sl (.pair (.int .i64) (.int .i64))))], cods := [(false, (.int .i64)), (false, (.int .i64))], pre := fun _ => True, fn := f33, uq := false, total := true }
def f33_E : Env := [(93, f93_e), (94, f94_e), (103, f103_e)]
def f33_A : Anns := { loops := [(1157426204821684224, { tms := [(0, .keep), (1, .keep), (7, .keep), (8, .data false (.int .i64))], obs := [(1103807643648, .keep)], fz := [] })], own := [] }
theorem f33_run (a0 : List (Int × Int)) (K : (Int × Int) → Prop) : runF Try.prog f33_E f33_A 6 Try.f33 f33_e.doms f33_e.cods a0 K =
    (br (lenOk (a0.length))
    (br (lenOk (a0.length))
    (br ((f93 ([(f94 ((decide (((a0.length) : Int) > 0)), 10)), (f94 ((decide (((a0.length) : Int) ≤ 48)), 8))] : List Int)) != 0)
    (K (0, (f93 ([(f94 ((decide (((a0.length) : Int) > 0)), 10)), (f94 ((decide (((a0.length) : Int) ≤ 48)), 8))] : List Int))))
    (br (lenOk (a0.length))
    (LoopP (V := Int × Unit) (fun again v => (fun (again1 : Int → Prop) (v1_0 : Int) =>
    br (decide (v1_0 < ((a0.length) : Int)))
    (br (decide (0 ≤ v1_0) && decide (v1_0 < ((a0.length) : Int)))
    (br (!(f103 (a0.getD v1_0.toNat (0, 0))))
    (br (decide (v1_0 ≥ 0))
    (K (v1_0, 2))
    (K (0, 0)))
    (again1 (IntKind.i64.wrap (v1_0 + 1))))
    False)
    (K (0, 0)))
    (fun v1_0 => again (v1_0, ())) v.1) (0, ()))
    True))
    True)
    True) := by kernel_rfl
theorem f33_t (a0 : List (Int × Int)) (K : (Int × Int) → Prop) (hK : ∀ y : Int × Int, y = f33 a0 → K y) : RunF Try.prog f33_E f33_A 6 Try.f33 f33_e.doms f33_e.cods a0 K := by
  refine ⟨?_⟩
  rw [f33_run a0 K]
  simp only [br_true_, lenOk_iff]
  simp only [br_both]
  intro hl _
  by_cases h0 : a0.length = 0
  · have e : f93 [f94 (decide ((a0.length : Int) > 0), 10), f94 (decide ((a0.length : Int) ≤ 48), 8)] = 10 := by simp [h0, f94, f93_cons]
    rw [e]
    exact ⟨fun _ => hK _ (by simp [f33, h0]), fun h => by simp at h⟩
  by_cases h1 : 48 < a0.length
  · have e : f93 [f94 (decide ((a0.length : Int) > 0), 10), f94 (decide ((a0.length : Int) ≤ 48), 8)] = 8 := by
      have : ¬ (a0.length : Int) ≤ 48 := by omega
      have h2 : 0 < a0.length := by omega
      simp [this, h2, f94, f93_cons, f93_nil]
    rw [e]
    exact ⟨fun _ => hK _ (by simp [f33, h0, h1]), fun h => by simp at h⟩
  have e : f93 [f94 (decide ((a0.length : Int) > 0), 10), f94 (decide ((a0.length : Int) ≤ 48), 8)] = 0 := by
    have : (a0.length : Int) ≤ 48 := by omega
    have h2 : 0 < a0.length := by omega
    simp [this, h2, f94, f93_cons, f93_nil]
  rw [e]
  refine ⟨fun h => by simp at h, fun _ _ => ?_⟩
  refine LoopP.up a0.length (fun i _ => ∀ x ∈ a0.take i.toNat, (!f103 x) = false) (fun again i v hi0 hn hI hag => ?_) (by omega) all_zero
  simp only [br_both, decide_eq_true_eq, decide_eq_false_iff_not, Bool.and_eq_true]
  refine ⟨fun hi => ⟨fun _ => ⟨fun hne => ⟨fun _ => ?_, fun hf => ?_⟩, fun he => ?_⟩, fun hf => ?_⟩, fun hi => ?_⟩
  · refine hK _ ?_
    rw [f33, if_neg h0, if_neg h1, findIdx_at hi0 hi hI hne]
    simp only
    rw [Int.toNat_of_nonneg hi0]
  · omega
  · rw [wr (by omega) (by omega)]
    exact hag () hi (all_step hi0 hi hI he)
  · simp at hf; omega
  · refine hK _ ?_
    rw [f33, if_neg h0, if_neg h1, findIdx_none (all_done hi hI)]
theorem f33_fn : f33_e.fn = f33 := rfl
theorem f33_ok : EntryOK Try.prog 33 f33_e := by
  refine entryF progOK (EnvOK.cons f93_ok (EnvOK.cons f94_ok (EnvOK.cons f103_ok (EnvOK.nil)))) (A := f33_A) (d := 6) Try.func33 rfl rfl (fun _ _ => trivial) fun x hpre => ?_
  exact f33_t x _ fun _ h => h.trans (congrFun f33_fn.symm _)
/-- A valid block. -/
theorem blk_ok {l : List (Int × Int)} (h : (f33 l).2 = 0) : 0 < l.length ∧ l.length ≤ 48 ∧ ∀ x ∈ l, -1000 ≤ x.1 ∧ x.1 ≤ 1000 ∧ -1000 ≤ x.2 ∧ x.2 ≤ 1000 := by
  unfold f33 at h
  split at h
  · simp at h
  · split at h
    · simp at h
    · split at h
      · simp at h
      · rename_i h0 h1 hf
        refine ⟨by omega, by omega, fun x hx => ?_⟩
        rw [List.findIdx?_eq_none_iff] at hf
        have := hf x hx
        simp only [Bool.not_eq_false', f103, szd, Bool.and_eq_true, decide_eq_true_eq] at this
        omega
end Go.Proofs.Ytdhekhichomoiaa
end

section
namespace Go.Proofs.Ytdhekhichomoiaa
open Go Go.Pi Go.RowKit
set_option maxRecDepth 100000
set_option linter.unusedVariables false
set_option linter.unusedSimpArgs false

def f97 (l : List (Int × Int)) : Int := (f33 l).2
def f97_e : Entry := { doms := [(false, (.sl (.pair (.int .i64) (.int .i64))))], cods := [(false, (.int .i64))], pre := fun _ => True, fn := f97, uq := false, total := true }
def f97_E : Env := [(33, f33_e)]
def f97_A : Anns := { loops := [], own := [] }
theorem f97_run (a0 : List (Int × Int)) (K : Int → Prop) : runF Try.prog f97_E f97_A 6 Try.f97 f97_e.doms f97_e.cods a0 K =
    (K ((f33 a0).2)) := by kernel_rfl
theorem f97_t (a0 : List (Int × Int)) (K : Int → Prop) (hK : ∀ y : Int, y = f97 a0 → K y) : RunF Try.prog f97_E f97_A 6 Try.f97 f97_e.doms f97_e.cods a0 K := by
  refine ⟨?_⟩
  rw [f97_run a0 K]
  exact hK _ (by rw [f97])
theorem f97_fn : f97_e.fn = f97 := rfl
theorem f97_ok : EntryOK Try.prog 97 f97_e := by
  refine entryF progOK (EnvOK.cons f33_ok (EnvOK.nil)) (A := f97_A) (d := 6) Try.func97 rfl rfl (fun _ _ => trivial) fun x hpre => ?_
  exact f97_t x _ fun _ h => h.trans (congrFun f97_fn.symm _)
end Go.Proofs.Ytdhekhichomoiaa
end

section
namespace Go.Proofs.Ytdhekhichomoiaa
open Go Go.Pi Go.RowKit
set_option maxRecDepth 100000
set_option linter.unusedVariables false
set_option linter.unusedSimpArgs false

def f98 (x : (Int × Int) × Int) : Int × Int := match (x.2.tmod 4).toNat with
  | 0 => x.1
  | 1 => (x.1.2, IntKind.i64.wrap (0 - x.1.1))
  | 2 => (IntKind.i64.wrap (0 - x.1.1), IntKind.i64.wrap (0 - x.1.2))
  | _ => (IntKind.i64.wrap (0 - x.1.2), x.1.1)
def f98_pre (x : (Int × Int) × Int) : Prop := 0 ≤ x.2
def f98_e : Entry := { doms := [(true, (.pair (.int .i64) (.int .i64))), (false, (.int .i64))], cods := [(true, (.pair (.int .i64) (.int .i64)))], pre := f98_pre, fn := f98, uq := false, total := false }
def f98_E : Env := []
def f98_A : Anns := { loops := [], own := [] }
theorem f98_run (a0 : Int × Int) (a1 : Int) (K : (Int × Int) → Prop) : runF Try.prog f98_E f98_A 6 Try.f98 f98_e.doms f98_e.cods (a0, a1) K =
    (br (decide (0 ≤ (a1.tmod 4)) && decide ((a1.tmod 4) < 4))
    (K (([a0, (a0.2, (IntKind.i64.wrap (0 - a0.1))), ((IntKind.i64.wrap (0 - a0.1)), (IntKind.i64.wrap (0 - a0.2))), ((IntKind.i64.wrap (0 - a0.2)), a0.1)] : List (Int × Int)).getD ((a1.tmod 4).toNat) (0, 0)))
    False) := by kernel_rfl
theorem f98_t (a0 : Int × Int) (a1 : Int) (hpre : f98_pre (a0, a1)) (K : (Int × Int) → Prop) (hK : ∀ y : Int × Int, y = f98 (a0, a1) → K y) : RunF Try.prog f98_E f98_A 6 Try.f98 f98_e.doms f98_e.cods (a0, a1) K := by
  refine ⟨?_⟩
  rw [f98_run a0 a1 K]
  have h0 : 0 ≤ a1 := hpre
  have h1 : 0 ≤ a1.tmod 4 := Int.tmod_nonneg 4 h0
  have h2 : a1.tmod 4 < 4 := Int.tmod_lt_of_pos a1 (by omega)
  simp only [br_false_, Bool.and_eq_true, decide_eq_true_eq]
  refine ⟨⟨h1, h2⟩, ?_⟩
  refine hK _ ?_
  unfold f98
  simp only
  generalize h : (a1.tmod 4).toNat = n
  have : n < 4 := by omega
  match n, this with
  | 0, _ => rfl
  | 1, _ => rfl
  | 2, _ => rfl
  | 3, _ => rfl
theorem f98_fn : f98_e.fn = f98 := rfl
theorem f98_ok : EntryOK Try.prog 98 f98_e := by
  refine entryF progOK (EnvOK.nil) (A := f98_A) (d := 6) Try.func98 rfl rfl (fun h => by cases h) fun x hpre => ?_
  obtain ⟨a0, a1⟩ := x
  exact f98_t a0 a1 hpre _ fun _ h => h.trans (congrFun f98_fn.symm _)
end Go.Proofs.Ytdhekhichomoiaa
end

section
namespace Go.Proofs.Ytdhekhichomoiaa
open Go Go.Pi Go.RowKit
set_option maxRecDepth 100000
set_option linter.unusedVariables false
set_option linter.unusedSimpArgs false

def f105 (n : Int) : Bool := decide (0 ≤ n) && decide (n ≤ 100)
def f105_e : Entry := { doms := [(false, (.int .i64))], cods := [(false, .bool)], pre := fun _ => True, fn := f105, uq := false, total := true }
def f105_E : Env := [(95, f95_e)]
def f105_A : Anns := { loops := [], own := [] }
theorem f105_run (a0 : Int) (K : Bool → Prop) : runF Try.prog f105_E f105_A 6 Try.f105 f105_e.doms f105_e.cods a0 K =
    (K (f95 (a0, (0, 100)))) := by kernel_rfl
theorem f105_t (a0 : Int) (K : Bool → Prop) (hK : ∀ y : Bool, y = f105 a0 → K y) : RunF Try.prog f105_E f105_A 6 Try.f105 f105_e.doms f105_e.cods a0 K := by
  refine ⟨?_⟩
  rw [f105_run a0 K]
  exact hK _ (by simp [f105, f95])
theorem f105_fn : f105_e.fn = f105 := rfl
theorem f105_ok : EntryOK Try.prog 105 f105_e := by
  refine entryF progOK (EnvOK.cons f95_ok (EnvOK.nil)) (A := f105_A) (d := 6) Try.func105 rfl rfl (fun _ _ => trivial) fun x hpre => ?_
  exact f105_t x _ fun _ h => h.trans (congrFun f105_fn.symm _)
end Go.Proofs.Ytdhekhichomoiaa
end

section
namespace Go.Proofs.Ytdhekhichomoiaa
open Go Go.Pi Go.RowKit
set_option maxRecDepth 100000
set_option linter.unusedVariables false
set_option linter.unusedSimpArgs false

def f34 (g : Int × Int × Int × List Int) : Int × Int :=
  if ¬ ((0 ≤ g.1 ∧ g.1 ≤ 48) ∧ (1 ≤ g.2.1 ∧ g.2.1 ≤ 48) ∧ (1 ≤ g.2.2.1 ∧ g.2.2.1 ≤ 20)) then (0, 2)
  else if g.2.2.2.length = 0 then (0, 10) else if 16 < g.2.2.2.length then (0, 8) else match g.2.2.2.findIdx? (fun n => !f105 n) with
  | some i => ((i : Int), 2)
  | none => (0, 0)
def f34_e : Entry := { doms := [(true, (.pair (.int .i64) (.pair (.int .i64) (.pair (.int .i64) (.sl (.int .i64))))))], cods := [(false, (.int .i64)), (false, (.int .i64))], pre := fun _ => True, fn := f34, uq := false, total := true }
def f34_E : Env := [(93, f93_e), (94, f94_e), (95, f95_e), (105, f105_e)]
def f34_A : Anns := { loops := [(1157427304333312000, { tms := [(0, .keep), (1, .keep), (7, .keep), (8, .data false (.int .i64))], obs := [(1048576, .keep), (1103808692224, .keep)], fz := [] })], own := [] }
theorem f34_run (a0 : Int × Int × Int × List Int) (K : (Int × Int) → Prop) : runF Try.prog f34_E f34_A 6 Try.f34 f34_e.doms f34_e.cods a0 K =
    (br (f95 (a0.1, (0, 48)))
    (br (f95 (a0.2.1, (1, 48)))
    (br (lenOk (a0.2.2.2.length))
    (br (lenOk (a0.2.2.2.length))
    (br ((f93 ([(f94 ((f95 (a0.2.2.1, (1, 20))), 2)), (f94 ((decide (((a0.2.2.2.length) : Int) > 0)), 10)), (f94 ((decide (((a0.2.2.2.length) : Int) ≤ 16)), 8))] : List Int)) != 0)
    (K (0, (f93 ([(f94 ((f95 (a0.2.2.1, (1, 20))), 2)), (f94 ((decide (((a0.2.2.2.length) : Int) > 0)), 10)), (f94 ((decide (((a0.2.2.2.length) : Int) ≤ 16)), 8))] : List Int))))
    (br (lenOk (a0.2.2.2.length))
    (LoopP (V := Int × Unit) (fun again v => (fun (again1 : Int → Prop) (v1_0 : Int) =>
    br (decide (v1_0 < ((a0.2.2.2.length) : Int)))
    (br (decide (0 ≤ v1_0) && decide (v1_0 < ((a0.2.2.2.length) : Int)))
    (br (!(f105 (a0.2.2.2.getD v1_0.toNat 0)))
    (br (decide (v1_0 ≥ 0))
    (K (v1_0, 2))
    (K (0, 0)))
    (again1 (IntKind.i64.wrap (v1_0 + 1))))
    False)
    (K (0, 0)))
    (fun v1_0 => again (v1_0, ())) v.1) (0, ()))
    True))
    True)
    True)
    (br (lenOk (a0.2.2.2.length))
    (br (lenOk (a0.2.2.2.length))
    (br ((f93 ([(f94 (false, 2)), (f94 ((decide (((a0.2.2.2.length) : Int) > 0)), 10)), (f94 ((decide (((a0.2.2.2.length) : Int) ≤ 16)), 8))] : List Int)) != 0)
    (K (0, (f93 ([(f94 (false, 2)), (f94 ((decide (((a0.2.2.2.length) : Int) > 0)), 10)), (f94 ((decide (((a0.2.2.2.length) : Int) ≤ 16)), 8))] : List Int))))
    (br (lenOk (a0.2.2.2.length))
    (LoopP (V := Int × Unit) (fun again v => (fun (again2 : Int → Prop) (v2_0 : Int) =>
    br (decide (v2_0 < ((a0.2.2.2.length) : Int)))
    (br (decide (0 ≤ v2_0) && decide (v2_0 < ((a0.2.2.2.length) : Int)))
    (br (!(f105 (a0.2.2.2.getD v2_0.toNat 0)))
    (br (decide (v2_0 ≥ 0))
    (K (v2_0, 2))
    (K (0, 0)))
    (again2 (IntKind.i64.wrap (v2_0 + 1))))
    False)
    (K (0, 0)))
    (fun v2_0 => again (v2_0, ())) v.1) (0, ()))
    True))
    True)
    True))
    (br (lenOk (a0.2.2.2.length))
    (br (lenOk (a0.2.2.2.length))
    (br ((f93 ([(f94 (false, 2)), (f94 ((decide (((a0.2.2.2.length) : Int) > 0)), 10)), (f94 ((decide (((a0.2.2.2.length) : Int) ≤ 16)), 8))] : List Int)) != 0)
    (K (0, (f93 ([(f94 (false, 2)), (f94 ((decide (((a0.2.2.2.length) : Int) > 0)), 10)), (f94 ((decide (((a0.2.2.2.length) : Int) ≤ 16)), 8))] : List Int))))
    (br (lenOk (a0.2.2.2.length))
    (LoopP (V := Int × Unit) (fun again v => (fun (again3 : Int → Prop) (v3_0 : Int) =>
    br (decide (v3_0 < ((a0.2.2.2.length) : Int)))
    (br (decide (0 ≤ v3_0) && decide (v3_0 < ((a0.2.2.2.length) : Int)))
    (br (!(f105 (a0.2.2.2.getD v3_0.toNat 0)))
    (br (decide (v3_0 ≥ 0))
    (K (v3_0, 2))
    (K (0, 0)))
    (again3 (IntKind.i64.wrap (v3_0 + 1))))
    False)
    (K (0, 0)))
    (fun v3_0 => again (v3_0, ())) v.1) (0, ()))
    True))
    True)
    True)) := by kernel_rfl
theorem f34_t (a0 : Int × Int × Int × List Int) (K : (Int × Int) → Prop) (hK : ∀ y : Int × Int, y = f34 a0 → K y) : RunF Try.prog f34_E f34_A 6 Try.f34 f34_e.doms f34_e.cods a0 K := by
  refine ⟨?_⟩
  rw [f34_run a0 K]
  simp only [br_true_, lenOk_iff]
  simp only [br_both]
  have bad : ∀ a b, f93 [f94 (false, 2), a, b] = 2 := fun a b => by simp [f94, f93_cons]
  simp only [bad]
  refine ⟨fun h1 => ⟨fun h2 => fun hl _ => ?_, fun h2 => fun hl _ => ⟨fun _ => ?_, fun h => by simp at h⟩⟩, fun h1 => fun hl _ => ⟨fun _ => ?_, fun h => by simp at h⟩⟩
  · simp only [f95, Bool.and_eq_true, decide_eq_true_eq] at h1 h2
    by_cases h3 : 1 ≤ a0.2.2.1 ∧ a0.2.2.1 ≤ 20
    · by_cases h4 : a0.2.2.2.length = 0
      · have e : f93 [f94 (f95 (a0.2.2.1, 1, 20), 2), f94 (decide ((a0.2.2.2.length : Int) > 0), 10), f94 (decide ((a0.2.2.2.length : Int) ≤ 16), 8)] = 10 := by simp [h3, h4, f95, f94, f93_cons]
        rw [e]
        exact ⟨fun _ => hK _ (by simp [f34, h1, h2, h3, h4]), fun h => by simp at h⟩
      by_cases h5 : 16 < a0.2.2.2.length
      · have e : f93 [f94 (f95 (a0.2.2.1, 1, 20), 2), f94 (decide ((a0.2.2.2.length : Int) > 0), 10), f94 (decide ((a0.2.2.2.length : Int) ≤ 16), 8)] = 8 := by
          have : ¬ (a0.2.2.2.length : Int) ≤ 16 := by omega
          have h6 : 0 < a0.2.2.2.length := by omega
          simp [h3, this, h6, f95, f94, f93_cons]
        rw [e]
        exact ⟨fun _ => hK _ (by simp [f34, h1, h2, h3, h4, h5]), fun h => by simp at h⟩
      have e : f93 [f94 (f95 (a0.2.2.1, 1, 20), 2), f94 (decide ((a0.2.2.2.length : Int) > 0), 10), f94 (decide ((a0.2.2.2.length : Int) ≤ 16), 8)] = 0 := by
        have : (a0.2.2.2.length : Int) ≤ 16 := by omega
        have h6 : 0 < a0.2.2.2.length := by omega
        simp [h3, this, h6, f95, f94, f93_cons, f93_nil]
      rw [e]
      refine ⟨fun h => by simp at h, fun _ _ => ?_⟩
      have hc : ¬ ¬ ((0 ≤ a0.1 ∧ a0.1 ≤ 48) ∧ (1 ≤ a0.2.1 ∧ a0.2.1 ≤ 48) ∧ (1 ≤ a0.2.2.1 ∧ a0.2.2.1 ≤ 20)) := not_not_intro ⟨h1, h2, h3⟩
      refine LoopP.up a0.2.2.2.length (fun i _ => ∀ x ∈ a0.2.2.2.take i.toNat, (!f105 x) = false) (fun again i v hi0 hn hI hag => ?_) (by omega) all_zero
      simp only [br_both, decide_eq_true_eq, decide_eq_false_iff_not, Bool.and_eq_true]
      refine ⟨fun hi => ⟨fun _ => ⟨fun hne => ⟨fun _ => ?_, fun hf => ?_⟩, fun he => ?_⟩, fun hf => ?_⟩, fun hi => ?_⟩
      · refine hK _ ?_
        rw [f34, if_neg hc, if_neg h4, if_neg h5, findIdx_at hi0 hi hI hne]
        simp only
        rw [Int.toNat_of_nonneg hi0]
      · omega
      · rw [wr (by omega) (by omega)]
        exact hag () hi (all_step hi0 hi hI he)
      · simp at hf; omega
      · refine hK _ ?_
        rw [f34, if_neg hc, if_neg h4, if_neg h5, findIdx_none (all_done hi hI)]
    · have e : ∀ a b, f93 [f94 (f95 (a0.2.2.1, 1, 20), 2), a, b] = 2 := fun a b => by
        have : f95 (a0.2.2.1, 1, 20) = false := by simp [f95]; omega
        rw [this, bad]
      rw [e]
      exact ⟨fun _ => hK _ (by rw [f34, if_pos fun h => h3 h.2.2]), fun h => by simp at h⟩
  · exact hK _ (by rw [f34, if_pos fun h => by simp [f95, h.2.1] at h2])
  · exact hK _ (by rw [f34, if_pos fun h => by simp [f95, h.1] at h1])
theorem f34_fn : f34_e.fn = f34 := rfl
theorem f34_ok : EntryOK Try.prog 34 f34_e := by
  refine entryF progOK (EnvOK.cons f93_ok (EnvOK.cons f94_ok (EnvOK.cons f95_ok (EnvOK.cons f105_ok (EnvOK.nil))))) (A := f34_A) (d := 6) Try.func34 rfl rfl (fun _ _ => trivial) fun x hpre => ?_
  exact f34_t x _ fun _ h => h.trans (congrFun f34_fn.symm _)
end Go.Proofs.Ytdhekhichomoiaa
end

section
namespace Go.Proofs.Ytdhekhichomoiaa
open Go Go.Pi Go.RowKit
set_option maxRecDepth 100000
set_option linter.unusedVariables false
set_option linter.unusedSimpArgs false

def f106 (g : Int × Int × Int × List Int) : Int := (f34 g).2
def f106_e : Entry := { doms := [(true, (.pair (.int .i64) (.pair (.int .i64) (.pair (.int .i64) (.sl (.int .i64))))))], cods := [(false, (.int .i64))], pre := fun _ => True, fn := f106, uq := false, total := true }
def f106_E : Env := [(34, f34_e)]
def f106_A : Anns := { loops := [], own := [] }
theorem f106_run (a0 : Int × Int × Int × List Int) (K : Int → Prop) : runF Try.prog f106_E f106_A 6 Try.f106 f106_e.doms f106_e.cods a0 K =
    (K ((f34 a0).2)) := by kernel_rfl
theorem f106_t (a0 : Int × Int × Int × List Int) (K : Int → Prop) (hK : ∀ y : Int, y = f106 a0 → K y) : RunF Try.prog f106_E f106_A 6 Try.f106 f106_e.doms f106_e.cods a0 K := by
  refine ⟨?_⟩
  rw [f106_run a0 K]
  exact hK _ (by rw [f106])
theorem f106_fn : f106_e.fn = f106 := rfl
theorem f106_ok : EntryOK Try.prog 106 f106_e := by
  refine entryF progOK (EnvOK.cons f34_ok (EnvOK.nil)) (A := f106_A) (d := 6) Try.func106 rfl rfl (fun _ _ => trivial) fun x hpre => ?_
  exact f106_t x _ fun _ h => h.trans (congrFun f106_fn.symm _)
end Go.Proofs.Ytdhekhichomoiaa
end

section
namespace Go.Proofs.Ytdhekhichomoiaa
open Go Go.Pi Go.RowKit
set_option maxRecDepth 100000
set_option linter.unusedVariables false
set_option linter.unusedSimpArgs false

def f107 (x : (Int × Int × Int × List Int) × Int) : Int := f94 (f95 (x.2, 0, IntKind.i64.wrap (x.1.2.2.1 - 1)), 6)
def f107_e : Entry := { doms := [(true, (.pair (.int .i64) (.pair (.int .i64) (.pair (.int .i64) (.sl (.int .i64)))))), (false, (.int .i64))], cods := [(false, (.int .i64))], pre := fun _ => True, fn := f107, uq := false, total := true }
def f107_E : Env := [(94, f94_e), (95, f95_e)]
def f107_A : Anns := { loops := [], own := [] }
theorem f107_run (a0 : Int × Int × Int × List Int) (a1 : Int) (K : Int → Prop) : runF Try.prog f107_E f107_A 6 Try.f107 f107_e.doms f107_e.cods (a0, a1) K =
    (K (f94 ((f95 (a1, (0, (IntKind.i64.wrap (a0.2.2.1 - 1))))), 6))) := by kernel_rfl
theorem f107_t (a0 : Int × Int × Int × List Int) (a1 : Int) (K : Int → Prop) (hK : ∀ y : Int, y = f107 (a0, a1) → K y) : RunF Try.prog f107_E f107_A 6 Try.f107 f107_e.doms f107_e.cods (a0, a1) K := by
  refine ⟨?_⟩
  rw [f107_run a0 a1 K]
  exact hK _ (by simp only [f107])
theorem f107_fn : f107_e.fn = f107 := rfl
theorem f107_ok : EntryOK Try.prog 107 f107_e := by
  refine entryF progOK (EnvOK.cons f94_ok (EnvOK.cons f95_ok (EnvOK.nil))) (A := f107_A) (d := 6) Try.func107 rfl rfl (fun _ _ => trivial) fun x hpre => ?_
  obtain ⟨a0, a1⟩ := x
  exact f107_t a0 a1 _ fun _ h => h.trans (congrFun f107_fn.symm _)
end Go.Proofs.Ytdhekhichomoiaa
end

section
namespace Go.Proofs.Ytdhekhichomoiaa
open Go Go.Pi Go.RowKit
set_option maxRecDepth 100000
set_option linter.unusedVariables false
set_option linter.unusedSimpArgs false

def f110 (x : (Int × Int × Int × List Int) × Int) : Int := IntKind.i64.wrap (x.1.1 + IntKind.i64.wrap (x.2 * x.1.2.1))
def f110_e : Entry := { doms := [(true, (.pair (.int .i64) (.pair (.int .i64) (.pair (.int .i64) (.sl (.int .i64)))))), (false, (.int .i64))], cods := [(false, (.int .i64))], pre := fun _ => True, fn := f110, uq := false, total := true }
def f110_E : Env := []
def f110_A : Anns := { loops := [], own := [] }
theorem f110_run (a0 : Int × Int × Int × List Int) (a1 : Int) (K : Int → Prop) : runF Try.prog f110_E f110_A 6 Try.f110 f110_e.doms f110_e.cods (a0, a1) K =
    (K (IntKind.i64.wrap (a0.1 + (IntKind.i64.wrap (a1 * a0.2.1))))) := by kernel_rfl
theorem f110_t (a0 : Int × Int × Int × List Int) (a1 : Int) (K : Int → Prop) (hK : ∀ y : Int, y = f110 (a0, a1) → K y) : RunF Try.prog f110_E f110_A 6 Try.f110 f110_e.doms f110_e.cods (a0, a1) K := by
  refine ⟨?_⟩
  rw [f110_run a0 a1 K]
  exact hK _ (by simp only [f110])
theorem f110_fn : f110_e.fn = f110 := rfl
theorem f110_ok : EntryOK Try.prog 110 f110_e := by
  refine entryF progOK (EnvOK.nil) (A := f110_A) (d := 6) Try.func110 rfl rfl (fun _ _ => trivial) fun x hpre => ?_
  obtain ⟨a0, a1⟩ := x
  exact f110_t a0 a1 _ fun _ h => h.trans (congrFun f110_fn.symm _)
end Go.Proofs.Ytdhekhichomoiaa
end

section
namespace Go.Proofs.Ytdhekhichomoiaa
open Go Go.Pi Go.RowKit
set_option maxRecDepth 100000
set_option linter.unusedVariables false
set_option linter.unusedSimpArgs false

def f108 (x : (Int × Int × Int × List Int) × List (Int × Int) × Int) : Bool := decide (IntKind.i64.wrap (f110 (x.1, x.2.2) + (x.1.2.2.2.length : Int)) ≤ (x.2.1.length : Int))
def f108_e : Entry := { doms := [(true, (.pair (.int .i64) (.pair (.int .i64) (.pair (.int .i64) (.sl (.int .i64)))))), (false, (.sl (.pair (.int .i64) (.int .i64)))), (false, (.int .i64))], cods := [(false, .bool)], pre := fun _ => True, fn := f108, uq := false, total := true }
def f108_E : Env := [(110, f110_e)]
def f108_A : Anns := { loops := [], own := [] }
theorem f108_run (a0 : Int × Int × Int × List Int) (a1 : List (Int × Int)) (a2 : Int) (K : Bool → Prop) : runF Try.prog f108_E f108_A 6 Try.f108 f108_e.doms f108_e.cods (a0, a1, a2) K =
    (br (lenOk (a0.2.2.2.length))
    (br (lenOk (a1.length))
    (K (decide ((IntKind.i64.wrap ((f110 (a0, a2)) + ((a0.2.2.2.length) : Int))) ≤ ((a1.length) : Int))))
    True)
    True) := by kernel_rfl
theorem f108_t (a0 : Int × Int × Int × List Int) (a1 : List (Int × Int)) (a2 : Int) (K : Bool → Prop) (hK : ∀ y : Bool, y = f108 (a0, a1, a2) → K y) : RunF Try.prog f108_E f108_A 6 Try.f108 f108_e.doms f108_e.cods (a0, a1, a2) K := by
  refine ⟨?_⟩
  rw [f108_run a0 a1 a2 K]
  rw [br_true_]
  intro _
  rw [br_true_]
  intro _
  exact hK _ (by simp only [f108])
theorem f108_fn : f108_e.fn = f108 := rfl
theorem f108_ok : EntryOK Try.prog 108 f108_e := by
  refine entryF progOK (EnvOK.cons f110_ok (EnvOK.nil)) (A := f108_A) (d := 6) Try.func108 rfl rfl (fun _ _ => trivial) fun x hpre => ?_
  obtain ⟨a0, a1, a2⟩ := x
  exact f108_t a0 a1 a2 _ fun _ h => h.trans (congrFun f108_fn.symm _)
end Go.Proofs.Ytdhekhichomoiaa
end

section
namespace Go.Proofs.Ytdhekhichomoiaa
open Go Go.Pi Go.RowKit
set_option maxRecDepth 100000
set_option linter.unusedVariables false
set_option linter.unusedSimpArgs false

def f126 (x : (Int × Int) × (Int × Int)) : Int × Int := (IntKind.i64.wrap (x.1.1 + x.2.1), IntKind.i64.wrap (x.1.2 + x.2.2))
def f126_e : Entry := { doms := [(true, (.pair (.int .i64) (.int .i64))), (true, (.pair (.int .i64) (.int .i64)))], cods := [(true, (.pair (.int .i64) (.int .i64)))], pre := fun _ => True, fn := f126, uq := false, total := true }
def f126_E : Env := []
def f126_A : Anns := { loops := [], own := [] }
theorem f126_run (a0 : Int × Int) (a1 : Int × Int) (K : (Int × Int) → Prop) : runF Try.prog f126_E f126_A 6 Try.f126 f126_e.doms f126_e.cods (a0, a1) K =
    (K ((IntKind.i64.wrap (a0.1 + a1.1)), (IntKind.i64.wrap (a0.2 + a1.2)))) := by kernel_rfl
theorem f126_t (a0 : Int × Int) (a1 : Int × Int) (K : (Int × Int) → Prop) (hK : ∀ y : Int × Int, y = f126 (a0, a1) → K y) : RunF Try.prog f126_E f126_A 6 Try.f126 f126_e.doms f126_e.cods (a0, a1) K := by
  refine ⟨?_⟩
  rw [f126_run a0 a1 K]
  exact hK _ (by simp only [f126])
theorem f126_fn : f126_e.fn = f126 := rfl
theorem f126_ok : EntryOK Try.prog 126 f126_e := by
  refine entryF progOK (EnvOK.nil) (A := f126_A) (d := 6) Try.func126 rfl rfl (fun _ _ => trivial) fun x hpre => ?_
  obtain ⟨a0, a1⟩ := x
  exact f126_t a0 a1 _ fun _ h => h.trans (congrFun f126_fn.symm _)
end Go.Proofs.Ytdhekhichomoiaa
end

section
namespace Go.Proofs.Ytdhekhichomoiaa
open Go Go.Pi Go.RowKit
set_option maxRecDepth 100000
set_option linter.unusedVariables false
set_option linter.unusedSimpArgs false

def f127 (x : (Int × Int) × (Int × Int)) : Int × Int := (IntKind.i64.wrap (IntKind.i64.wrap (x.1.1 * x.2.1) + IntKind.i64.wrap (x.1.2 * x.2.2)), IntKind.i64.wrap (IntKind.i64.wrap (x.1.1 * x.2.2) - IntKind.i64.wrap (x.1.2 * x.2.1)))
def f127_e : Entry := { doms := [(true, (.pair (.int .i64) (.int .i64))), (true, (.pair (.int .i64) (.int .i64)))], cods := [(true, (.pair (.int .i64) (.int .i64)))], pre := fun _ => True, fn := f127, uq := false, total := true }
def f127_E : Env := []
def f127_A : Anns := { loops := [], own := [] }
theorem f127_run (a0 : Int × Int) (a1 : Int × Int) (K : (Int × Int) → Prop) : runF Try.prog f127_E f127_A 6 Try.f127 f127_e.doms f127_e.cods (a0, a1) K =
    (K ((IntKind.i64.wrap ((IntKind.i64.wrap (a0.1 * a1.1)) + (IntKind.i64.wrap (a0.2 * a1.2)))), (IntKind.i64.wrap ((IntKind.i64.wrap (a0.1 * a1.2)) - (IntKind.i64.wrap (a0.2 * a1.1)))))) := by kernel_rfl
theorem f127_t (a0 : Int × Int) (a1 : Int × Int) (K : (Int × Int) → Prop) (hK : ∀ y : Int × Int, y = f127 (a0, a1) → K y) : RunF Try.prog f127_E f127_A 6 Try.f127 f127_e.doms f127_e.cods (a0, a1) K := by
  refine ⟨?_⟩
  rw [f127_run a0 a1 K]
  exact hK _ (by simp only [f127])
theorem f127_fn : f127_e.fn = f127 := rfl
theorem f127_ok : EntryOK Try.prog 127 f127_e := by
  refine entryF progOK (EnvOK.nil) (A := f127_A) (d := 6) Try.func127 rfl rfl (fun _ _ => trivial) fun x hpre => ?_
  obtain ⟨a0, a1⟩ := x
  exact f127_t a0 a1 _ fun _ h => h.trans (congrFun f127_fn.symm _)
end Go.Proofs.Ytdhekhichomoiaa
end

section
namespace Go.Proofs.Ytdhekhichomoiaa
open Go Go.Pi Go.RowKit
set_option maxRecDepth 100000
set_option linter.unusedVariables false
set_option linter.unusedSimpArgs false

def f118 (x : Int × Int) : Int := IntKind.i64.wrap (IntKind.i64.wrap (x.1 * x.1) + IntKind.i64.wrap (x.2 * x.2))
def f118_e : Entry := { doms := [(true, (.pair (.int .i64) (.int .i64)))], cods := [(false, (.int .i64))], pre := fun _ => True, fn := f118, uq := false, total := true }
def f118_E : Env := []
def f118_A : Anns := { loops := [], own := [] }
theorem f118_run (a0 : Int × Int) (K : Int → Prop) : runF Try.prog f118_E f118_A 6 Try.f118 f118_e.doms f118_e.cods a0 K =
    (K (IntKind.i64.wrap ((IntKind.i64.wrap (a0.1 * a0.1)) + (IntKind.i64.wrap (a0.2 * a0.2))))) := by kernel_rfl
theorem f118_t (a0 : Int × Int) (K : Int → Prop) (hK : ∀ y : Int, y = f118 a0 → K y) : RunF Try.prog f118_E f118_A 6 Try.f118 f118_e.doms f118_e.cods a0 K := by
  refine ⟨?_⟩
  rw [f118_run a0 K]
  exact hK _ (by simp only [f118])
theorem f118_fn : f118_e.fn = f118 := rfl
theorem f118_ok : EntryOK Try.prog 118 f118_e := by
  refine entryF progOK (EnvOK.nil) (A := f118_A) (d := 6) Try.func118 rfl rfl (fun _ _ => trivial) fun x hpre => ?_
  exact f118_t x _ fun _ h => h.trans (congrFun f118_fn.symm _)
end Go.Proofs.Ytdhekhichomoiaa
end

section
namespace Go.Proofs.Ytdhekhichomoiaa
open Go Go.Pi Go.RowKit
set_option maxRecDepth 100000
set_option linter.unusedVariables false
set_option linter.unusedSimpArgs false

def f16 (x : Unit) : Bool := true
def f16_e : Entry := { doms := [], cods := [(false, .bool)], pre := fun _ => True, fn := f16, uq := false, total := true }
def sM (r : Nat) : Nat := (1053698 * 1099511627776 + r) * 1048576 + 7169
def f16_E : Env := [(92, f92_e), (96, f96_e), (93, f93_e), (94, f94_e), (95, f95_e), (97, f97_e), (98, f98_e), (106, f106_e), (107, f107_e), (108, f108_e), (110, f110_e), (126, f126_e), (127, f127_e), (118, f118_e)]
def f16_A : Anns := { loops := [], own := [sM 1, sM 2, sM 3], unroll := 100 }
theorem f16_run (K : Bool → Prop) : runF Try.prog f16_E f16_A 30 Try.f16 f16_e.doms f16_e.cods () K = ((0 : Int) ≤ 0 ∧ (0 : Int) ≤ 0 ∧ (0 : Int) ≤ 0 ∧ (0 : Int) ≤ 0 ∧ (0 : Int) ≤ 1 ∧ (0 : Int) ≤ 2 ∧ (0 : Int) ≤ 0 ∧ (0 : Int) ≤ 2 ∧ (0 : Int) ≤ 4 ∧ (0 : Int) ≤ 0 ∧ (0 : Int) ≤ 3 ∧ (0 : Int) ≤ 6 ∧ (0 < 2 ∧ 2 ≤ 1073741824) ∧ (0 < 2 ∧ 2 ≤ 1048576) ∧ (0 < 2 ∧ 2 ≤ 1073741824) ∧ (0 < 2 ∧ 2 ≤ 1048576) ∧ (0 < 2 ∧ 2 ≤ 1073741824) ∧ (0 < 2 ∧ 2 ≤ 1048576) ∧ K true) := by kernel_rfl
theorem f16_t (K : Bool → Prop) (hK : ∀ y : Bool, y = f16 () → K y) : RunF Try.prog f16_E f16_A 30 Try.f16 f16_e.doms f16_e.cods () K := by
  refine ⟨?_⟩
  rw [f16_run K]
  refine ⟨by decide, by decide, by decide, by decide, by decide, by decide, by decide, by decide, by decide, by decide, by decide, by decide, by decide, by decide, by decide, by decide, by decide, by decide, hK _ rfl⟩
theorem f16_fn : f16_e.fn = f16 := rfl
theorem f16_ok : EntryOK Try.prog 16 f16_e := by
  refine entryF progOK (EnvOK.cons f92_ok (EnvOK.cons f96_ok (EnvOK.cons f93_ok (EnvOK.cons f94_ok (EnvOK.cons f95_ok (EnvOK.cons f97_ok (EnvOK.cons f98_ok (EnvOK.cons f106_ok (EnvOK.cons f107_ok (EnvOK.cons f108_ok (EnvOK.cons f110_ok (EnvOK.cons f126_ok (EnvOK.cons f127_ok (EnvOK.cons f118_ok EnvOK.nil)))))))))))))) (A := f16_A) (d := 30) Try.func16 rfl rfl (fun _ _ => trivial) fun x hpre => ?_
  exact f16_t _ fun _ h => h.trans (congrFun f16_fn.symm _)
end Go.Proofs.Ytdhekhichomoiaa
end

section
namespace Go.Proofs.Ytdhekhichomoiaa
open Go Go.Pi Go.RowKit
set_option maxRecDepth 100000
set_option linter.unusedVariables false
set_option linter.unusedSimpArgs false

def f18 (x : Int × Int × Int) : Bool := decide (x.2.1 ≤ x.1) && decide (x.1 ≤ x.2.2)
def f18_e : Entry := { doms := [(false, (.int .i64)), (false, (.int .i64)), (false, (.int .i64))], cods := [(false, .bool)], pre := fun _ => True, fn := f18, uq := false, total := true }
def f18_E : Env := []
def f18_A : Anns := { loops := [], own := [] }
theorem f18_run (a0 : Int) (a1 : Int) (a2 : Int) (K : Bool → Prop) : runF Try.prog f18_E f18_A 6 Try.f18 f18_e.doms f18_e.cods (a0, a1, a2) K =
    (br (decide (a1 ≤ a0))
    (K (decide (a0 ≤ a2)))
    (K false)) := by kernel_rfl
theorem f18_t (a0 : Int) (a1 : Int) (a2 : Int) (K : Bool → Prop) (hK : ∀ y : Bool, y = f18 (a0, a1, a2) → K y) : RunF Try.prog f18_E f18_A 6 Try.f18 f18_e.doms f18_e.cods (a0, a1, a2) K := by
  refine ⟨?_⟩
  rw [f18_run a0 a1 a2 K]
  rw [br_dec]
  exact ⟨fun h => hK _ (by simp [f18, h]), fun h => hK _ (by simp [f18, h])⟩
theorem f18_fn : f18_e.fn = f18 := rfl
theorem f18_ok : EntryOK Try.prog 18 f18_e := by
  refine entryF progOK (EnvOK.nil) (A := f18_A) (d := 6) Try.func18 rfl rfl (fun _ _ => trivial) fun x hpre => ?_
  obtain ⟨a0, a1, a2⟩ := x
  exact f18_t a0 a1 a2 _ fun _ h => h.trans (congrFun f18_fn.symm _)
end Go.Proofs.Ytdhekhichomoiaa
end

section
namespace Go.Proofs.Ytdhekhichomoiaa
open Go Go.Pi Go.RowKit
set_option maxRecDepth 100000
set_option linter.unusedVariables false
set_option linter.unusedSimpArgs false

def f42 (x : Int × Int) : Int := if x.1 ≠ 0 then x.1 else x.2
def f42_e : Entry := { doms := [(false, (.int .i64)), (false, (.int .i64))], cods := [(false, (.int .i64))], pre := fun _ => True, fn := f42, uq := false, total := true }
def f42_E : Env := []
def f42_A : Anns := { loops := [], own := [] }
theorem f42_run (a0 : Int) (a1 : Int) (K : Int → Prop) : runF Try.prog f42_E f42_A 6 Try.f42 f42_e.doms f42_e.cods (a0, a1) K =
    (br (a0 != 0)
    (K a0)
    (K a1)) := by kernel_rfl
theorem f42_t (a0 : Int) (a1 : Int) (K : Int → Prop) (hK : ∀ y : Int, y = f42 (a0, a1) → K y) : RunF Try.prog f42_E f42_A 6 Try.f42 f42_e.doms f42_e.cods (a0, a1) K := by
  refine ⟨?_⟩
  rw [f42_run a0 a1 K]
  rw [br_both]
  exact ⟨fun h => hK _ (by simp at h; simp [f42, h]), fun h => hK _ (by simp at h; simp [f42, h])⟩
theorem f42_fn : f42_e.fn = f42 := rfl
theorem f42_ok : EntryOK Try.prog 42 f42_e := by
  refine entryF progOK (EnvOK.nil) (A := f42_A) (d := 6) Try.func42 rfl rfl (fun _ _ => trivial) fun x hpre => ?_
  obtain ⟨a0, a1⟩ := x
  exact f42_t a0 a1 _ fun _ h => h.trans (congrFun f42_fn.symm _)
end Go.Proofs.Ytdhekhichomoiaa
end

section
namespace Go.Proofs.Ytdhekhichomoiaa
open Go Go.Pi Go.RowKit
set_option maxRecDepth 100000
set_option linter.unusedVariables false
set_option linter.unusedSimpArgs false

/-- Samples mixed down. -/
def mixAt (l : List (Int × Int)) (q : Int) (j : Nat) : Int × Int := f98 (l.getD j (0, 0), j * q)
def f25 (x : List (Int × Int) × Int) : List (Int × Int) × Int :=
  if f42 ((f33 x.1).2, if 0 ≤ x.2 ∧ x.2 ≤ 3 then 0 else 2) ≠ 0 then ([], f42 ((f33 x.1).2, if 0 ≤ x.2 ∧ x.2 ≤ 3 then 0 else 2))
  else ((List.range x.1.length).map (mixAt x.1 x.2), 0)
def f25_e : Entry := { doms := [(false, (.sl (.pair (.int .i64) (.int .i64)))), (false, (.int .i64))], cods := [(false, (.sl (.pair (.int .i64) (.int .i64)))), (false, (.int .i64))], pre := fun _ => True, fn := f25, uq := false, total := true }
def f25_E : Env := [(93, f93_e), (94, f94_e), (95, f95_e), (97, f97_e), (98, f98_e), (42, f42_e)]
def f25_A : Anns := { loops := [(1048576, { tms := [(1, .keep), (7, .ref 1056775), (20, .keep), (21, .keep), (22, .data false (.int .i64))], obs := [(1056775, .arr (.uniq) (.pair (.int .i64) (.int .i64)))], fz := [] })], own := [] }
theorem f25_run (a0 : List (Int × Int)) (a1 : Int) (K : (List (Int × Int) × Int) → Prop) : runF Try.prog f25_E f25_A 6 Try.f25 f25_e.doms f25_e.cods (a0, a1) K =
    (br ((f93 ([(f97 a0), (f94 ((f95 (a1, (0, 3))), 2))] : List Int)) != 0)
    (K (([] : List (Int × Int)), (f93 ([(f97 a0), (f94 ((f95 (a1, (0, 3))), 2))] : List Int))))
    (br (lenOk (a0.length))
    (LoopP (V := Int × List (Int × Int) × Unit) (fun again v => (fun (again1 : Int → List (Int × Int) → Prop) (v1_0 : Int) (v1_1 : List (Int × Int)) =>
    br (decide (v1_0 < ((a0.length) : Int)))
    (br (decide (0 ≤ v1_0) && decide (v1_0 < ((a0.length) : Int)))
    (f98_pre ((a0.getD v1_0.toNat (0, 0)), (IntKind.i64.wrap (v1_0 * a1))) ∧
    br (roomOk ((v1_1.length) + 1) 16)
    (again1 (IntKind.i64.wrap (v1_0 + 1)) (v1_1 ++ ([(f98 ((a0.getD v1_0.toNat (0, 0)), (IntKind.i64.wrap (v1_0 * a1))))] : List (Int × Int))))
    False)
    False)
    (K (v1_1, 0)))
    (fun v1_0 v1_1 => again (v1_0, v1_1, ())) v.1 v.2.1) (0, ([] : List (Int × Int)), ()))
    True)) := by kernel_rfl
theorem f25_t (a0 : List (Int × Int)) (a1 : Int) (K : (List (Int × Int) × Int) → Prop) (hK : ∀ y : List (Int × Int) × Int, y = f25 (a0, a1) → K y) : RunF Try.prog f25_E f25_A 6 Try.f25 f25_e.doms f25_e.cods (a0, a1) K := by
  refine ⟨?_⟩
  rw [f25_run a0 a1 K]
  have e : f93 [f97 a0, f94 (f95 (a1, 0, 3), 2)] = f42 ((f33 a0).2, if 0 ≤ a1 ∧ a1 ≤ 3 then 0 else 2) := by
    simp only [f93_cons, f93_nil, f97, f94, f95, f42, Bool.and_eq_true, decide_eq_true_eq]
    by_cases h : (f33 a0).2 = 0 <;> by_cases h2 : 0 ≤ a1 ∧ a1 ≤ 3 <;> simp [h, h2]
  rw [e, br_both]
  refine ⟨fun h => hK _ (by have h : f42 ((f33 a0).2, if 0 ≤ a1 ∧ a1 ≤ 3 then 0 else 2) ≠ 0 := by simpa using h
                            rw [f25, if_pos h]), fun h => ?_⟩
  have h : f42 ((f33 a0).2, if 0 ≤ a1 ∧ a1 ≤ 3 then 0 else 2) = 0 := by simpa using h
  have h2 : (f33 a0).2 = 0 ∧ (0 ≤ a1 ∧ a1 ≤ 3) := by
    simp only [f42] at h
    split at h
    · rename_i hh; exact absurd h hh
    · rename_i hh
      refine ⟨by simpa using hh, ?_⟩
      split at h
      · assumption
      · simp at h
  obtain ⟨hb, hq0, hq3⟩ := h2
  obtain ⟨hl0, hl48, _⟩ := blk_ok hb
  rw [br_true_]
  intro _
  refine LoopP.up a0.length (fun i v => v.1 = (List.range i.toNat).map (mixAt a0 a1)) (fun again i v hi0 hn hI hag => ?_) (by omega) rfl
  obtain ⟨v, u⟩ := v
  simp only at hI hag ⊢
  subst hI
  rw [br_both]
  refine ⟨fun hi => ?_, fun hi => hK _ ?_⟩
  · simp only [decide_eq_true_eq] at hi
    have hm : 0 ≤ i * a1 := Int.mul_nonneg hi0 hq0
    have hm2 : i * a1 ≤ 48 * 3 := Int.mul_le_mul (by omega) hq3 hq0 (by omega)
    rw [wr (n := i * a1) (by omega) (by omega), wr (n := i + 1) (by omega) (by omega)]
    simp only [br_false_, Bool.and_eq_true, decide_eq_true_eq]
    refine ⟨⟨hi0, hi⟩, hm, by rw [roomOk_iff]; simp; omega, hag _ hi ?_⟩
    show _ = (List.range (i + 1).toNat).map (mixAt a0 a1)
    rw [← app_step hi0]
    congr 2
    unfold mixAt
    rw [Int.toNat_of_nonneg hi0]
  · simp only [decide_eq_false_iff_not] at hi
    rw [f25, if_neg (fun hh => hh h), show i.toNat = a0.length by omega]
theorem f25_fn : f25_e.fn = f25 := rfl
theorem f25_ok : EntryOK Try.prog 25 f25_e := by
  refine entryF progOK (EnvOK.cons f93_ok (EnvOK.cons f94_ok (EnvOK.cons f95_ok (EnvOK.cons f97_ok (EnvOK.cons f98_ok (EnvOK.cons f42_ok (EnvOK.nil))))))) (A := f25_A) (d := 6) Try.func25 rfl rfl (fun _ _ => trivial) fun x hpre => ?_
  obtain ⟨a0, a1⟩ := x
  exact f25_t a0 a1 _ fun _ h => h.trans (congrFun f25_fn.symm _)
end Go.Proofs.Ytdhekhichomoiaa
end

section
namespace Go.Proofs.Ytdhekhichomoiaa
open Go Go.Pi Go.RowKit
set_option maxRecDepth 100000
set_option linter.unusedVariables false
set_option linter.unusedSimpArgs false

def f26 (l : List (Int × Int)) : List (Int × Int) := l
def f26_pre (l : List (Int × Int)) : Prop := l.length ≤ 1048576
def f26_e : Entry := { doms := [(false, (.sl (.pair (.int .i64) (.int .i64))))], cods := [(false, (.sl (.pair (.int .i64) (.int .i64))))], pre := f26_pre, fn := f26, uq := true, total := false }
def f26_E : Env := []
def f26_A : Anns := { loops := [], own := [1049600] }
theorem f26_run (a0 : List (Int × Int)) (K : (List (Int × Int)) → Prop) : runU Try.prog f26_E f26_A 6 Try.f26 f26_e.doms f26_e.cods a0 K =
    (br (roomOk (0 + (a0.length)) 16)
    (K (([] : List (Int × Int)) ++ a0))
    False) := by kernel_rfl
theorem f26_t (a0 : List (Int × Int)) (hpre : f26_pre a0) (K : (List (Int × Int)) → Prop) (hK : ∀ y : List (Int × Int), y = f26 a0 → K y) : RunU Try.prog f26_E f26_A 6 Try.f26 f26_e.doms f26_e.cods a0 K := by
  refine ⟨?_⟩
  rw [f26_run a0 K]
  simp only [br_false_, roomOk_iff]
  have : a0.length ≤ 1048576 := hpre
  exact ⟨by omega, hK _ (by simp [f26])⟩
theorem f26_fn : f26_e.fn = f26 := rfl
theorem f26_ok : EntryOK Try.prog 26 f26_e := by
  refine entryFU progOK (EnvOK.nil) (A := f26_A) (d := 6) Try.func26 rfl (fun h => by cases h) fun x hpre => ?_
  exact f26_t x hpre _ fun _ h => h.trans (congrFun f26_fn.symm _)
end Go.Proofs.Ytdhekhichomoiaa
end

section
namespace Go.Proofs.Ytdhekhichomoiaa
open Go Go.Pi Go.RowKit
set_option maxRecDepth 100000
set_option linter.unusedVariables false
set_option linter.unusedSimpArgs false

/-- A sum of so many numbers. -/
def sumN (g : Nat → Int × Int) : Nat → Int × Int
  | 0 => (0, 0)
  | n + 1 => f126 (sumN g n, g n)
def corAt (l : List (Int × Int)) (lag : Int) (k : Nat) : Int × Int := f127 (l.getD k (0, 0), l.getD (k + lag.toNat) (0, 0))
def f99 (x : List (Int × Int) × Int) : Int × Int := sumN (corAt x.1 x.2) (x.1.length - x.2.toNat)
def f99_pre (x : List (Int × Int) × Int) : Prop := 0 ≤ x.2
def f99_e : Entry := { doms := [(false, (.sl (.pair (.int .i64) (.int .i64)))), (false, (.int .i64))], cods := [(true, (.pair (.int .i64) (.int .i64)))], pre := f99_pre, fn := f99, uq := false, total := false }
def f99_E : Env := [(126, f126_e), (127, f127_e)]
def f99_A : Anns := { loops := [(1048576, { tms := [(0, .keep), (1, .keep), (4, .keep), (5, .keep), (6, .data false (.int .i64))], obs := [(1048576, .keep), (1049600, .cells [.data (.int .i64), .data (.int .i64)])], fz := [] })], own := [] }
theorem f99_run (a0 : List (Int × Int)) (a1 : Int) (K : (Int × Int) → Prop) : runF Try.prog f99_E f99_A 6 Try.f99 f99_e.doms f99_e.cods (a0, a1) K =
    (LoopP (V := Int × Int × Int × Unit) (fun again v => (fun (again1 : Int → Int → Int → Prop) (v1_0 : Int) (v1_1 : Int) (v1_2 : Int) =>
    br (lenOk (a0.length))
    (br (decide (v1_0 < ((a0.length) : Int)))
    (br (decide (0 ≤ (IntKind.i64.wrap (v1_0 - a1))) && decide ((IntKind.i64.wrap (v1_0 - a1)) < ((a0.length) : Int)))
    (br (decide (0 ≤ v1_0) && decide (v1_0 < ((a0.length) : Int)))
    (again1 (IntKind.i64.wrap (v1_0 + 1)) ((f126 ((v1_1, v1_2), (f127 ((a0.getD ((IntKind.i64.wrap (v1_0 - a1)).toNat) (0, 0)), (a0.getD v1_0.toNat (0, 0)))))).1) ((f126 ((v1_1, v1_2), (f127 ((a0.getD ((IntKind.i64.wrap (v1_0 - a1)).toNat) (0, 0)), (a0.getD v1_0.toNat (0, 0)))))).2))
    False)
    False)
    (K (v1_1, v1_2)))
    True)
    (fun v1_0 v1_1 v1_2 => again (v1_0, v1_1, v1_2, ())) v.1 v.2.1 v.2.2.1) (a1, 0, 0, ())) := by kernel_rfl
theorem f99_t (a0 : List (Int × Int)) (a1 : Int) (hpre : f99_pre (a0, a1)) (K : (Int × Int) → Prop) (hK : ∀ y : Int × Int, y = f99 (a0, a1) → K y) : RunF Try.prog f99_E f99_A 6 Try.f99 f99_e.doms f99_e.cods (a0, a1) K := by
  refine ⟨?_⟩
  rw [f99_run a0 a1 K]
  have h0 : 0 ≤ a1 := hpre
  refine LoopP.upFrom a1 a0.length (fun i v => (v.1, v.2.1) = sumN (corAt a0 a1) (i - a1).toNat) (fun again i v hmi hn hI hag => ?_) (by simp [sumN])
  obtain ⟨v1, v2, u⟩ := v
  simp only at hI hag ⊢
  rw [br_true_, lenOk_iff]
  intro hl
  rw [br_both]
  refine ⟨fun hi => ?_, fun hi => hK _ ?_⟩
  · simp only [decide_eq_true_eq] at hi
    rw [wr (n := i - a1) (by omega) (by omega), wr (n := i + 1) (by omega) (by omega)]
    simp only [br_false_, Bool.and_eq_true, decide_eq_true_eq]
    refine ⟨⟨by omega, by omega⟩, ⟨by omega, hi⟩, hag _ hi ?_⟩
    show (_, _) = _
    rw [hI, show (i + 1 - a1).toNat = (i - a1).toNat + 1 by omega]
    have e : corAt a0 a1 (i - a1).toNat = f127 (a0.getD (i - a1).toNat (0, 0), a0.getD i.toNat (0, 0)) := by
      unfold corAt
      rw [show (i - a1).toNat + a1.toNat = i.toNat by omega]
    show _ = f126 (sumN (corAt a0 a1) (i - a1).toNat, corAt a0 a1 (i - a1).toNat)
    rw [e]
  · simp only [decide_eq_false_iff_not] at hi
    rw [hI]
    unfold f99
    simp only
    congr 1
    omega
theorem f99_fn : f99_e.fn = f99 := rfl
theorem f99_ok : EntryOK Try.prog 99 f99_e := by
  refine entryF progOK (EnvOK.cons f126_ok (EnvOK.cons f127_ok (EnvOK.nil))) (A := f99_A) (d := 6) Try.func99 rfl rfl (fun h => by cases h) fun x hpre => ?_
  obtain ⟨a0, a1⟩ := x
  exact f99_t a0 a1 hpre _ fun _ h => h.trans (congrFun f99_fn.symm _)
end Go.Proofs.Ytdhekhichomoiaa
end

section
namespace Go.Proofs.Ytdhekhichomoiaa
open Go Go.Pi Go.RowKit
set_option maxRecDepth 100000
set_option linter.unusedVariables false
set_option linter.unusedSimpArgs false

def f27 (x : List (Int × Int) × Int) : (Int × Int) × Int :=
  if f42 ((f33 x.1).2, if 0 ≤ x.2 ∧ x.2 ≤ 48 then 0 else 2) ≠ 0 then ((0, 0), f42 ((f33 x.1).2, if 0 ≤ x.2 ∧ x.2 ≤ 48 then 0 else 2))
  else (f99 x, 0)
def f27_e : Entry := { doms := [(false, (.sl (.pair (.int .i64) (.int .i64)))), (false, (.int .i64))], cods := [(true, (.pair (.int .i64) (.int .i64))), (false, (.int .i64))], pre := fun _ => True, fn := f27, uq := false, total := true }
def f27_E : Env := [(93, f93_e), (94, f94_e), (95, f95_e), (97, f97_e), (99, f99_e), (42, f42_e)]
def f27_A : Anns := { loops := [], own := [] }
theorem f27_run (a0 : List (Int × Int)) (a1 : Int) (K : ((Int × Int) × Int) → Prop) : runF Try.prog f27_E f27_A 6 Try.f27 f27_e.doms f27_e.cods (a0, a1) K =
    (br ((f93 ([(f97 a0), (f94 ((f95 (a1, (0, 48))), 2))] : List Int)) != 0)
    (K ((0, 0), (f93 ([(f97 a0), (f94 ((f95 (a1, (0, 48))), 2))] : List Int))))
    (f99_pre (a0, a1) ∧
    K ((f99 (a0, a1)), 0))) := by kernel_rfl
theorem f27_t (a0 : List (Int × Int)) (a1 : Int) (K : ((Int × Int) × Int) → Prop) (hK : ∀ y : (Int × Int) × Int, y = f27 (a0, a1) → K y) : RunF Try.prog f27_E f27_A 6 Try.f27 f27_e.doms f27_e.cods (a0, a1) K := by
  refine ⟨?_⟩
  rw [f27_run a0 a1 K]
  have e : f93 [f97 a0, f94 (f95 (a1, 0, 48), 2)] = f42 ((f33 a0).2, if 0 ≤ a1 ∧ a1 ≤ 48 then 0 else 2) := by
    simp only [f93_cons, f93_nil, f97, f94, f95, f42, Bool.and_eq_true, decide_eq_true_eq]
    by_cases h : (f33 a0).2 = 0 <;> by_cases h2 : 0 ≤ a1 ∧ a1 ≤ 48 <;> simp [h, h2]
  rw [e, br_both]
  refine ⟨fun h => hK _ (by have h : f42 ((f33 a0).2, if 0 ≤ a1 ∧ a1 ≤ 48 then 0 else 2) ≠ 0 := by simpa using h
                            rw [f27, if_pos h]), fun h => ?_⟩
  have h : f42 ((f33 a0).2, if 0 ≤ a1 ∧ a1 ≤ 48 then 0 else 2) = 0 := by simpa using h
  have h2 : 0 ≤ a1 ∧ a1 ≤ 48 := by
    simp only [f42] at h
    split at h
    · rename_i hh; exact absurd h hh
    · split at h
      · assumption
      · simp at h
  exact ⟨h2.1, hK _ (by rw [f27, if_neg (fun hh => hh h)])⟩
theorem f27_fn : f27_e.fn = f27 := rfl
theorem f27_ok : EntryOK Try.prog 27 f27_e := by
  refine entryF progOK (EnvOK.cons f93_ok (EnvOK.cons f94_ok (EnvOK.cons f95_ok (EnvOK.cons f97_ok (EnvOK.cons f99_ok (EnvOK.cons f42_ok (EnvOK.nil))))))) (A := f27_A) (d := 6) Try.func27 rfl rfl (fun _ _ => trivial) fun x hpre => ?_
  obtain ⟨a0, a1⟩ := x
  exact f27_t a0 a1 _ fun _ h => h.trans (congrFun f27_fn.symm _)
end Go.Proofs.Ytdhekhichomoiaa
end

section
namespace Go.Proofs.Ytdhekhichomoiaa
open Go Go.Pi Go.RowKit
set_option maxRecDepth 100000
set_option linter.unusedVariables false
set_option linter.unusedSimpArgs false

def f38 (l : List (Int × Int)) : Int × Int := f33 l
def f38_e : Entry := { doms := [(false, (.sl (.pair (.int .i64) (.int .i64))))], cods := [(false, (.int .i64)), (false, (.int .i64))], pre := fun _ => True, fn := f38, uq := false, total := true }
def f38_E : Env := [(18, f18_e), (33, f33_e)]
def f38_A : Anns := { loops := [(1048576, { tms := [(0, .keep), (4, .data false (.int .i64))], obs := [], fz := [] })], own := [] }
theorem f38_run (a0 : List (Int × Int)) (K : (Int × Int) → Prop) : runF Try.prog f38_E f38_A 6 Try.f38 f38_e.doms f38_e.cods a0 K =
    (br (lenOk (a0.length))
    (br (((a0.length) : Int) == 0)
    (K (0, 10))
    (br (lenOk (a0.length))
    (br (decide (((a0.length) : Int) > 48))
    (K (0, 8))
    (LoopP (V := Int × Unit) (fun again v => (fun (again1 : Int → Prop) (v1_0 : Int) =>
    br (lenOk (a0.length))
    (br (decide (v1_0 < ((a0.length) : Int)))
    (br (decide (0 ≤ v1_0) && decide (v1_0 < ((a0.length) : Int)))
    (br (f18 ((a0.getD v1_0.toNat (0, 0)).1, ((-1000), 1000)))
    (br (!(f18 ((a0.getD v1_0.toNat (0, 0)).2, ((-1000), 1000))))
    (K (v1_0, 2))
    (again1 (IntKind.i64.wrap (v1_0 + 1))))
    (K (v1_0, 2)))
    False)
    (K (0, 0)))
    True)
    (fun v1_0 => again (v1_0, ())) v.1) (0, ())))
    True))
    True) := by kernel_rfl
theorem f38_t (a0 : List (Int × Int)) (K : (Int × Int) → Prop) (hK : ∀ y : Int × Int, y = f38 a0 → K y) : RunF Try.prog f38_E f38_A 6 Try.f38 f38_e.doms f38_e.cods a0 K := by
  refine ⟨?_⟩
  rw [f38_run a0 K]
  have hf : ∀ x : Int × Int, f103 x = (f18 (x.1, -1000, 1000) && f18 (x.2, -1000, 1000)) := fun x => rfl
  rw [br_true_, lenOk_iff]
  intro hl
  rw [br_both]
  refine ⟨fun h0 => hK _ ?_, fun h0 => ?_⟩
  · simp only [beq_iff_eq] at h0
    have : a0.length = 0 := by omega
    simp [f38, f33, this]
  have h0 : a0.length ≠ 0 := by
    simp only [beq_eq_false_iff_ne] at h0
    omega
  rw [br_true_]
  intro _
  rw [br_dec]
  refine ⟨fun h1 => hK _ ?_, fun h1 => ?_⟩
  · have : 48 < a0.length := by omega
    simp [f38, f33, h0, this]
  have h1 : ¬ 48 < a0.length := by omega
  refine LoopP.up a0.length (fun i _ => ∀ x ∈ a0.take i.toNat, (!f103 x) = false) (fun again i v hi0 hn hI hag => ?_) (by omega) all_zero
  dsimp only
  rw [br_true_]
  intro _
  rw [br_both]
  refine ⟨fun hi => ?_, fun hi => ?_⟩
  · simp only [decide_eq_true_eq] at hi
    rw [br_false_]
    refine ⟨by simp only [Bool.and_eq_true, decide_eq_true_eq]; exact ⟨hi0, hi⟩, ?_⟩
    have bad : (!f103 (a0.getD i.toNat (0, 0))) = true → K (i, 2) := fun hne => hK _ (by
      rw [f38, f33, if_neg h0, if_neg h1, findIdx_at (d := ((0 : Int), (0 : Int))) hi0 hi hI hne]
      simp only
      rw [Int.toNat_of_nonneg hi0])
    have good : (!f103 (a0.getD i.toNat (0, 0))) = false → again (IntKind.i64.wrap (i + 1), ()) := fun he => by
      rw [wr (by omega) (by omega)]
      exact hag () hi (all_step hi0 hi hI he)
    rw [hf] at bad good
    rw [br_both]
    refine ⟨fun h2 => ?_, fun h2 => bad (by rw [h2]; rfl)⟩
    rw [br_both]
    exact ⟨fun h3 => bad (by rw [h2, Bool.true_and]; exact h3), fun h3 => good (by rw [h2, Bool.true_and]; exact h3)⟩
  · simp only [decide_eq_false_iff_not] at hi
    refine hK _ ?_
    rw [f38, f33, if_neg h0, if_neg h1, findIdx_none (all_done hi hI)]
theorem f38_fn : f38_e.fn = f38 := rfl
theorem f38_ok : EntryOK Try.prog 38 f38_e := by
  refine entryF progOK (EnvOK.cons f18_ok (EnvOK.cons f33_ok (EnvOK.nil))) (A := f38_A) (d := 6) Try.func38 rfl rfl (fun _ _ => trivial) fun x hpre => ?_
  exact f38_t x _ fun _ h => h.trans (congrFun f38_fn.symm _)
end Go.Proofs.Ytdhekhichomoiaa
end

section
namespace Go.Proofs.Ytdhekhichomoiaa
open Go Go.Pi Go.RowKit
set_option maxRecDepth 100000
set_option linter.unusedVariables false
set_option linter.unusedSimpArgs false

def f28 (l : List (Int × Int)) : Int := (f33 l).2
def f28_e : Entry := { doms := [(false, (.sl (.pair (.int .i64) (.int .i64))))], cods := [(false, (.int .i64))], pre := fun _ => True, fn := f28, uq := false, total := true }
def f28_E : Env := [(38, f38_e), (33, f33_e)]
def f28_A : Anns := { loops := [], own := [] }
theorem f28_run (a0 : List (Int × Int)) (K : Int → Prop) : runF Try.prog f28_E f28_A 6 Try.f28 f28_e.doms f28_e.cods a0 K =
    (K ((f38 a0).2)) := by kernel_rfl
theorem f28_t (a0 : List (Int × Int)) (K : Int → Prop) (hK : ∀ y : Int, y = f28 a0 → K y) : RunF Try.prog f28_E f28_A 6 Try.f28 f28_e.doms f28_e.cods a0 K := by
  refine ⟨?_⟩
  rw [f28_run a0 K]
  exact hK _ (by rw [f28, f38])
theorem f28_fn : f28_e.fn = f28 := rfl
theorem f28_ok : EntryOK Try.prog 28 f28_e := by
  refine entryF progOK (EnvOK.cons f38_ok (EnvOK.cons f33_ok (EnvOK.nil))) (A := f28_A) (d := 6) Try.func28 rfl rfl (fun _ _ => trivial) fun x hpre => ?_
  exact f28_t x _ fun _ h => h.trans (congrFun f28_fn.symm _)
end Go.Proofs.Ytdhekhichomoiaa
end

section
namespace Go.Proofs.Ytdhekhichomoiaa
open Go Go.Pi Go.RowKit
set_option maxRecDepth 100000
set_option linter.unusedVariables false
set_option linter.unusedSimpArgs false

def f29 (x : List (Int × Int) × List (Int × Int)) : Bool := decide (x.1 = x.2)
def f29_e : Entry := { doms := [(false, (.sl (.pair (.int .i64) (.int .i64)))), (false, (.sl (.pair (.int .i64) (.int .i64))))], cods := [(false, .bool)], pre := fun _ => True, fn := f29, uq := false, total := true }
def f29_E : Env := []
def f29_A : Anns := { loops := [(1048576, { tms := [(0, .keep), (1, .keep), (5, .data false (.int .i64))], obs := [], fz := [] })], own := [] }
theorem f29_run (a0 : List (Int × Int)) (a1 : List (Int × Int)) (K : Bool → Prop) : runF Try.prog f29_E f29_A 6 Try.f29 f29_e.doms f29_e.cods (a0, a1) K =
    (br (lenOk (a0.length))
    (br (lenOk (a1.length))
    (br (((a0.length) : Int) != ((a1.length) : Int))
    (K false)
    (LoopP (V := Int × Unit) (fun again v => (fun (again1 : Int → Prop) (v1_0 : Int) =>
    br (lenOk (a0.length))
    (br (decide (v1_0 < ((a0.length) : Int)))
    (br (decide (0 ≤ v1_0) && decide (v1_0 < ((a0.length) : Int)))
    (br (decide (0 ≤ v1_0) && decide (v1_0 < ((a1.length) : Int)))
    (br (!(((a0.getD v1_0.toNat (0, 0)).1 == (a1.getD v1_0.toNat (0, 0)).1) && (((a0.getD v1_0.toNat (0, 0)).2 == (a1.getD v1_0.toNat (0, 0)).2) && true)))
    (K false)
    (again1 (IntKind.i64.wrap (v1_0 + 1))))
    False)
    False)
    (K true))
    True)
    (fun v1_0 => again (v1_0, ())) v.1) (0, ())))
    True)
    True) := by kernel_rfl
theorem f29_t (a0 : List (Int × Int)) (a1 : List (Int × Int)) (K : Bool → Prop) (hK : ∀ y : Bool, y = f29 (a0, a1) → K y) : RunF Try.prog f29_E f29_A 6 Try.f29 f29_e.doms f29_e.cods (a0, a1) K := by
  refine ⟨?_⟩
  rw [f29_run a0 a1 K]
  rw [br_true_, lenOk_iff]
  intro hl
  rw [br_true_]
  intro _
  rw [br_both]
  refine ⟨fun hne => hK _ ?_, fun he => ?_⟩
  · have : a0 ≠ a1 := fun e => by simp [e] at hne
    simp [f29, this]
  have he : a0.length = a1.length := by
    simp only [bne_eq_false_iff_eq] at he
    omega
  refine LoopP.up a0.length (fun i _ => a0.take i.toNat = a1.take i.toNat) (fun again i v hi0 hn hI hag => ?_) (by omega) (by simp)
  dsimp only
  rw [br_true_]
  intro _
  rw [br_both]
  refine ⟨fun hi => ?_, fun hi => hK _ ?_⟩
  · simp only [decide_eq_true_eq] at hi
    simp only [br_false_, Bool.and_eq_true, decide_eq_true_eq]
    refine ⟨⟨hi0, hi⟩, ⟨hi0, by omega⟩, ?_⟩
    rw [br_both]
    refine ⟨fun hne => hK _ ?_, fun heq => ?_⟩
    · have : a0 ≠ a1 := fun e => by simp [e] at hne
      simp [f29, this]
    · rw [wr (by omega) (by omega)]
      refine hag () hi ?_
      have h1 : i.toNat < a0.length := by omega
      have h2 : i.toNat < a1.length := by omega
      rw [getD_lt h1, getD_lt h2] at heq
      have h3 : a0[i.toNat] = a1[i.toNat] := by
        simp only [Bool.not_eq_false', Bool.and_true, Bool.and_eq_true, beq_iff_eq] at heq
        exact Prod.ext heq.1 heq.2
      rw [show (i + 1).toNat = i.toNat + 1 by omega, List.take_add_one, List.take_add_one, hI, List.getElem?_eq_getElem h1, List.getElem?_eq_getElem h2, h3]
  · simp only [decide_eq_false_iff_not] at hi
    rw [List.take_of_length_le (by omega), List.take_of_length_le (by omega)] at hI
    simp [f29, hI]
theorem f29_fn : f29_e.fn = f29 := rfl
theorem f29_ok : EntryOK Try.prog 29 f29_e := by
  refine entryF progOK (EnvOK.nil) (A := f29_A) (d := 6) Try.func29 rfl rfl (fun _ _ => trivial) fun x hpre => ?_
  obtain ⟨a0, a1⟩ := x
  exact f29_t a0 a1 _ fun _ h => h.trans (congrFun f29_fn.symm _)
end Go.Proofs.Ytdhekhichomoiaa
end
