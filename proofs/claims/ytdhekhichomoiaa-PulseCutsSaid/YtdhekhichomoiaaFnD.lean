/- What functions of the program compute, each proved once, part 4. -/
import Derived.Test.YtdhekhichomoiaaPiC
import Derived.Test.YtdhekhichomoiaaFnA
import Derived.Test.YtdhekhichomoiaaFnB

section
namespace Go.Proofs.Ytdhekhichomoiaa
open Go Go.Pi Go.RowKit
set_option maxRecDepth 100000
set_option linter.unusedVariables false
set_option linter.unusedSimpArgs false

def f18 (x : Int × Int × Int) : Bool := decide (x.2.1 ≤ x.1) && decide (x.1 ≤ x.2.2)
def f18_e : Entry := { doms := [(false, (.int .i64)), (false, (.int .i64)), (false, (.int .i64))], cods := [(false, .bool)], pre := fun _ => True, fn := f18, uq := false, total := true }
def f18_E : Env := []
def f18_A : Anns := { loops := [], own := [] }
theorem f18_run (a0 : Int) (a1 : Int) (a2 : Int) (K : Bool → Prop) : runF Try.prog f18_E f18_A 6 Try.f18 f18_e.doms f18_e.cods (a0, a1, a2) K =
    (br (decide (a1 ≤ a0))
    (K (decide (a0 ≤ a2)))
    (K false)) := by kernel_rfl
theorem f18_t (a0 : Int) (a1 : Int) (a2 : Int) (K : Bool → Prop) (hK : ∀ y : Bool, y = f18 (a0, a1, a2) → K y) : RunF Try.prog f18_E f18_A 6 Try.f18 f18_e.doms f18_e.cods (a0, a1, a2) K := by
  refine ⟨?_⟩
  rw [f18_run a0 a1 a2 K]
  rw [br_dec]
  exact ⟨fun h => hK _ (by simp [f18, h]), fun h => hK _ (by simp [f18, h])⟩
theorem f18_fn : f18_e.fn = f18 := rfl
theorem f18_ok : EntryOK Try.prog 18 f18_e := by
  refine entryF progOK (EnvOK.nil) (A := f18_A) (d := 6) Try.func18 rfl rfl (fun _ _ => trivial) fun x hpre => ?_
  obtain ⟨a0, a1, a2⟩ := x
  exact f18_t a0 a1 a2 _ fun _ h => h.trans (congrFun f18_fn.symm _)
end Go.Proofs.Ytdhekhichomoiaa
end

section
namespace Go.Proofs.Ytdhekhichomoiaa
open Go Go.Pi Go.RowKit
set_option maxRecDepth 100000
set_option linter.unusedVariables false
set_option linter.unusedSimpArgs false

def f26 (l : List (Int × Int)) : List (Int × Int) := l
def f26_pre (l : List (Int × Int)) : Prop := l.length ≤ 1048576
def f26_e : Entry := { doms := [(false, (.sl (.pair (.int .i64) (.int .i64))))], cods := [(false, (.sl (.pair (.int .i64) (.int .i64))))], pre := f26_pre, fn := f26, uq := true, total := false }
def f26_E : Env := []
def f26_A : Anns := { loops := [], own := [1049600] }
theorem f26_run (a0 : List (Int × Int)) (K : (List (Int × Int)) → Prop) : runU Try.prog f26_E f26_A 6 Try.f26 f26_e.doms f26_e.cods a0 K =
    (br (roomOk (0 + (a0.length)) 16)
    (K (([] : List (Int × Int)) ++ a0))
    False) := by kernel_rfl
theorem f26_t (a0 : List (Int × Int)) (hpre : f26_pre a0) (K : (List (Int × Int)) → Prop) (hK : ∀ y : List (Int × Int), y = f26 a0 → K y) : RunU Try.prog f26_E f26_A 6 Try.f26 f26_e.doms f26_e.cods a0 K := by
  refine ⟨?_⟩
  rw [f26_run a0 K]
  simp only [br_false_, roomOk_iff]
  have : a0.length ≤ 1048576 := hpre
  exact ⟨by omega, hK _ (by simp [f26])⟩
theorem f26_fn : f26_e.fn = f26 := rfl
theorem f26_ok : EntryOK Try.prog 26 f26_e := by
  refine entryFU progOK (EnvOK.nil) (A := f26_A) (d := 6) Try.func26 rfl (fun h => by cases h) fun x hpre => ?_
  exact f26_t x hpre _ fun _ h => h.trans (congrFun f26_fn.symm _)
end Go.Proofs.Ytdhekhichomoiaa
end

section
namespace Go.Proofs.Ytdhekhichomoiaa
open Go Go.Pi Go.RowKit
set_option maxRecDepth 100000
set_option linter.unusedVariables false
set_option linter.unusedSimpArgs false

/-- A sum of so many numbers. -/
def sumN (g : Nat → Int × Int) : Nat → Int × Int
  | 0 => (0, 0)
  | n + 1 => f126 (sumN g n, g n)
def corAt (l : List (Int × Int)) (lag : Int) (k : Nat) : Int × Int := f127 (l.getD k (0, 0), l.getD (k + lag.toNat) (0, 0))
def f99 (x : List (Int × Int) × Int) : Int × Int := sumN (corAt x.1 x.2) (x.1.length - x.2.toNat)
def f99_pre (x : List (Int × Int) × Int) : Prop := 0 ≤ x.2
def f99_e : Entry := { doms := [(false, (.sl (.pair (.int .i64) (.int .i64)))), (false, (.int .i64))], cods := [(true, (.pair (.int .i64) (.int .i64)))], pre := f99_pre, fn := f99, uq := false, total := false }
def f99_E : Env := [(126, f126_e), (127, f127_e)]
def f99_A : Anns := { loops := [(1048576, { tms := [(0, .keep), (1, .keep), (4, .keep), (5, .keep), (6, .data false (.int .i64))], obs := [(1048576, .keep), (1049600, .cells [.data (.int .i64), .data (.int .i64)])], fz := [] })], own := [] }
theorem f99_run (a0 : List (Int × Int)) (a1 : Int) (K : (Int × Int) → Prop) : runF Try.prog f99_E f99_A 6 Try.f99 f99_e.doms f99_e.cods (a0, a1) K =
    (LoopP (V := Int × Int × Int × Unit) (fun again v => (fun (again1 : Int → Int → Int → Prop) (v1_0 : Int) (v1_1 : Int) (v1_2 : Int) =>
    br (lenOk (a0.length))
    (br (decide (v1_0 < ((a0.length) : Int)))
    (br (decide (0 ≤ (IntKind.i64.wrap (v1_0 - a1))) && decide ((IntKind.i64.wrap (v1_0 - a1)) < ((a0.length) : Int)))
    (br (decide (0 ≤ v1_0) && decide (v1_0 < ((a0.length) : Int)))
    (again1 (IntKind.i64.wrap (v1_0 + 1)) ((f126 ((v1_1, v1_2), (f127 ((a0.getD ((IntKind.i64.wrap (v1_0 - a1)).toNat) (0, 0)), (a0.getD v1_0.toNat (0, 0)))))).1) ((f126 ((v1_1, v1_2), (f127 ((a0.getD ((IntKind.i64.wrap (v1_0 - a1)).toNat) (0, 0)), (a0.getD v1_0.toNat (0, 0)))))).2))
    False)
    False)
    (K (v1_1, v1_2)))
    True)
    (fun v1_0 v1_1 v1_2 => again (v1_0, v1_1, v1_2, ())) v.1 v.2.1 v.2.2.1) (a1, 0, 0, ())) := by kernel_rfl
theorem f99_t (a0 : List (Int × Int)) (a1 : Int) (hpre : f99_pre (a0, a1)) (K : (Int × Int) → Prop) (hK : ∀ y : Int × Int, y = f99 (a0, a1) → K y) : RunF Try.prog f99_E f99_A 6 Try.f99 f99_e.doms f99_e.cods (a0, a1) K := by
  refine ⟨?_⟩
  rw [f99_run a0 a1 K]
  have h0 : 0 ≤ a1 := hpre
  refine LoopP.upFrom a1 a0.length (fun i v => (v.1, v.2.1) = sumN (corAt a0 a1) (i - a1).toNat) (fun again i v hmi hn hI hag => ?_) (by simp [sumN])
  obtain ⟨v1, v2, u⟩ := v
  simp only at hI hag ⊢
  rw [br_true_, lenOk_iff]
  intro hl
  rw [br_both]
  refine ⟨fun hi => ?_, fun hi => hK _ ?_⟩
  · simp only [decide_eq_true_eq] at hi
    rw [wr (n := i - a1) (by omega) (by omega), wr (n := i + 1) (by omega) (by omega)]
    simp only [br_false_, Bool.and_eq_true, decide_eq_true_eq]
    refine ⟨⟨by omega, by omega⟩, ⟨by omega, hi⟩, hag _ hi ?_⟩
    show (_, _) = _
    rw [hI, show (i + 1 - a1).toNat = (i - a1).toNat + 1 by omega]
    have e : corAt a0 a1 (i - a1).toNat = f127 (a0.getD (i - a1).toNat (0, 0), a0.getD i.toNat (0, 0)) := by
      unfold corAt
      rw [show (i - a1).toNat + a1.toNat = i.toNat by omega]
    show _ = f126 (sumN (corAt a0 a1) (i - a1).toNat, corAt a0 a1 (i - a1).toNat)
    rw [e]
  · simp only [decide_eq_false_iff_not] at hi
    rw [hI]
    unfold f99
    simp only
    congr 1
    omega
theorem f99_fn : f99_e.fn = f99 := rfl
theorem f99_ok : EntryOK Try.prog 99 f99_e := by
  refine entryF progOK (EnvOK.cons f126_ok (EnvOK.cons f127_ok (EnvOK.nil))) (A := f99_A) (d := 6) Try.func99 rfl rfl (fun h => by cases h) fun x hpre => ?_
  obtain ⟨a0, a1⟩ := x
  exact f99_t a0 a1 hpre _ fun _ h => h.trans (congrFun f99_fn.symm _)
end Go.Proofs.Ytdhekhichomoiaa
end

section
namespace Go.Proofs.Ytdhekhichomoiaa
open Go Go.Pi Go.RowKit
set_option maxRecDepth 100000
set_option linter.unusedVariables false
set_option linter.unusedSimpArgs false

def f42 (x : Int × Int) : Int := if x.1 ≠ 0 then x.1 else x.2
def f42_e : Entry := { doms := [(false, (.int .i64)), (false, (.int .i64))], cods := [(false, (.int .i64))], pre := fun _ => True, fn := f42, uq := false, total := true }
def f42_E : Env := []
def f42_A : Anns := { loops := [], own := [] }
theorem f42_run (a0 : Int) (a1 : Int) (K : Int → Prop) : runF Try.prog f42_E f42_A 6 Try.f42 f42_e.doms f42_e.cods (a0, a1) K =
    (br (a0 != 0)
    (K a0)
    (K a1)) := by kernel_rfl
theorem f42_t (a0 : Int) (a1 : Int) (K : Int → Prop) (hK : ∀ y : Int, y = f42 (a0, a1) → K y) : RunF Try.prog f42_E f42_A 6 Try.f42 f42_e.doms f42_e.cods (a0, a1) K := by
  refine ⟨?_⟩
  rw [f42_run a0 a1 K]
  rw [br_both]
  exact ⟨fun h => hK _ (by simp at h; simp [f42, h]), fun h => hK _ (by simp at h; simp [f42, h])⟩
theorem f42_fn : f42_e.fn = f42 := rfl
theorem f42_ok : EntryOK Try.prog 42 f42_e := by
  refine entryF progOK (EnvOK.nil) (A := f42_A) (d := 6) Try.func42 rfl rfl (fun _ _ => trivial) fun x hpre => ?_
  obtain ⟨a0, a1⟩ := x
  exact f42_t a0 a1 _ fun _ h => h.trans (congrFun f42_fn.symm _)
end Go.Proofs.Ytdhekhichomoiaa
end

section
namespace Go.Proofs.Ytdhekhichomoiaa
open Go Go.Pi Go.RowKit
set_option maxRecDepth 100000
set_option linter.unusedVariables false
set_option linter.unusedSimpArgs false

def f27 (x : List (Int × Int) × Int) : (Int × Int) × Int :=
  if f42 ((f33 x.1).2, if 0 ≤ x.2 ∧ x.2 ≤ 48 then 0 else 2) ≠ 0 then ((0, 0), f42 ((f33 x.1).2, if 0 ≤ x.2 ∧ x.2 ≤ 48 then 0 else 2))
  else (f99 x, 0)
def f27_e : Entry := { doms := [(false, (.sl (.pair (.int .i64) (.int .i64)))), (false, (.int .i64))], cods := [(true, (.pair (.int .i64) (.int .i64))), (false, (.int .i64))], pre := fun _ => True, fn := f27, uq := false, total := true }
def f27_E : Env := [(93, f93_e), (94, f94_e), (95, f95_e), (97, f97_e), (99, f99_e), (42, f42_e)]
def f27_A : Anns := { loops := [], own := [] }
theorem f27_run (a0 : List (Int × Int)) (a1 : Int) (K : ((Int × Int) × Int) → Prop) : runF Try.prog f27_E f27_A 6 Try.f27 f27_e.doms f27_e.cods (a0, a1) K =
    (br ((f93 ([(f97 a0), (f94 ((f95 (a1, (0, 48))), 2))] : List Int)) != 0)
    (K ((0, 0), (f93 ([(f97 a0), (f94 ((f95 (a1, (0, 48))), 2))] : List Int))))
    (f99_pre (a0, a1) ∧
    K ((f99 (a0, a1)), 0))) := by kernel_rfl
theorem f27_t (a0 : List (Int × Int)) (a1 : Int) (K : ((Int × Int) × Int) → Prop) (hK : ∀ y : (Int × Int) × Int, y = f27 (a0, a1) → K y) : RunF Try.prog f27_E f27_A 6 Try.f27 f27_e.doms f27_e.cods (a0, a1) K := by
  refine ⟨?_⟩
  rw [f27_run a0 a1 K]
  have e : f93 [f97 a0, f94 (f95 (a1, 0, 48), 2)] = f42 ((f33 a0).2, if 0 ≤ a1 ∧ a1 ≤ 48 then 0 else 2) := by
    simp only [f93_cons, f93_nil, f97, f94, f95, f42, Bool.and_eq_true, decide_eq_true_eq]
    by_cases h : (f33 a0).2 = 0 <;> by_cases h2 : 0 ≤ a1 ∧ a1 ≤ 48 <;> simp [h, h2]
  rw [e, br_both]
  refine ⟨fun h => hK _ (by have h : f42 ((f33 a0).2, if 0 ≤ a1 ∧ a1 ≤ 48 then 0 else 2) ≠ 0 := by simpa using h
                            rw [f27, if_pos h]), fun h => ?_⟩
  have h : f42 ((f33 a0).2, if 0 ≤ a1 ∧ a1 ≤ 48 then 0 else 2) = 0 := by simpa using h
  have h2 : 0 ≤ a1 ∧ a1 ≤ 48 := by
    simp only [f42] at h
    split at h
    · rename_i hh; exact absurd h hh
    · split at h
      · assumption
      · simp at h
  exact ⟨h2.1, hK _ (by rw [f27, if_neg (fun hh => hh h)])⟩
theorem f27_fn : f27_e.fn = f27 := rfl
theorem f27_ok : EntryOK Try.prog 27 f27_e := by
  refine entryF progOK (EnvOK.cons f93_ok (EnvOK.cons f94_ok (EnvOK.cons f95_ok (EnvOK.cons f97_ok (EnvOK.cons f99_ok (EnvOK.cons f42_ok (EnvOK.nil))))))) (A := f27_A) (d := 6) Try.func27 rfl rfl (fun _ _ => trivial) fun x hpre => ?_
  obtain ⟨a0, a1⟩ := x
  exact f27_t a0 a1 _ fun _ h => h.trans (congrFun f27_fn.symm _)
end Go.Proofs.Ytdhekhichomoiaa
end

section
namespace Go.Proofs.Ytdhekhichomoiaa
open Go Go.Pi Go.RowKit
set_option maxRecDepth 100000
set_option linter.unusedVariables false
set_option linter.unusedSimpArgs false

def f38 (l : List (Int × Int)) : Int × Int := f33 l
def f38_e : Entry := { doms := [(false, (.sl (.pair (.int .i64) (.int .i64))))], cods := [(false, (.int .i64)), (false, (.int .i64))], pre := fun _ => True, fn := f38, uq := false, total := true }
def f38_E : Env := [(18, f18_e), (33, f33_e)]
def f38_A : Anns := { loops := [(1048576, { tms := [(0, .keep), (4, .data false (.int .i64))], obs := [], fz := [] })], own := [] }
theorem f38_run (a0 : List (Int × Int)) (K : (Int × Int) → Prop) : runF Try.prog f38_E f38_A 6 Try.f38 f38_e.doms f38_e.cods a0 K =
    (br (lenOk (a0.length))
    (br (((a0.length) : Int) == 0)
    (K (0, 10))
    (br (lenOk (a0.length))
    (br (decide (((a0.length) : Int) > 48))
    (K (0, 8))
    (LoopP (V := Int × Unit) (fun again v => (fun (again1 : Int → Prop) (v1_0 : Int) =>
    br (lenOk (a0.length))
    (br (decide (v1_0 < ((a0.length) : Int)))
    (br (decide (0 ≤ v1_0) && decide (v1_0 < ((a0.length) : Int)))
    (br (f18 ((a0.getD v1_0.toNat (0, 0)).1, ((-1000), 1000)))
    (br (!(f18 ((a0.getD v1_0.toNat (0, 0)).2, ((-1000), 1000))))
    (K (v1_0, 2))
    (again1 (IntKind.i64.wrap (v1_0 + 1))))
    (K (v1_0, 2)))
    False)
    (K (0, 0)))
    True)
    (fun v1_0 => again (v1_0, ())) v.1) (0, ())))
    True))
    True) := by kernel_rfl
theorem f38_t (a0 : List (Int × Int)) (K : (Int × Int) → Prop) (hK : ∀ y : Int × Int, y = f38 a0 → K y) : RunF Try.prog f38_E f38_A 6 Try.f38 f38_e.doms f38_e.cods a0 K := by
  refine ⟨?_⟩
  rw [f38_run a0 K]
  have hf : ∀ x : Int × Int, f103 x = (f18 (x.1, -1000, 1000) && f18 (x.2, -1000, 1000)) := fun x => rfl
  rw [br_true_, lenOk_iff]
  intro hl
  rw [br_both]
  refine ⟨fun h0 => hK _ ?_, fun h0 => ?_⟩
  · simp only [beq_iff_eq] at h0
    have : a0.length = 0 := by omega
    simp [f38, f33, this]
  have h0 : a0.length ≠ 0 := by
    simp only [beq_eq_false_iff_ne] at h0
    omega
  rw [br_true_]
  intro _
  rw [br_dec]
  refine ⟨fun h1 => hK _ ?_, fun h1 => ?_⟩
  · have : 48 < a0.length := by omega
    simp [f38, f33, h0, this]
  have h1 : ¬ 48 < a0.length := by omega
  refine LoopP.up a0.length (fun i _ => ∀ x ∈ a0.take i.toNat, (!f103 x) = false) (fun again i v hi0 hn hI hag => ?_) (by omega) all_zero
  dsimp only
  rw [br_true_]
  intro _
  rw [br_both]
  refine ⟨fun hi => ?_, fun hi => ?_⟩
  · simp only [decide_eq_true_eq] at hi
    rw [br_false_]
    refine ⟨by simp only [Bool.and_eq_true, decide_eq_true_eq]; exact ⟨hi0, hi⟩, ?_⟩
    have bad : (!f103 (a0.getD i.toNat (0, 0))) = true → K (i, 2) := fun hne => hK _ (by
      rw [f38, f33, if_neg h0, if_neg h1, findIdx_at (d := ((0 : Int), (0 : Int))) hi0 hi hI hne]
      simp only
      rw [Int.toNat_of_nonneg hi0])
    have good : (!f103 (a0.getD i.toNat (0, 0))) = false → again (IntKind.i64.wrap (i + 1), ()) := fun he => by
      rw [wr (by omega) (by omega)]
      exact hag () hi (all_step hi0 hi hI he)
    rw [hf] at bad good
    rw [br_both]
    refine ⟨fun h2 => ?_, fun h2 => bad (by rw [h2]; rfl)⟩
    rw [br_both]
    exact ⟨fun h3 => bad (by rw [h2, Bool.true_and]; exact h3), fun h3 => good (by rw [h2, Bool.true_and]; exact h3)⟩
  · simp only [decide_eq_false_iff_not] at hi
    refine hK _ ?_
    rw [f38, f33, if_neg h0, if_neg h1, findIdx_none (all_done hi hI)]
theorem f38_fn : f38_e.fn = f38 := rfl
theorem f38_ok : EntryOK Try.prog 38 f38_e := by
  refine entryF progOK (EnvOK.cons f18_ok (EnvOK.cons f33_ok (EnvOK.nil))) (A := f38_A) (d := 6) Try.func38 rfl rfl (fun _ _ => trivial) fun x hpre => ?_
  exact f38_t x _ fun _ h => h.trans (congrFun f38_fn.symm _)
end Go.Proofs.Ytdhekhichomoiaa
end

section
namespace Go.Proofs.Ytdhekhichomoiaa
open Go Go.Pi Go.RowKit
set_option maxRecDepth 100000
set_option linter.unusedVariables false
set_option linter.unusedSimpArgs false

def f28 (l : List (Int × Int)) : Int := (f33 l).2
def f28_e : Entry := { doms := [(false, (.sl (.pair (.int .i64) (.int .i64))))], cods := [(false, (.int .i64))], pre := fun _ => True, fn := f28, uq := false, total := true }
def f28_E : Env := [(38, f38_e), (33, f33_e)]
def f28_A : Anns := { loops := [], own := [] }
theorem f28_run (a0 : List (Int × Int)) (K : Int → Prop) : runF Try.prog f28_E f28_A 6 Try.f28 f28_e.doms f28_e.cods a0 K =
    (K ((f38 a0).2)) := by kernel_rfl
theorem f28_t (a0 : List (Int × Int)) (K : Int → Prop) (hK : ∀ y : Int, y = f28 a0 → K y) : RunF Try.prog f28_E f28_A 6 Try.f28 f28_e.doms f28_e.cods a0 K := by
  refine ⟨?_⟩
  rw [f28_run a0 K]
  exact hK _ (by rw [f28, f38])
theorem f28_fn : f28_e.fn = f28 := rfl
theorem f28_ok : EntryOK Try.prog 28 f28_e := by
  refine entryF progOK (EnvOK.cons f38_ok (EnvOK.cons f33_ok (EnvOK.nil))) (A := f28_A) (d := 6) Try.func28 rfl rfl (fun _ _ => trivial) fun x hpre => ?_
  exact f28_t x _ fun _ h => h.trans (congrFun f28_fn.symm _)
end Go.Proofs.Ytdhekhichomoiaa
end

section
namespace Go.Proofs.Ytdhekhichomoiaa
open Go Go.Pi Go.RowKit
set_option maxRecDepth 100000
set_option linter.unusedVariables false
set_option linter.unusedSimpArgs false

def f29 (x : List (Int × Int) × List (Int × Int)) : Bool := decide (x.1 = x.2)
def f29_e : Entry := { doms := [(false, (.sl (.pair (.int .i64) (.int .i64)))), (false, (.sl (.pair (.int .i64) (.int .i64))))], cods := [(false, .bool)], pre := fun _ => True, fn := f29, uq := false, total := true }
def f29_E : Env := []
def f29_A : Anns := { loops := [(1048576, { tms := [(0, .keep), (1, .keep), (5, .data false (.int .i64))], obs := [], fz := [] })], own := [] }
theorem f29_run (a0 : List (Int × Int)) (a1 : List (Int × Int)) (K : Bool → Prop) : runF Try.prog f29_E f29_A 6 Try.f29 f29_e.doms f29_e.cods (a0, a1) K =
    (br (lenOk (a0.length))
    (br (lenOk (a1.length))
    (br (((a0.length) : Int) != ((a1.length) : Int))
    (K false)
    (LoopP (V := Int × Unit) (fun again v => (fun (again1 : Int → Prop) (v1_0 : Int) =>
    br (lenOk (a0.length))
    (br (decide (v1_0 < ((a0.length) : Int)))
    (br (decide (0 ≤ v1_0) && decide (v1_0 < ((a0.length) : Int)))
    (br (decide (0 ≤ v1_0) && decide (v1_0 < ((a1.length) : Int)))
    (br (!(((a0.getD v1_0.toNat (0, 0)).1 == (a1.getD v1_0.toNat (0, 0)).1) && (((a0.getD v1_0.toNat (0, 0)).2 == (a1.getD v1_0.toNat (0, 0)).2) && true)))
    (K false)
    (again1 (IntKind.i64.wrap (v1_0 + 1))))
    False)
    False)
    (K true))
    True)
    (fun v1_0 => again (v1_0, ())) v.1) (0, ())))
    True)
    True) := by kernel_rfl
theorem f29_t (a0 : List (Int × Int)) (a1 : List (Int × Int)) (K : Bool → Prop) (hK : ∀ y : Bool, y = f29 (a0, a1) → K y) : RunF Try.prog f29_E f29_A 6 Try.f29 f29_e.doms f29_e.cods (a0, a1) K := by
  refine ⟨?_⟩
  rw [f29_run a0 a1 K]
  rw [br_true_, lenOk_iff]
  intro hl
  rw [br_true_]
  intro _
  rw [br_both]
  refine ⟨fun hne => hK _ ?_, fun he => ?_⟩
  · have : a0 ≠ a1 := fun e => by simp [e] at hne
    simp [f29, this]
  have he : a0.length = a1.length := by
    simp only [bne_eq_false_iff_eq] at he
    omega
  refine LoopP.up a0.length (fun i _ => a0.take i.toNat = a1.take i.toNat) (fun again i v hi0 hn hI hag => ?_) (by omega) (by simp)
  dsimp only
  rw [br_true_]
  intro _
  rw [br_both]
  refine ⟨fun hi => ?_, fun hi => hK _ ?_⟩
  · simp only [decide_eq_true_eq] at hi
    simp only [br_false_, Bool.and_eq_true, decide_eq_true_eq]
    refine ⟨⟨hi0, hi⟩, ⟨hi0, by omega⟩, ?_⟩
    rw [br_both]
    refine ⟨fun hne => hK _ ?_, fun heq => ?_⟩
    · have : a0 ≠ a1 := fun e => by simp [e] at hne
      simp [f29, this]
    · rw [wr (by omega) (by omega)]
      refine hag () hi ?_
      have h1 : i.toNat < a0.length := by omega
      have h2 : i.toNat < a1.length := by omega
      rw [getD_lt h1, getD_lt h2] at heq
      have h3 : a0[i.toNat] = a1[i.toNat] := by
        simp only [Bool.not_eq_false', Bool.and_true, Bool.and_eq_true, beq_iff_eq] at heq
        exact Prod.ext heq.1 heq.2
      rw [show (i + 1).toNat = i.toNat + 1 by omega, List.take_add_one, List.take_add_one, hI, List.getElem?_eq_getElem h1, List.getElem?_eq_getElem h2, h3]
  · simp only [decide_eq_false_iff_not] at hi
    rw [List.take_of_length_le (by omega), List.take_of_length_le (by omega)] at hI
    simp [f29, hI]
theorem f29_fn : f29_e.fn = f29 := rfl
theorem f29_ok : EntryOK Try.prog 29 f29_e := by
  refine entryF progOK (EnvOK.nil) (A := f29_A) (d := 6) Try.func29 rfl rfl (fun _ _ => trivial) fun x hpre => ?_
  obtain ⟨a0, a1⟩ := x
  exact f29_t a0 a1 _ fun _ h => h.trans (congrFun f29_fn.symm _)
end Go.Proofs.Ytdhekhichomoiaa
end

section
namespace Go.Proofs.Ytdhekhichomoiaa
open Go Go.Pi Go.RowKit
set_option maxRecDepth 100000
set_option linter.unusedVariables false
set_option linter.unusedSimpArgs false

def lineAt (l : List (Int × Int)) (k : Nat) : Int × Int := sumN (fun j => f98 (l.getD j (0, 0), ((j * k : Nat) : Int))) l.length
def f113 (l : List (Int × Int)) : (Int × Int) × (Int × Int) × (Int × Int) × Int × Int := (lineAt l 0, lineAt l 1, lineAt l 2, lineAt l 3)
def f113_pre (l : List (Int × Int)) : Prop := l.length ≤ 1048576
def f113_e : Entry := { doms := [(false, (.sl (.pair (.int .i64) (.int .i64))))], cods := [(true, (.pair (.pair (.int .i64) (.int .i64)) (.pair (.pair (.int .i64) (.int .i64)) (.pair (.pair (.int .i64) (.int .i64)) (.pair (.int .i64) (.int .i64))))))], pre := f113_pre, fn := f113, uq := false, total := false }
def f113_E : Env := [(98, f98_e), (126, f126_e), (99, f99_e)]
def f113_A : Anns := { loops := [(1048576, { tms := [(0, .keep), (2, .keep), (3, .keep), (7, .data false (.int .i64))], obs := [(1048576, .keep), (1049600, .arr (.fixed 4) (.pair (.int .i64) (.int .i64)))], fz := [] }),
  (1048578, { tms := [(0, .keep), (2, .keep), (3, .keep), (4, .keep), (7, .keep), (10, .keep), (11, .keep), (12, .data false (.int .i64))], obs := [(1048576, .keep), (1049600, .arr (.fixed 4) (.pair (.int .i64) (.int .i64)))], fz := [] })], own := [] }
theorem f113_run (a0 : List (Int × Int)) (K : ((Int × Int) × (Int × Int) × (Int × Int) × Int × Int) → Prop) : runF Try.prog f113_E f113_A 6 Try.f113 f113_e.doms f113_e.cods a0 K =
    (LoopP (V := Int × List (Int × Int) × Unit) (fun again v => (fun (again1 : Int → List (Int × Int) → Prop) (v1_0 : Int) (v1_1 : List (Int × Int)) =>
    br (decide (v1_0 < 4))
    (br (lenOk (a0.length))
    (LoopP (V := Int × List (Int × Int) × Unit) (fun again v => (fun (again2 : Int → List (Int × Int) → Prop) (v2_0 : Int) (v2_1 : List (Int × Int)) =>
    br (decide (v2_0 < ((a0.length) : Int)))
    (br (decide (0 ≤ v2_0) && decide (v2_0 < ((a0.length) : Int)))
    (br (decide (0 ≤ v1_0) && decide (v1_0 < 4))
    (f98_pre ((a0.getD v2_0.toNat (0, 0)), (IntKind.i64.wrap (v2_0 * v1_0))) ∧
    br (decide (0 ≤ v1_0) && decide (v1_0 < 4))
    (again2 (IntKind.i64.wrap (v2_0 + 1)) (v2_1.set v1_0.toNat (f126 ((v2_1.getD v1_0.toNat (0, 0)), (f98 ((a0.getD v2_0.toNat (0, 0)), (IntKind.i64.wrap (v2_0 * v1_0))))))))
    False)
    False)
    False)
    (again1 (IntKind.i64.wrap (v1_0 + 1)) v2_1))
    (fun v2_0 v2_1 => again (v2_0, v2_1, ())) v.1 v.2.1) (0, v1_1, ()))
    True)
    (K ((v1_1.getD 0 (0, 0)), ((v1_1.getD 1 (0, 0)), ((v1_1.getD 2 (0, 0)), (v1_1.getD 3 (0, 0)))))))
    (fun v1_0 v1_1 => again (v1_0, v1_1, ())) v.1 v.2.1) (0, ([(0, 0), (0, 0), (0, 0), (0, 0)] : List (Int × Int)), ())) := by kernel_rfl
theorem f113_t (a0 : List (Int × Int)) (hpre : f113_pre a0) (K : ((Int × Int) × (Int × Int) × (Int × Int) × Int × Int) → Prop) (hK : ∀ y : (Int × Int) × (Int × Int) × (Int × Int) × Int × Int, y = f113 a0 → K y) : RunF Try.prog f113_E f113_A 6 Try.f113 f113_e.doms f113_e.cods a0 K := by
  refine ⟨?_⟩
  rw [f113_run a0 K]
  have hl : a0.length ≤ 1048576 := hpre
  refine LoopP.up 4 (fun i v => v.1 = fillTo 4 (lineAt a0) (0, 0) i.toNat) (fun again i v hi0 hn hI hag => ?_) (by omega) rfl
  obtain ⟨v, u⟩ := v
  simp only at hI hag ⊢
  subst hI
  rw [br_dec]
  refine ⟨fun hi => ?_, fun hi => hK _ ?_⟩
  · rw [br_true_]
    intro _
    refine LoopP.up a0.length (fun j v => v.1 = (fillTo 4 (lineAt a0) (0, 0) i.toNat).set i.toNat (sumN (fun j => f98 (a0.getD j (0, 0), ((j * i.toNat : Nat) : Int))) j.toNat)) (fun again2 j v hj0 hjn hJ hag2 => ?_) (by omega) ?_
    · obtain ⟨v, u⟩ := v
      simp only at hJ hag2 ⊢
      subst hJ
      rw [br_dec]
      refine ⟨fun hj => ?_, fun hj => ?_⟩
      · have hm : 0 ≤ j * i := Int.mul_nonneg hj0 hi0
        have hm2 : j * i ≤ 1048576 * 4 := Int.mul_le_mul (by omega) (by omega) hi0 (by omega)
        have hb : (decide (0 ≤ i) && decide (i < 4)) = true := by simp [hi0, hi]
        have hb2 : (decide (0 ≤ j) && decide (j < (a0.length : Int))) = true := by simp [hj0, hj]
        rw [hb, hb2, br_t, br_t, br_t, wr (n := j * i) (by omega) (by omega), wr (n := j + 1) (by omega) (by omega)]
        refine ⟨hm, hag2 _ hj ?_⟩
        dsimp only
        have hlt : i.toNat < (fillTo 4 (lineAt a0) (0, 0) i.toNat).length := by rw [fillTo_length]; omega
        rw [List.set_set, show (j + 1).toNat = j.toNat + 1 by omega]
        congr 1
        show _ = f126 (sumN _ j.toNat, _)
        congr 2
        · simp [List.getD_eq_getElem?_getD, hlt]
        · congr 2
          rw [Int.natCast_mul, Int.toNat_of_nonneg hj0, Int.toNat_of_nonneg hi0]
      · have hje : j.toNat = a0.length := by omega
        rw [wr (n := i + 1) (by omega) (by omega)]
        refine hag _ hi ?_
        show _ = fillTo 4 (lineAt a0) (0, 0) (i + 1).toNat
        rw [hje, show (i + 1).toNat = i.toNat + 1 by omega, ← fillTo_step (by omega)]
        rfl
    · show _ = (fillTo 4 (lineAt a0) (0, 0) i.toNat).set i.toNat (0, 0)
      apply List.ext_getElem (by simp)
      intro k h1 h2
      simp only [fillTo, List.getElem_set, List.getElem_map, List.getElem_range]
      by_cases e : i.toNat = k
      · simp [← e]
      · simp [e]
  · rw [show i.toNat = 4 by omega, fillTo_getD (by omega), fillTo_getD (by omega), fillTo_getD (by omega), fillTo_getD (by omega)]
    rfl
theorem f113_fn : f113_e.fn = f113 := rfl
theorem f113_ok : EntryOK Try.prog 113 f113_e := by
  refine entryF progOK (EnvOK.cons f98_ok (EnvOK.cons f126_ok (EnvOK.cons f99_ok (EnvOK.nil)))) (A := f113_A) (d := 6) Try.func113 rfl rfl (fun h => by cases h) fun x hpre => ?_
  exact f113_t x hpre _ fun _ h => h.trans (congrFun f113_fn.symm _)
end Go.Proofs.Ytdhekhichomoiaa
end

section
namespace Go.Proofs.Ytdhekhichomoiaa
open Go Go.Pi Go.RowKit
set_option maxRecDepth 100000
set_option linter.unusedVariables false
set_option linter.unusedSimpArgs false

def gl (a : (Int × Int) × (Int × Int) × (Int × Int) × Int × Int) : List (Int × Int) := [a.1, a.2.1, a.2.2.1, a.2.2.2]
def f116 (a : (Int × Int) × (Int × Int) × (Int × Int) × Int × Int) : Int × Int × Int × Int := (f118 a.1, f118 a.2.1, f118 a.2.2.1, f118 a.2.2.2)
def f116_e : Entry := { doms := [(true, (.pair (.pair (.int .i64) (.int .i64)) (.pair (.pair (.int .i64) (.int .i64)) (.pair (.pair (.int .i64) (.int .i64)) (.pair (.int .i64) (.int .i64))))))], cods := [(true, (.pair (.int .i64) (.pair (.int .i64) (.pair (.int .i64) (.int .i64)))))], pre := fun _ => True, fn := f116, uq := false, total := true }
def f116_E : Env := [(118, f118_e)]
def f116_A : Anns := { loops := [(1048576, { tms := [(2, .keep), (3, .keep), (6, .keep), (7, .data false (.int .i64))], obs := [(1048576, .keep), (1048577, .keep), (1049600, .arr (.fixed 4) (.int .i64))], fz := [] })], own := [] }
theorem f116_run (a0 : (Int × Int) × (Int × Int) × (Int × Int) × Int × Int) (K : (Int × Int × Int × Int) → Prop) : runF Try.prog f116_E f116_A 6 Try.f116 f116_e.doms f116_e.cods a0 K =
    (LoopP (V := Int × List Int × Unit) (fun again v => (fun (again1 : Int → List Int → Prop) (v1_0 : Int) (v1_1 : List Int) =>
    br (decide (v1_0 < 4))
    (br (decide (0 ≤ v1_0) && decide (v1_0 < 4))
    (br (decide (0 ≤ v1_0) && decide (v1_0 < 4))
    (again1 (IntKind.i64.wrap (v1_0 + 1)) (v1_1.set v1_0.toNat (f118 (([a0.1, a0.2.1, a0.2.2.1, a0.2.2.2] : List (Int × Int)).getD v1_0.toNat (0, 0)))))
    False)
    False)
    (K ((v1_1.getD 0 0), ((v1_1.getD 1 0), ((v1_1.getD 2 0), (v1_1.getD 3 0))))))
    (fun v1_0 v1_1 => again (v1_0, v1_1, ())) v.1 v.2.1) (0, ([0, 0, 0, 0] : List Int), ())) := by kernel_rfl
theorem f116_t (a0 : (Int × Int) × (Int × Int) × (Int × Int) × Int × Int) (K : (Int × Int × Int × Int) → Prop) (hK : ∀ y : Int × Int × Int × Int, y = f116 a0 → K y) : RunF Try.prog f116_E f116_A 6 Try.f116 f116_e.doms f116_e.cods a0 K := by
  refine ⟨?_⟩
  rw [f116_run a0 K]
  refine LoopP.up 4 (fun i v => v.1 = fillTo 4 (fun k => f118 ((gl a0).getD k (0, 0))) 0 i.toNat) (fun again i v hi0 hn hI hag => ?_) (by omega) rfl
  obtain ⟨v, u⟩ := v
  simp only at hI hag ⊢
  subst hI
  rw [br_both]
  refine ⟨fun hi => ?_, fun hi => hK _ ?_⟩
  · simp only [decide_eq_true_eq] at hi
    simp only [br_false_, Bool.and_eq_true, decide_eq_true_eq]
    refine ⟨⟨hi0, hi⟩, ⟨hi0, hi⟩, ?_⟩
    rw [wr (by omega) (by omega)]
    refine hag _ hi ?_
    show _ = fillTo 4 (fun k => f118 ((gl a0).getD k (0, 0))) 0 (i + 1).toNat
    rw [show (i + 1).toNat = i.toNat + 1 by omega, ← fillTo_step (by omega)]
    rfl
  · simp only [decide_eq_false_iff_not] at hi
    rw [show i.toNat = 4 by omega, fillTo_getD (by omega), fillTo_getD (by omega), fillTo_getD (by omega), fillTo_getD (by omega)]
    rfl
theorem f116_fn : f116_e.fn = f116 := rfl
theorem f116_ok : EntryOK Try.prog 116 f116_e := by
  refine entryF progOK (EnvOK.cons f118_ok (EnvOK.nil)) (A := f116_A) (d := 6) Try.func116 rfl rfl (fun _ _ => trivial) fun x hpre => ?_
  exact f116_t x _ fun _ h => h.trans (congrFun f116_fn.symm _)
end Go.Proofs.Ytdhekhichomoiaa
end

section
namespace Go.Proofs.Ytdhekhichomoiaa
open Go Go.Pi Go.RowKit
set_option maxRecDepth 100000
set_option linter.unusedVariables false
set_option linter.unusedSimpArgs false

def f63 (l : List (Int × Int)) : (Int × Int × Int × Int) × Int := if (f33 l).2 ≠ 0 then ((0, 0, 0, 0), (f33 l).2) else (f116 (f113 l), 0)
def f63_e : Entry := { doms := [(false, (.sl (.pair (.int .i64) (.int .i64))))], cods := [(true, (.pair (.int .i64) (.pair (.int .i64) (.pair (.int .i64) (.int .i64))))), (false, (.int .i64))], pre := fun _ => True, fn := f63, uq := false, total := true }
def f63_E : Env := [(97, f97_e), (113, f113_e), (116, f116_e)]
def f63_A : Anns := { loops := [], own := [] }
theorem f63_run (a0 : List (Int × Int)) (K : ((Int × Int × Int × Int) × Int) → Prop) : runF Try.prog f63_E f63_A 6 Try.f63 f63_e.doms f63_e.cods a0 K =
    (br ((f97 a0) != 0)
    (K ((0, (0, (0, 0))), (f97 a0)))
    (f113_pre a0 ∧
    K (((f116 (((f113 a0).1), ((((f113 a0).2).1), (((((f113 a0).2).2).1), ((((f113 a0).2).2).2))))).1, (((f116 (((f113 a0).1), ((((f113 a0).2).1), (((((f113 a0).2).2).1), ((((f113 a0).2).2).2))))).2).1, (((f116 (((f113 a0).1), ((((f113 a0).2).1), (((((f113 a0).2).2).1), ((((f113 a0).2).2).2))))).2).2))), 0))) := by kernel_rfl
theorem f63_t (a0 : List (Int × Int)) (K : ((Int × Int × Int × Int) × Int) → Prop) (hK : ∀ y : (Int × Int × Int × Int) × Int, y = f63 a0 → K y) : RunF Try.prog f63_E f63_A 6 Try.f63 f63_e.doms f63_e.cods a0 K := by
  refine ⟨?_⟩
  rw [f63_run a0 K]
  rw [br_both]
  refine ⟨fun h => hK _ ?_, fun h => ?_⟩
  · have h : (f33 a0).2 ≠ 0 := by simpa [f97] using h
    rw [f63, if_pos h]
    rfl
  · have h : (f33 a0).2 = 0 := by simpa [f97] using h
    refine ⟨by have := blk_ok h; show a0.length ≤ _; omega, hK _ ?_⟩
    rw [f63, if_neg (fun hh => hh h)]
theorem f63_fn : f63_e.fn = f63 := rfl
theorem f63_ok : EntryOK Try.prog 63 f63_e := by
  refine entryF progOK (EnvOK.cons f97_ok (EnvOK.cons f113_ok (EnvOK.cons f116_ok (EnvOK.nil)))) (A := f63_A) (d := 6) Try.func63 rfl rfl (fun _ _ => trivial) fun x hpre => ?_
  exact f63_t x _ fun _ h => h.trans (congrFun f63_fn.symm _)
end Go.Proofs.Ytdhekhichomoiaa
end

section
namespace Go.Proofs.Ytdhekhichomoiaa
open Go Go.Pi Go.RowKit
set_option maxRecDepth 100000
set_option linter.unusedVariables false
set_option linter.unusedSimpArgs false

def f71 (s : List (Int × Int) × List (Int × Int) × Int) : List (Int × Int) × List (Int × Int) × Int := s
def f71_pre (s : List (Int × Int) × List (Int × Int) × Int) : Prop := s.1.length ≤ 1048576 ∧ s.2.1.length ≤ 1048576
def f71_e : Entry := { doms := [(true, (.pair (.sl (.pair (.int .i64) (.int .i64))) (.pair (.sl (.pair (.int .i64) (.int .i64))) (.int .i64))))], cods := [(true, (.pair (.sl (.pair (.int .i64) (.int .i64))) (.pair (.sl (.pair (.int .i64) (.int .i64))) (.int .i64))))], pre := f71_pre, fn := f71, uq := false, total := false }
def f71_E : Env := [(26, f26_e)]
def f71_A : Anns := { loops := [], own := [] }
theorem f71_run (a0 : List (Int × Int) × List (Int × Int) × Int) (K : (List (Int × Int) × List (Int × Int) × Int) → Prop) : runF Try.prog f71_E f71_A 6 Try.f71 f71_e.doms f71_e.cods a0 K =
    (f26_pre a0.1 ∧
    f26_pre a0.2.1 ∧
    K ((f26 a0.1), ((f26 a0.2.1), a0.2.2))) := by kernel_rfl
theorem f71_t (a0 : List (Int × Int) × List (Int × Int) × Int) (hpre : f71_pre a0) (K : (List (Int × Int) × List (Int × Int) × Int) → Prop) (hK : ∀ y : List (Int × Int) × List (Int × Int) × Int, y = f71 a0 → K y) : RunF Try.prog f71_E f71_A 6 Try.f71 f71_e.doms f71_e.cods a0 K := by
  refine ⟨?_⟩
  rw [f71_run a0 K]
  exact ⟨hpre.1, hpre.2, hK _ rfl⟩
theorem f71_fn : f71_e.fn = f71 := rfl
theorem f71_ok : EntryOK Try.prog 71 f71_e := by
  refine entryF progOK (EnvOK.cons f26_ok (EnvOK.nil)) (A := f71_A) (d := 6) Try.func71 rfl rfl (fun h => by cases h) fun x hpre => ?_
  exact f71_t x hpre _ fun _ h => h.trans (congrFun f71_fn.symm _)
end Go.Proofs.Ytdhekhichomoiaa
end

section
namespace Go.Proofs.Ytdhekhichomoiaa
open Go Go.Pi Go.RowKit
set_option maxRecDepth 100000
set_option linter.unusedVariables false
set_option linter.unusedSimpArgs false

def f140 (x : Int × Int) : Bool := f95 (x.1, IntKind.i64.wrap (0 - x.2), x.2)
def f140_e : Entry := { doms := [(false, (.int .i64)), (false, (.int .i64))], cods := [(false, .bool)], pre := fun _ => True, fn := f140, uq := false, total := true }
def f140_E : Env := [(95, f95_e)]
def f140_A : Anns := { loops := [], own := [] }
theorem f140_run (a0 : Int) (a1 : Int) (K : Bool → Prop) : runF Try.prog f140_E f140_A 6 Try.f140 f140_e.doms f140_e.cods (a0, a1) K =
    (K (f95 (a0, ((IntKind.i64.wrap (0 - a1)), a1)))) := by kernel_rfl
theorem f140_t (a0 : Int) (a1 : Int) (K : Bool → Prop) (hK : ∀ y : Bool, y = f140 (a0, a1) → K y) : RunF Try.prog f140_E f140_A 6 Try.f140 f140_e.doms f140_e.cods (a0, a1) K := by
  refine ⟨?_⟩
  rw [f140_run a0 a1 K]
  exact hK _ rfl
theorem f140_fn : f140_e.fn = f140 := rfl
theorem f140_ok : EntryOK Try.prog 140 f140_e := by
  refine entryF progOK (EnvOK.cons f95_ok (EnvOK.nil)) (A := f140_A) (d := 6) Try.func140 rfl rfl (fun _ _ => trivial) fun x hpre => ?_
  obtain ⟨a0, a1⟩ := x
  exact f140_t a0 a1 _ fun _ h => h.trans (congrFun f140_fn.symm _)
end Go.Proofs.Ytdhekhichomoiaa
end

section
namespace Go.Proofs.Ytdhekhichomoiaa
open Go Go.Pi Go.RowKit
set_option maxRecDepth 100000
set_option linter.unusedVariables false
set_option linter.unusedSimpArgs false

def f117 (x : (Int × Int) × Int) : Bool := f140 (x.1.1, x.2) && f140 (x.1.2, x.2)
def f117_e : Entry := { doms := [(true, (.pair (.int .i64) (.int .i64))), (false, (.int .i64))], cods := [(false, .bool)], pre := fun _ => True, fn := f117, uq := false, total := true }
def f117_E : Env := [(140, f140_e)]
def f117_A : Anns := { loops := [], own := [] }
theorem f117_run (a0 : Int × Int) (a1 : Int) (K : Bool → Prop) : runF Try.prog f117_E f117_A 6 Try.f117 f117_e.doms f117_e.cods (a0, a1) K =
    (br (f140 (a0.1, a1))
    (K (f140 (a0.2, a1)))
    (K false)) := by kernel_rfl
theorem f117_t (a0 : Int × Int) (a1 : Int) (K : Bool → Prop) (hK : ∀ y : Bool, y = f117 (a0, a1) → K y) : RunF Try.prog f117_E f117_A 6 Try.f117 f117_e.doms f117_e.cods (a0, a1) K := by
  refine ⟨?_⟩
  rw [f117_run a0 a1 K]
  rw [br_both]
  exact ⟨fun h => hK _ (by simp [f117, h]), fun h => hK _ (by simp [f117, h])⟩
theorem f117_fn : f117_e.fn = f117 := rfl
theorem f117_ok : EntryOK Try.prog 117 f117_e := by
  refine entryF progOK (EnvOK.cons f140_ok (EnvOK.nil)) (A := f117_A) (d := 6) Try.func117 rfl rfl (fun _ _ => trivial) fun x hpre => ?_
  obtain ⟨a0, a1⟩ := x
  exact f117_t a0 a1 _ fun _ h => h.trans (congrFun f117_fn.symm _)
end Go.Proofs.Ytdhekhichomoiaa
end

section
namespace Go.Proofs.Ytdhekhichomoiaa
open Go Go.Pi Go.RowKit
set_option maxRecDepth 100000
set_option linter.unusedVariables false
set_option linter.unusedSimpArgs false

def f123 (z : Int × Int) : Bool := f117 (z, 1000000000000)
def f123_e : Entry := { doms := [(true, (.pair (.int .i64) (.int .i64)))], cods := [(false, .bool)], pre := fun _ => True, fn := f123, uq := false, total := true }
def f123_E : Env := [(117, f117_e)]
def f123_A : Anns := { loops := [], own := [] }
theorem f123_run (a0 : Int × Int) (K : Bool → Prop) : runF Try.prog f123_E f123_A 6 Try.f123 f123_e.doms f123_e.cods a0 K =
    (K (f117 (a0, 1000000000000))) := by kernel_rfl
theorem f123_t (a0 : Int × Int) (K : Bool → Prop) (hK : ∀ y : Bool, y = f123 a0 → K y) : RunF Try.prog f123_E f123_A 6 Try.f123 f123_e.doms f123_e.cods a0 K := by
  refine ⟨?_⟩
  rw [f123_run a0 K]
  exact hK _ rfl
theorem f123_fn : f123_e.fn = f123 := rfl
theorem f123_ok : EntryOK Try.prog 123 f123_e := by
  refine entryF progOK (EnvOK.cons f117_ok (EnvOK.nil)) (A := f123_A) (d := 6) Try.func123 rfl rfl (fun _ _ => trivial) fun x hpre => ?_
  exact f123_t x _ fun _ h => h.trans (congrFun f123_fn.symm _)
end Go.Proofs.Ytdhekhichomoiaa
end

section
namespace Go.Proofs.Ytdhekhichomoiaa
open Go Go.Pi Go.RowKit
set_option maxRecDepth 100000
set_option linter.unusedVariables false
set_option linter.unusedSimpArgs false

def f111 (x : (Int × Int) × Int) : Bool := f117 x
def f111_e : Entry := { doms := [(true, (.pair (.int .i64) (.int .i64))), (false, (.int .i64))], cods := [(false, .bool)], pre := fun _ => True, fn := f111, uq := false, total := true }
def f111_E : Env := [(18, f18_e), (117, f117_e), (140, f140_e), (95, f95_e)]
def f111_A : Anns := { loops := [], own := [] }
theorem f111_run (a0 : Int × Int) (a1 : Int) (K : Bool → Prop) : runF Try.prog f111_E f111_A 6 Try.f111 f111_e.doms f111_e.cods (a0, a1) K =
    (br (f18 (a0.1, ((IntKind.i64.wrap (0 - a1)), a1)))
    (K (f18 (a0.2, ((IntKind.i64.wrap (0 - a1)), a1))))
    (K false)) := by kernel_rfl
theorem f111_t (a0 : Int × Int) (a1 : Int) (K : Bool → Prop) (hK : ∀ y : Bool, y = f111 (a0, a1) → K y) : RunF Try.prog f111_E f111_A 6 Try.f111 f111_e.doms f111_e.cods (a0, a1) K := by
  refine ⟨?_⟩
  rw [f111_run a0 a1 K]
  rw [br_both]
  refine ⟨fun h => hK _ ?_, fun h => hK _ ?_⟩
  · have e : f140 (a0.1, a1) = true := h
    simp only [f111, f117]
    rw [e]
    rfl
  · have e : f140 (a0.1, a1) = false := h
    simp only [f111, f117]
    rw [e]
    rfl
theorem f111_fn : f111_e.fn = f111 := rfl
theorem f111_ok : EntryOK Try.prog 111 f111_e := by
  refine entryF progOK (EnvOK.cons f18_ok (EnvOK.cons f117_ok (EnvOK.cons f140_ok (EnvOK.cons f95_ok (EnvOK.nil))))) (A := f111_A) (d := 6) Try.func111 rfl rfl (fun _ _ => trivial) fun x hpre => ?_
  obtain ⟨a0, a1⟩ := x
  exact f111_t a0 a1 _ fun _ h => h.trans (congrFun f111_fn.symm _)
end Go.Proofs.Ytdhekhichomoiaa
end

section
namespace Go.Proofs.Ytdhekhichomoiaa
open Go Go.Pi Go.RowKit
set_option maxRecDepth 100000
set_option linter.unusedVariables false
set_option linter.unusedSimpArgs false

def okS (z : Int × Int) : Bool := f117 (z, 1000000000000)
/-- Count and tail of a sum fit its lags. -/
def chkT (s : List (Int × Int) × List (Int × Int) × Int) : Int × Int :=
  if ¬ (0 ≤ s.2.2 ∧ s.2.2 ≤ 1000000000000) then (0, 2)
  else if ¬ (s.2.1.length : Int) = minmax false s.2.2 ((s.1.length : Int) - 1) then (0, 10)
  else match s.2.1.findIdx? (fun z => !f103 z) with
    | some i => ((i : Int), 2)
    | none => (0, 0)
def chkS (s : List (Int × Int) × List (Int × Int) × Int) : Int × Int :=
  if s.1.length = 0 then (0, 10) else if 12 < s.1.length then (0, 8) else match s.1.findIdx? (fun z => !okS z) with
    | some i => ((i : Int), 2)
    | none => chkT s
def f74 (s : List (Int × Int) × List (Int × Int) × Int) : Int × Int := chkS s
theorem f111_small (z : Int × Int) : f117 (z, 1000) = f103 z := by
  simp only [f117, f140, f95, f103, szd]
  rw [wr (n := 0 - 1000) (by omega) (by omega)]
  rfl
def f74_e : Entry := { doms := [(true, (.pair (.sl (.pair (.int .i64) (.int .i64))) (.pair (.sl (.pair (.int .i64) (.int .i64))) (.int .i64))))], cods := [(false, (.int .i64)), (false, (.int .i64))], pre := fun _ => True, fn := f74, uq := false, total := true }
def f74_E : Env := [(18, f18_e), (111, f111_e), (123, f123_e), (117, f117_e), (95, f95_e), (140, f140_e), (103, f103_e)]
def f74_A : Anns := { loops := [(1048576, { tms := [(1, .keep), (4, .data false (.int .i64))], obs := [(1048576, .keep)], fz := [] }),
  (1048578, { tms := [(1, .keep), (5, .data false (.int .i64))], obs := [(1048576, .keep)], fz := [] })], own := [] }
theorem f74_run (a0 : List (Int × Int) × List (Int × Int) × Int) (K : (Int × Int) → Prop) : runF Try.prog f74_E f74_A 6 Try.f74 f74_e.doms f74_e.cods a0 K =
    (br (lenOk (a0.1.length))
    (br (((a0.1.length) : Int) == 0)
    (K (0, 10))
    (br (lenOk (a0.1.length))
    (br (decide (((a0.1.length) : Int) > 12))
    (K (0, 8))
    (LoopP (V := Int × Unit) (fun again v => (fun (again1 : Int → Prop) (v1_0 : Int) =>
    br (lenOk (a0.1.length))
    (br (decide (v1_0 < ((a0.1.length) : Int)))
    (br (decide (0 ≤ v1_0) && decide (v1_0 < ((a0.1.length) : Int)))
    (br (!(f111 ((a0.1.getD v1_0.toNat (0, 0)), 1000000000000)))
    (K (v1_0, 2))
    (again1 (IntKind.i64.wrap (v1_0 + 1))))
    False)
    (br (!(f18 (a0.2.2, (0, 1000000000000))))
    (K (0, 2))
    (br (lenOk (a0.2.1.length))
    (br (lenOk (a0.1.length))
    (br (((a0.2.1.length) : Int) != (minmax false a0.2.2 (IntKind.i64.wrap (((a0.1.length) : Int) - 1))))
    (K (0, 10))
    (LoopP (V := Int × Unit) (fun again v => (fun (again2 : Int → Prop) (v2_0 : Int) =>
    br (lenOk (a0.2.1.length))
    (br (decide (v2_0 < ((a0.2.1.length) : Int)))
    (br (decide (0 ≤ v2_0) && decide (v2_0 < ((a0.2.1.length) : Int)))
    (br (!(f111 ((a0.2.1.getD v2_0.toNat (0, 0)), 1000)))
    (K (v2_0, 2))
    (again2 (IntKind.i64.wrap (v2_0 + 1))))
    False)
    (K (0, 0)))
    True)
    (fun v2_0 => again (v2_0, ())) v.1) (0, ())))
    True)
    True)))
    True)
    (fun v1_0 => again (v1_0, ())) v.1) (0, ())))
    True))
    True) := by kernel_rfl
theorem f74_t (a0 : List (Int × Int) × List (Int × Int) × Int) (K : (Int × Int) → Prop) (hK : ∀ y : Int × Int, y = f74 a0 → K y) : RunF Try.prog f74_E f74_A 6 Try.f74 f74_e.doms f74_e.cods a0 K := by
  refine ⟨?_⟩
  rw [f74_run a0 K]
  have e1 : ∀ z, f111 (z, 1000000000000) = okS z := fun z => rfl
  have e2 : ∀ z, f111 (z, 1000) = f103 z := fun z => f111_small z
  simp only [e1, e2]
  rw [br_true_, lenOk_iff]
  intro hl
  rw [br_both]
  refine ⟨fun h => hK _ ?_, fun h => ?_⟩
  · have h : (a0.1.length : Int) = 0 := by simpa using h
    rw [f74, chkS, if_pos (by omega)]
  have h0 : a0.1.length ≠ 0 := fun e => by rw [e] at h; simp at h
  rw [br_true_]
  intro _
  rw [br_dec]
  refine ⟨fun h => hK _ ?_, fun h12 => ?_⟩
  · rw [f74, chkS, if_neg h0, if_pos (by omega)]
  refine LoopP.up a0.1.length (fun i _ => ∀ x ∈ a0.1.take i.toNat, (!okS x) = false) (fun again i v hi0 hn hI hag => ?_) (by omega) all_zero
  dsimp only
  rw [br_true_]
  intro _
  rw [br_dec]
  refine ⟨fun hi => ?_, fun hi => ?_⟩
  · rw [br_false_, wr (n := i + 1) (by omega) (by omega)]
    refine ⟨by simp only [Bool.and_eq_true, decide_eq_true_eq]; omega, ?_⟩
    rw [br_both]
    refine ⟨fun hne => hK _ ?_, fun he => hag () hi (all_step (d := (0, 0)) hi0 hi hI he)⟩
    rw [f74, chkS, if_neg h0, if_neg (by omega), findIdx_at (d := (0, 0)) hi0 hi hI hne]
    simp only
    rw [Int.toNat_of_nonneg hi0]
  have e74 : f74 a0 = chkT a0 := by
    rw [f74, chkS, if_neg h0, if_neg (by omega), findIdx_none (all_done hi hI)]
  rw [br_both]
  refine ⟨fun h => hK _ ?_, fun h => ?_⟩
  · have h : ¬ (0 ≤ a0.2.2 ∧ a0.2.2 ≤ 1000000000000) := fun hh => by simp [f18, hh] at h
    rw [e74, chkT, if_pos h]
  have h : 0 ≤ a0.2.2 ∧ a0.2.2 ≤ 1000000000000 := by simpa [f18] using h
  rw [br_true_, lenOk_iff]
  intro hl2
  rw [br_true_]
  intro _
  rw [wr (n := (a0.1.length : Int) - 1) (by omega) (by omega), br_both]
  refine ⟨fun h2 => hK _ ?_, fun h2 => ?_⟩
  · rw [e74, chkT, if_neg (fun hh => hh h), if_pos (by simpa using h2)]
  have h2 : (a0.2.1.length : Int) = minmax false a0.2.2 ((a0.1.length : Int) - 1) := by simpa using h2
  refine LoopP.up a0.2.1.length (fun i _ => ∀ x ∈ a0.2.1.take i.toNat, (!f103 x) = false) (fun again2 j v hj0 hjn hJ hag2 => ?_) (by omega) all_zero
  dsimp only
  rw [br_true_]
  intro _
  rw [br_dec]
  refine ⟨fun hj => ?_, fun hj => hK _ ?_⟩
  · rw [br_false_, wr (n := j + 1) (by omega) (by omega)]
    refine ⟨by simp only [Bool.and_eq_true, decide_eq_true_eq]; omega, ?_⟩
    rw [br_both]
    refine ⟨fun hne => hK _ ?_, fun he => hag2 () hj (all_step (d := (0, 0)) hj0 hj hJ he)⟩
    rw [e74, chkT, if_neg (fun hh => hh h), if_neg (fun hh => hh h2), findIdx_at (d := (0, 0)) hj0 hj hJ hne]
    simp only
    rw [Int.toNat_of_nonneg hj0]
  · rw [e74, chkT, if_neg (fun hh => hh h), if_neg (fun hh => hh h2), findIdx_none (all_done hj hJ)]
theorem f74_fn : f74_e.fn = f74 := rfl
theorem f74_ok : EntryOK Try.prog 74 f74_e := by
  refine entryF progOK (EnvOK.cons f18_ok (EnvOK.cons f111_ok (EnvOK.cons f123_ok (EnvOK.cons f117_ok (EnvOK.cons f95_ok (EnvOK.cons f140_ok (EnvOK.cons f103_ok (EnvOK.nil)))))))) (A := f74_A) (d := 6) Try.func74 rfl rfl (fun _ _ => trivial) fun x hpre => ?_
  exact f74_t x _ fun _ h => h.trans (congrFun f74_fn.symm _)
structure SumOK (s : List (Int × Int) × List (Int × Int) × Int) : Prop where
  lags : 0 < s.1.length ∧ s.1.length ≤ 12
  each : ∀ z ∈ s.1, (-1000000000000 ≤ z.1 ∧ z.1 ≤ 1000000000000) ∧ -1000000000000 ≤ z.2 ∧ z.2 ≤ 1000000000000
  count : 0 ≤ s.2.2 ∧ s.2.2 ≤ 1000000000000
  tail : (s.2.1.length : Int) = minmax false s.2.2 ((s.1.length : Int) - 1)
  samples : ∀ z ∈ s.2.1, -1000 ≤ z.1 ∧ z.1 ≤ 1000 ∧ -1000 ≤ z.2 ∧ z.2 ≤ 1000
theorem okS_is {z : Int × Int} : okS z = true ↔ ((-1000000000000 ≤ z.1 ∧ z.1 ≤ 1000000000000) ∧ -1000000000000 ≤ z.2 ∧ z.2 ≤ 1000000000000) := by
  simp only [okS, f117, f140, f95]
  rw [wr (n := 0 - 1000000000000) (by omega) (by omega)]
  simp only [Bool.and_eq_true, decide_eq_true_eq]
  omega
theorem chk_ok {s : List (Int × Int) × List (Int × Int) × Int} (h : (chkS s).2 = 0) : SumOK s := by
  unfold chkS at h
  split at h
  · simp at h
  · split at h
    · simp at h
    · split at h
      · simp at h
      · rename_i h0 h12 hf
        unfold chkT at h
        split at h
        · simp at h
        · split at h
          · simp at h
          · split at h
            · simp at h
            · rename_i hc ht _ hf2
              rw [List.findIdx?_eq_none_iff] at hf hf2
              refine ⟨by omega, fun z hz => okS_is.1 (by have := hf z hz; simpa using this), Classical.not_not.1 hc, Classical.not_not.1 ht, fun z hz => ?_⟩
              have := hf2 z hz
              simp only [Bool.not_eq_false', f103, szd, Bool.and_eq_true, decide_eq_true_eq] at this
              omega
end Go.Proofs.Ytdhekhichomoiaa
end

section
namespace Go.Proofs.Ytdhekhichomoiaa
open Go Go.Pi Go.RowKit
set_option maxRecDepth 100000
set_option linter.unusedVariables false
set_option linter.unusedSimpArgs false

/-- A sample of a gate. -/
def cutAt (g : Int × Int × Int × List Int) (l : List (Int × Int)) (gate later : Int) (j : Nat) : Int × Int :=
  let at_ := IntKind.i64.wrap (IntKind.i64.wrap (f110 (g, gate) + j) + later)
  if 0 ≤ at_ ∧ at_ < l.length then (IntKind.i64.wrap (g.2.2.2.getD j 0 * (l.getD at_.toNat (0, 0)).1), IntKind.i64.wrap (g.2.2.2.getD j 0 * (l.getD at_.toNat (0, 0)).2)) else (0, 0)
def f109 (x : (Int × Int × Int × List Int) × List (Int × Int) × Int × Int) : List (Int × Int) := (List.range x.1.2.2.2.length).map (cutAt x.1 x.2.1 x.2.2.1 x.2.2.2)
def f109_pre (x : (Int × Int × Int × List Int) × List (Int × Int) × Int × Int) : Prop := x.1.2.2.2.length ≤ 1048576
def f109_e : Entry := { doms := [(true, (.pair (.int .i64) (.pair (.int .i64) (.pair (.int .i64) (.sl (.int .i64)))))), (false, (.sl (.pair (.int .i64) (.int .i64)))), (false, (.int .i64)), (false, (.int .i64))], cods := [(false, (.sl (.pair (.int .i64) (.int .i64))))], pre := f109_pre, fn := f109, uq := false, total := false }
def f109_E : Env := [(95, f95_e), (110, f110_e)]
def f109_A : Anns := { loops := [(1048576, { tms := [(1, .keep), (2, .keep), (3, .keep), (4, .keep), (9, .ref 1057803), (15, .keep), (16, .keep), (17, .data false (.int .i64))], obs := [(1048576, .keep), (1057803, .arr (.uniq) (.pair (.int .i64) (.int .i64)))], fz := [] })], own := [] }
theorem f109_run (a0 : Int × Int × Int × List Int) (a1 : List (Int × Int)) (a2 : Int) (a3 : Int) (K : (List (Int × Int)) → Prop) : runF Try.prog f109_E f109_A 6 Try.f109 f109_e.doms f109_e.cods (a0, a1, a2, a3) K =
    (br (lenOk (a0.2.2.2.length))
    (LoopP (V := Int × List (Int × Int) × Unit) (fun again v => (fun (again1 : Int → List (Int × Int) → Prop) (v1_0 : Int) (v1_1 : List (Int × Int)) =>
    br (decide (v1_0 < ((a0.2.2.2.length) : Int)))
    (br (decide (0 ≤ v1_0) && decide (v1_0 < ((a0.2.2.2.length) : Int)))
    (br (lenOk (a1.length))
    (br (f95 ((IntKind.i64.wrap ((IntKind.i64.wrap ((f110 (a0, a2)) + v1_0)) + a3)), (0, (IntKind.i64.wrap (((a1.length) : Int) - 1)))))
    (br (decide (0 ≤ (IntKind.i64.wrap ((IntKind.i64.wrap ((f110 (a0, a2)) + v1_0)) + a3))) && decide ((IntKind.i64.wrap ((IntKind.i64.wrap ((f110 (a0, a2)) + v1_0)) + a3)) < ((a1.length) : Int)))
    (br (roomOk ((v1_1.length) + 1) 16)
    (again1 (IntKind.i64.wrap (v1_0 + 1)) (v1_1 ++ ([((IntKind.i64.wrap ((a0.2.2.2.getD v1_0.toNat 0) * (a1.getD ((IntKind.i64.wrap ((IntKind.i64.wrap ((f110 (a0, a2)) + v1_0)) + a3)).toNat) (0, 0)).1)), (IntKind.i64.wrap ((a0.2.2.2.getD v1_0.toNat 0) * (a1.getD ((IntKind.i64.wrap ((IntKind.i64.wrap ((f110 (a0, a2)) + v1_0)) + a3)).toNat) (0, 0)).2)))] : List (Int × Int))))
    False)
    False)
    (br (roomOk ((v1_1.length) + 1) 16)
    (again1 (IntKind.i64.wrap (v1_0 + 1)) (v1_1 ++ ([((IntKind.i64.wrap ((a0.2.2.2.getD v1_0.toNat 0) * 0)), (IntKind.i64.wrap ((a0.2.2.2.getD v1_0.toNat 0) * 0)))] : List (Int × Int))))
    False))
    True)
    False)
    (K v1_1))
    (fun v1_0 v1_1 => again (v1_0, v1_1, ())) v.1 v.2.1) (0, ([] : List (Int × Int)), ()))
    True) := by kernel_rfl
theorem f109_t (a0 : Int × Int × Int × List Int) (a1 : List (Int × Int)) (a2 : Int) (a3 : Int) (hpre : f109_pre (a0, a1, a2, a3)) (K : (List (Int × Int)) → Prop) (hK : ∀ y : List (Int × Int), y = f109 (a0, a1, a2, a3) → K y) : RunF Try.prog f109_E f109_A 6 Try.f109 f109_e.doms f109_e.cods (a0, a1, a2, a3) K := by
  refine ⟨?_⟩
  rw [f109_run a0 a1 a2 a3 K]
  have hpl : a0.2.2.2.length ≤ 1048576 := hpre
  rw [br_true_]
  intro _
  refine LoopP.up a0.2.2.2.length (fun i v => v.1 = (List.range i.toNat).map (cutAt a0 a1 a2 a3)) (fun again i v hi0 hn hI hag => ?_) (by omega) rfl
  obtain ⟨v, u⟩ := v
  simp only at hI hag ⊢
  subst hI
  rw [br_both]
  refine ⟨fun hi => ?_, fun hi => hK _ ?_⟩
  · simp only [decide_eq_true_eq] at hi
    rw [br_false_]
    refine ⟨by simp only [Bool.and_eq_true, decide_eq_true_eq]; exact ⟨hi0, hi⟩, ?_⟩
    rw [br_true_, lenOk_iff]
    intro hll
    rw [wr (n := (a1.length : Int) - 1) (by omega) (by omega), wr (n := i + 1) (by omega) (by omega)]
    have hroom : roomOk (((List.range i.toNat).map (cutAt a0 a1 a2 a3)).length + 1) 16 = true := by rw [roomOk_iff]; simp; omega
    have hcast : ((i.toNat : Nat) : Int) = i := Int.toNat_of_nonneg hi0
    have next : ∀ z, z = cutAt a0 a1 a2 a3 i.toNat → again (i + 1, (List.range i.toNat).map (cutAt a0 a1 a2 a3) ++ [z], ()) := fun z hz => hag _ hi (by
      show _ = (List.range (i + 1).toNat).map (cutAt a0 a1 a2 a3)
      rw [← app_step hi0, hz])
    rw [br_both]
    refine ⟨fun h => ?_, fun h => ?_⟩
    · simp only [f95, Bool.and_eq_true, decide_eq_true_eq] at h
      rw [br_false_]
      refine ⟨by simp only [Bool.and_eq_true, decide_eq_true_eq]; omega, ?_⟩
      rw [hroom, br_t]
      refine next _ ?_
      unfold cutAt
      rw [hcast]
      simp only
      rw [if_pos (by omega)]
    · simp only [f95, Bool.and_eq_false_iff, decide_eq_false_iff_not] at h
      rw [hroom, br_t]
      refine next _ ?_
      unfold cutAt
      rw [hcast]
      simp only
      rw [if_neg (by omega), Int.mul_zero, wrap_zero]
  · simp only [decide_eq_false_iff_not] at hi
    rw [f109, show i.toNat = a0.2.2.2.length by omega]
theorem f109_fn : f109_e.fn = f109 := rfl
theorem f109_ok : EntryOK Try.prog 109 f109_e := by
  refine entryF progOK (EnvOK.cons f95_ok (EnvOK.cons f110_ok (EnvOK.nil))) (A := f109_A) (d := 6) Try.func109 rfl rfl (fun h => by cases h) fun x hpre => ?_
  obtain ⟨a0, a1, a2, a3⟩ := x
  exact f109_t a0 a1 a2 a3 hpre _ fun _ h => h.trans (congrFun f109_fn.symm _)
end Go.Proofs.Ytdhekhichomoiaa
end
