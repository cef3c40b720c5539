/- What functions of the program compute, each proved once, part 3. -/
import Derived.Test.YtdhekhichomoiaaPiC
import Derived.Test.YtdhekhichomoiaaFnA

section
namespace Go.Proofs.Ytdhekhichomoiaa
open Go Go.Pi Go.RowKit
set_option maxRecDepth 100000
set_option linter.unusedVariables false
set_option linter.unusedSimpArgs false

def f18 (x : Int × Int × Int) : Bool := decide (x.2.1 ≤ x.1) && decide (x.1 ≤ x.2.2)
def f18_e : Entry := { doms := [(false, (.int .i64)), (false, (.int .i64)), (false, (.int .i64))], cods := [(false, .bool)], pre := fun _ => True, fn := f18, uq := false, total := true }
def f18_E : Env := []
def f18_A : Anns := { loops := [], own := [] }
theorem f18_run (a0 : Int) (a1 : Int) (a2 : Int) (K : Bool → Prop) : runF Try.prog f18_E f18_A 6 Try.f18 f18_e.doms f18_e.cods (a0, a1, a2) K =
    (br (decide (a1 ≤ a0))
    (K (decide (a0 ≤ a2)))
    (K false)) := by kernel_rfl
theorem f18_t (a0 : Int) (a1 : Int) (a2 : Int) (K : Bool → Prop) (hK : ∀ y : Bool, y = f18 (a0, a1, a2) → K y) : RunF Try.prog f18_E f18_A 6 Try.f18 f18_e.doms f18_e.cods (a0, a1, a2) K := by
  refine ⟨?_⟩
  rw [f18_run a0 a1 a2 K]
  rw [br_dec]
  exact ⟨fun h => hK _ (by simp [f18, h]), fun h => hK _ (by simp [f18, h])⟩
theorem f18_fn : f18_e.fn = f18 := rfl
theorem f18_ok : EntryOK Try.prog 18 f18_e := by
  refine entryF progOK (EnvOK.nil) (A := f18_A) (d := 6) Try.func18 rfl rfl (fun _ _ => trivial) fun x hpre => ?_
  obtain ⟨a0, a1, a2⟩ := x
  exact f18_t a0 a1 a2 _ fun _ h => h.trans (congrFun f18_fn.symm _)
end Go.Proofs.Ytdhekhichomoiaa
end

section
namespace Go.Proofs.Ytdhekhichomoiaa
open Go Go.Pi Go.RowKit
set_option maxRecDepth 100000
set_option linter.unusedVariables false
set_option linter.unusedSimpArgs false

def inC (n : Int) : Bool := f18 (n, -60, 60)
def f17 (l : List Int) : Int := if l.length = 0 then 10 else if 4 < l.length then 8 else if l.all inC then 0 else 2
def f17_e : Entry := { doms := [(false, (.sl (.int .i64)))], cods := [(false, (.int .i64))], pre := fun _ => True, fn := f17, uq := false, total := true }
def f17_E : Env := [(18, f18_e)]
def f17_A : Anns := { loops := [(1048576, { tms := [(0, .keep), (3, .data false (.int .i64))], obs := [], fz := [] })], own := [] }
theorem f17_run (a0 : List Int) (K : Int → Prop) : runF Try.prog f17_E f17_A 6 Try.f17 f17_e.doms f17_e.cods a0 K =
    (br (lenOk (a0.length))
    (br (((a0.length) : Int) == 0)
    (K 10)
    (br (lenOk (a0.length))
    (br (decide (((a0.length) : Int) > 4))
    (K 8)
    (LoopP (V := Int × Unit) (fun again v => (fun (again1 : Int → Prop) (v1_0 : Int) =>
    br (lenOk (a0.length))
    (br (decide (v1_0 < ((a0.length) : Int)))
    (br (decide (0 ≤ v1_0) && decide (v1_0 < ((a0.length) : Int)))
    (br (!(f18 ((a0.getD v1_0.toNat 0), ((-60), 60))))
    (K 2)
    (again1 (IntKind.i64.wrap (v1_0 + 1))))
    False)
    (K 0))
    True)
    (fun v1_0 => again (v1_0, ())) v.1) (0, ())))
    True))
    True) := by kernel_rfl
theorem f17_t (a0 : List Int) (K : Int → Prop) (hK : ∀ y : Int, y = f17 a0 → K y) : RunF Try.prog f17_E f17_A 6 Try.f17 f17_e.doms f17_e.cods a0 K := by
  refine ⟨?_⟩
  rw [f17_run a0 K]
  rw [br_true_, lenOk_iff]
  intro hl
  rw [br_both]
  refine ⟨fun h => hK _ ?_, fun h => ?_⟩
  · have h : (a0.length : Int) = 0 := by simpa using h
    rw [f17, if_pos (by omega)]
  have h0 : a0.length ≠ 0 := fun e => by rw [e] at h; simp at h
  rw [br_true_]
  intro _
  rw [br_dec]
  refine ⟨fun h => hK _ ?_, fun h4 => ?_⟩
  · rw [f17, if_neg h0, if_pos (by omega)]
  refine LoopP.up a0.length (fun i _ => ∀ x ∈ a0.take i.toNat, inC x = true) (fun again i v hi0 hn hI hag => ?_) (by omega) all_zero
  dsimp only
  rw [br_true_]
  intro _
  rw [br_dec]
  refine ⟨fun hi => ?_, fun hi => hK _ ?_⟩
  · rw [br_false_]
    refine ⟨by simp only [Bool.and_eq_true, decide_eq_true_eq]; exact ⟨hi0, hi⟩, ?_⟩
    rw [br_both, wr (n := i + 1) (by omega) (by omega)]
    refine ⟨fun hne => hK _ ?_, fun he => hag () hi (all_step (d := 0) hi0 hi hI (by simpa [inC] using he))⟩
    rw [f17, if_neg h0, if_neg (by omega), if_neg]
    intro hall
    have := List.all_eq_true.1 hall (a0.getD i.toNat 0) (by rw [getD_lt (by omega)]; exact List.getElem_mem _)
    simp only [inC] at this
    rw [this] at hne
    simp at hne
  · rw [f17, if_neg h0, if_neg (by omega), if_pos (List.all_eq_true.2 (all_done hi hI))]
theorem f17_fn : f17_e.fn = f17 := rfl
theorem f17_ok : EntryOK Try.prog 17 f17_e := by
  refine entryF progOK (EnvOK.cons f18_ok (EnvOK.nil)) (A := f17_A) (d := 6) Try.func17 rfl rfl (fun _ _ => trivial) fun x hpre => ?_
  exact f17_t x _ fun _ h => h.trans (congrFun f17_fn.symm _)
end Go.Proofs.Ytdhekhichomoiaa
end

section
namespace Go.Proofs.Ytdhekhichomoiaa
open Go Go.Pi Go.RowKit
set_option maxRecDepth 100000
set_option linter.unusedVariables false
set_option linter.unusedSimpArgs false

def f140 (x : Int × Int) : Bool := f95 (x.1, IntKind.i64.wrap (0 - x.2), x.2)
def f140_e : Entry := { doms := [(false, (.int .i64)), (false, (.int .i64))], cods := [(false, .bool)], pre := fun _ => True, fn := f140, uq := false, total := true }
def f140_E : Env := [(95, f95_e)]
def f140_A : Anns := { loops := [], own := [] }
theorem f140_run (a0 : Int) (a1 : Int) (K : Bool → Prop) : runF Try.prog f140_E f140_A 6 Try.f140 f140_e.doms f140_e.cods (a0, a1) K =
    (K (f95 (a0, ((IntKind.i64.wrap (0 - a1)), a1)))) := by kernel_rfl
theorem f140_t (a0 : Int) (a1 : Int) (K : Bool → Prop) (hK : ∀ y : Bool, y = f140 (a0, a1) → K y) : RunF Try.prog f140_E f140_A 6 Try.f140 f140_e.doms f140_e.cods (a0, a1) K := by
  refine ⟨?_⟩
  rw [f140_run a0 a1 K]
  exact hK _ rfl
theorem f140_fn : f140_e.fn = f140 := rfl
theorem f140_ok : EntryOK Try.prog 140 f140_e := by
  refine entryF progOK (EnvOK.cons f95_ok (EnvOK.nil)) (A := f140_A) (d := 6) Try.func140 rfl rfl (fun _ _ => trivial) fun x hpre => ?_
  obtain ⟨a0, a1⟩ := x
  exact f140_t a0 a1 _ fun _ h => h.trans (congrFun f140_fn.symm _)
end Go.Proofs.Ytdhekhichomoiaa
end

section
namespace Go.Proofs.Ytdhekhichomoiaa
open Go Go.Pi Go.RowKit
set_option maxRecDepth 100000
set_option linter.unusedVariables false
set_option linter.unusedSimpArgs false

def f91 (l : List Int) : Int := f17 l
def f91_e : Entry := { doms := [(false, (.sl (.int .i64)))], cods := [(false, (.int .i64))], pre := fun _ => True, fn := f91, uq := false, total := true }
def f91_E : Env := [(93, f93_e), (94, f94_e), (140, f140_e), (17, f17_e), (95, f95_e)]
def f91_A : Anns := { loops := [(1154048505101156352, { tms := [(0, .keep), (1, .keep), (7, .keep), (8, .data false (.int .i64))], obs := [], fz := [] })], own := [] }
theorem f91_run (a0 : List Int) (K : Int → Prop) : runF Try.prog f91_E f91_A 6 Try.f91 f91_e.doms f91_e.cods a0 K =
    (br (lenOk (a0.length))
    (LoopP (V := Int × Unit) (fun again v => (fun (again1 : Int → Prop) (v1_0 : Int) =>
    br (decide (v1_0 < ((a0.length) : Int)))
    (br (decide (0 ≤ v1_0) && decide (v1_0 < ((a0.length) : Int)))
    (br (!(f140 ((a0.getD v1_0.toNat 0), 60)))
    (br (lenOk (a0.length))
    (br (lenOk (a0.length))
    (K (f93 ([(f94 ((decide (((a0.length) : Int) > 0)), 10)), (f94 ((decide (((a0.length) : Int) ≤ 4)), 8)), (f94 ((!(decide (v1_0 ≥ 0))), 2))] : List Int)))
    True)
    True)
    (again1 (IntKind.i64.wrap (v1_0 + 1))))
    False)
    (br (lenOk (a0.length))
    (br (lenOk (a0.length))
    (K (f93 ([(f94 ((decide (((a0.length) : Int) > 0)), 10)), (f94 ((decide (((a0.length) : Int) ≤ 4)), 8)), (f94 (true, 2))] : List Int)))
    True)
    True))
    (fun v1_0 => again (v1_0, ())) v.1) (0, ()))
    True) := by kernel_rfl
theorem f91_t (a0 : List Int) (K : Int → Prop) (hK : ∀ y : Int, y = f91 a0 → K y) : RunF Try.prog f91_E f91_A 6 Try.f91 f91_e.doms f91_e.cods a0 K := by
  refine ⟨?_⟩
  rw [f91_run a0 K]
  have e140 : ∀ n : Int, f140 (n, 60) = inC n := fun n => rfl
  have hlen : ∀ b : Bool, f93 [f94 (decide ((a0.length : Int) > 0), 10), f94 (decide ((a0.length : Int) ≤ 4), 8), f94 (b, 2)] = if a0.length = 0 then 10 else if 4 < a0.length then 8 else if b then 0 else 2 := fun b => by
    simp only [f93_cons, f93_nil, f94]
    by_cases h : a0.length = 0
    · simp [h]
    · have h1 : ((a0.length : Int) > 0) := by omega
      by_cases h4 : 4 < a0.length
      · have h2 : ¬ ((a0.length : Int) ≤ 4) := by omega
        simp only [h1, h2, h, h4]
        simp
      · have h2 : ((a0.length : Int) ≤ 4) := by omega
        simp only [h1, h2, h, h4]
        cases b <;> simp
  simp only [e140, hlen]
  rw [br_true_, lenOk_iff]
  intro hl
  refine LoopP.up a0.length (fun i _ => ∀ x ∈ a0.take i.toNat, inC x = true) (fun again i v hi0 hn hI hag => ?_) (by omega) all_zero
  dsimp only
  rw [br_dec]
  refine ⟨fun hi => ?_, fun hi => ?_⟩
  · rw [br_false_]
    refine ⟨by simp only [Bool.and_eq_true, decide_eq_true_eq]; exact ⟨hi0, hi⟩, ?_⟩
    rw [br_both, wr (n := i + 1) (by omega) (by omega)]
    refine ⟨fun hne => ?_, fun he => hag () hi (all_step (d := 0) hi0 hi hI (by simpa using he))⟩
    rw [br_true_]
    intro _
    rw [br_true_]
    intro _
    refine hK _ ?_
    have hall : a0.all inC = false := by
      rw [Bool.eq_false_iff]
      intro hall
      have := List.all_eq_true.1 hall (a0.getD i.toNat 0) (by rw [getD_lt (by omega)]; exact List.getElem_mem _)
      rw [this] at hne
      simp at hne
    rw [f91, f17, hall, show decide (i ≥ 0) = true from decide_eq_true hi0]
    rfl
  · rw [br_true_]
    intro _
    rw [br_true_]
    intro _
    refine hK _ ?_
    rw [f91, f17, List.all_eq_true.2 (all_done hi hI)]
    simp
theorem f91_fn : f91_e.fn = f91 := rfl
theorem f91_ok : EntryOK Try.prog 91 f91_e := by
  refine entryF progOK (EnvOK.cons f93_ok (EnvOK.cons f94_ok (EnvOK.cons f140_ok (EnvOK.cons f17_ok (EnvOK.cons f95_ok (EnvOK.nil)))))) (A := f91_A) (d := 6) Try.func91 rfl rfl (fun _ _ => trivial) fun x hpre => ?_
  exact f91_t x _ fun _ h => h.trans (congrFun f91_fn.symm _)
end Go.Proofs.Ytdhekhichomoiaa
end

section
namespace Go.Proofs.Ytdhekhichomoiaa
open Go Go.Pi Go.RowKit
set_option maxRecDepth 100000
set_option linter.unusedVariables false
set_option linter.unusedSimpArgs false

def f20 (l : List Int) : Bool × Int := if f17 l ≠ 0 then (false, f17 l) else (f92 l, 0)
theorem pol_ok {l : List Int} (h : f17 l = 0) : 0 < l.length ∧ l.length ≤ 4 ∧ ∀ x ∈ l, -60 ≤ x ∧ x ≤ 60 := by
  unfold f17 at h
  split at h
  · simp at h
  · split at h
    · simp at h
    · split at h
      · rename_i h0 h4 ha
        refine ⟨by omega, by omega, fun x hx => ?_⟩
        have := List.all_eq_true.1 ha x hx
        simpa [inC, f18] using this
      · simp at h
def f20_e : Entry := { doms := [(false, (.sl (.int .i64)))], cods := [(false, .bool), (false, (.int .i64))], pre := fun _ => True, fn := f20, uq := false, total := true }
def f20_E : Env := [(91, f91_e), (92, f92_e), (17, f17_e)]
def f20_A : Anns := { loops := [], own := [] }
theorem f20_run (a0 : List Int) (K : (Bool × Int) → Prop) : runF Try.prog f20_E f20_A 6 Try.f20 f20_e.doms f20_e.cods a0 K =
    (br ((f91 a0) != 0)
    (K (false, (f91 a0)))
    (f92_pre a0 ∧
    K ((f92 a0), 0))) := by kernel_rfl
theorem f20_t (a0 : List Int) (K : (Bool × Int) → Prop) (hK : ∀ y : Bool × Int, y = f20 a0 → K y) : RunF Try.prog f20_E f20_A 6 Try.f20 f20_e.doms f20_e.cods a0 K := by
  refine ⟨?_⟩
  rw [f20_run a0 K]
  rw [show f91 a0 = f17 a0 from rfl, br_both]
  refine ⟨fun h => hK _ ?_, fun h => ?_⟩
  · have h : f17 a0 ≠ 0 := by simpa using h
    rw [f20, if_pos h]
  · have h : f17 a0 = 0 := by simpa using h
    have hp := pol_ok h
    refine ⟨⟨hp.1, by omega⟩, hK _ ?_⟩
    rw [f20, if_neg (fun hh => hh h)]
theorem f20_fn : f20_e.fn = f20 := rfl
theorem f20_ok : EntryOK Try.prog 20 f20_e := by
  refine entryF progOK (EnvOK.cons f91_ok (EnvOK.cons f92_ok (EnvOK.cons f17_ok (EnvOK.nil)))) (A := f20_A) (d := 6) Try.func20 rfl rfl (fun _ _ => trivial) fun x hpre => ?_
  exact f20_t x _ fun _ h => h.trans (congrFun f20_fn.symm _)
end Go.Proofs.Ytdhekhichomoiaa
end

section
namespace Go.Proofs.Ytdhekhichomoiaa
open Go Go.Pi Go.RowKit
set_option maxRecDepth 100000
set_option linter.unusedVariables false
set_option linter.unusedSimpArgs false

def f21 (l : List Int) : List Int := l
def f21_pre (l : List Int) : Prop := l.length ≤ 1048576
def f21_e : Entry := { doms := [(false, (.sl (.int .i64)))], cods := [(false, (.sl (.int .i64)))], pre := f21_pre, fn := f21, uq := true, total := false }
def f21_E : Env := []
def f21_A : Anns := { loops := [], own := [1049600] }
theorem f21_run (a0 : List Int) (K : (List Int) → Prop) : runU Try.prog f21_E f21_A 6 Try.f21 f21_e.doms f21_e.cods a0 K =
    (br (roomOk (0 + (a0.length)) 8)
    (K (([] : List Int) ++ a0))
    False) := by kernel_rfl
theorem f21_t (a0 : List Int) (hpre : f21_pre a0) (K : (List Int) → Prop) (hK : ∀ y : List Int, y = f21 a0 → K y) : RunU Try.prog f21_E f21_A 6 Try.f21 f21_e.doms f21_e.cods a0 K := by
  refine ⟨?_⟩
  rw [f21_run a0 K]
  simp only [br_false_, roomOk_iff]
  have : a0.length ≤ 1048576 := hpre
  exact ⟨by omega, hK _ (by simp [f21])⟩
theorem f21_fn : f21_e.fn = f21 := rfl
theorem f21_ok : EntryOK Try.prog 21 f21_e := by
  refine entryFU progOK (EnvOK.nil) (A := f21_A) (d := 6) Try.func21 rfl (fun h => by cases h) fun x hpre => ?_
  exact f21_t x hpre _ fun _ h => h.trans (congrFun f21_fn.symm _)
end Go.Proofs.Ytdhekhichomoiaa
end

section
namespace Go.Proofs.Ytdhekhichomoiaa
open Go Go.Pi Go.RowKit
set_option maxRecDepth 100000
set_option linter.unusedVariables false
set_option linter.unusedSimpArgs false

def sumAt (a b : List Int) (t : Int) (j : Nat) : Int := IntKind.i64.wrap (a.getD j 0 + IntKind.i64.wrap (t * b.getD j 0))
def f23 (x : List Int × List Int × Int) : List Int := (List.range x.1.length).map (sumAt x.1 x.2.1 x.2.2)
def f23_pre (x : List Int × List Int × Int) : Prop := x.1.length ≤ x.2.1.length ∧ x.1.length ≤ 1048576
def f23_e : Entry := { doms := [(false, (.sl (.int .i64))), (false, (.sl (.int .i64))), (false, (.int .i64))], cods := [(false, (.sl (.int .i64)))], pre := f23_pre, fn := f23, uq := false, total := false }
def f23_E : Env := []
def f23_A : Anns := { loops := [(1048576, { tms := [(0, .keep), (1, .keep), (2, .keep), (7, .ref 1053709), (8, .data false (.int .i64))], obs := [(1053709, .arr (.uniq) (.int .i64))], fz := [] })], own := [] }
theorem f23_run (a0 : List Int) (a1 : List Int) (a2 : Int) (K : (List Int) → Prop) : runF Try.prog f23_E f23_A 6 Try.f23 f23_e.doms f23_e.cods (a0, a1, a2) K =
    (LoopP (V := Int × List Int × Unit) (fun again v => (fun (again1 : Int → List Int → Prop) (v1_0 : Int) (v1_1 : List Int) =>
    br (lenOk (a0.length))
    (br (decide (v1_0 < ((a0.length) : Int)))
    (br (decide (0 ≤ v1_0) && decide (v1_0 < ((a0.length) : Int)))
    (br (decide (0 ≤ v1_0) && decide (v1_0 < ((a1.length) : Int)))
    (br (roomOk ((v1_1.length) + 1) 8)
    (again1 (IntKind.i64.wrap (v1_0 + 1)) (v1_1 ++ ([(IntKind.i64.wrap ((a0.getD v1_0.toNat 0) + (IntKind.i64.wrap (a2 * (a1.getD v1_0.toNat 0)))))] : List Int)))
    False)
    False)
    False)
    (K v1_1))
    True)
    (fun v1_0 v1_1 => again (v1_0, v1_1, ())) v.1 v.2.1) (0, ([] : List Int), ())) := by kernel_rfl
theorem f23_t (a0 : List Int) (a1 : List Int) (a2 : Int) (hpre : f23_pre (a0, a1, a2)) (K : (List Int) → Prop) (hK : ∀ y : List Int, y = f23 (a0, a1, a2) → K y) : RunF Try.prog f23_E f23_A 6 Try.f23 f23_e.doms f23_e.cods (a0, a1, a2) K := by
  refine ⟨?_⟩
  rw [f23_run a0 a1 a2 K]
  obtain ⟨hab, hl⟩ := hpre
  simp only at hab hl
  refine LoopP.up a0.length (fun i v => v.1 = (List.range i.toNat).map (sumAt a0 a1 a2)) (fun again i v hi0 hn hI hag => ?_) (by omega) rfl
  obtain ⟨v, u⟩ := v
  simp only at hI hag ⊢
  subst hI
  rw [br_true_]
  intro _
  rw [br_dec]
  refine ⟨fun hi => ?_, fun hi => hK _ ?_⟩
  · rw [br_false_]
    refine ⟨by simp only [Bool.and_eq_true, decide_eq_true_eq]; exact ⟨hi0, hi⟩, ?_⟩
    rw [br_false_]
    refine ⟨by simp only [Bool.and_eq_true, decide_eq_true_eq]; exact ⟨hi0, by omega⟩, ?_⟩
    rw [br_false_, roomOk_iff, wr (n := i + 1) (by omega) (by omega)]
    refine ⟨by simp; omega, hag _ hi ?_⟩
    exact app_step (g := sumAt a0 a1 a2) hi0
  · rw [f23, show i.toNat = a0.length by omega]
theorem f23_fn : f23_e.fn = f23 := rfl
theorem f23_ok : EntryOK Try.prog 23 f23_e := by
  refine entryF progOK (EnvOK.nil) (A := f23_A) (d := 6) Try.func23 rfl rfl (fun h => by cases h) fun x hpre => ?_
  obtain ⟨a0, a1, a2⟩ := x
  exact f23_t a0 a1 a2 hpre _ fun _ h => h.trans (congrFun f23_fn.symm _)
end Go.Proofs.Ytdhekhichomoiaa
end

section
namespace Go.Proofs.Ytdhekhichomoiaa
open Go Go.Pi Go.RowKit
set_option maxRecDepth 100000
set_option linter.unusedVariables false
set_option linter.unusedSimpArgs false

def f42 (x : Int × Int) : Int := if x.1 ≠ 0 then x.1 else x.2
def f42_e : Entry := { doms := [(false, (.int .i64)), (false, (.int .i64))], cods := [(false, (.int .i64))], pre := fun _ => True, fn := f42, uq := false, total := true }
def f42_E : Env := []
def f42_A : Anns := { loops := [], own := [] }
theorem f42_run (a0 : Int) (a1 : Int) (K : Int → Prop) : runF Try.prog f42_E f42_A 6 Try.f42 f42_e.doms f42_e.cods (a0, a1) K =
    (br (a0 != 0)
    (K a0)
    (K a1)) := by kernel_rfl
theorem f42_t (a0 : Int) (a1 : Int) (K : Int → Prop) (hK : ∀ y : Int, y = f42 (a0, a1) → K y) : RunF Try.prog f42_E f42_A 6 Try.f42 f42_e.doms f42_e.cods (a0, a1) K := by
  refine ⟨?_⟩
  rw [f42_run a0 a1 K]
  rw [br_both]
  exact ⟨fun h => hK _ (by simp at h; simp [f42, h]), fun h => hK _ (by simp at h; simp [f42, h])⟩
theorem f42_fn : f42_e.fn = f42 := rfl
theorem f42_ok : EntryOK Try.prog 42 f42_e := by
  refine entryF progOK (EnvOK.nil) (A := f42_A) (d := 6) Try.func42 rfl rfl (fun _ _ => trivial) fun x hpre => ?_
  obtain ⟨a0, a1⟩ := x
  exact f42_t a0 a1 _ fun _ h => h.trans (congrFun f42_fn.symm _)
end Go.Proofs.Ytdhekhichomoiaa
end

section
namespace Go.Proofs.Ytdhekhichomoiaa
open Go Go.Pi Go.RowKit
set_option maxRecDepth 100000
set_option linter.unusedVariables false
set_option linter.unusedSimpArgs false

def mgE (a b : List Int) (n : Int) : Int := f42 (f17 a, f42 (f17 b, f42 (f94 ((a.length : Int) == (b.length : Int), 13), f94 (f95 (n, 0, 60), 2))))
/-- A sum is locked. -/
def lkd (a b : List Int) (h : Int) : Bool := decide (f17 (f23 (a, b, h)) = 0) && f92 (f23 (a, b, h))
def mgOf (a b : List Int) (n : Int) : Int × Int := match (List.range (n + 1).toNat).find? (fun (h : Nat) => !lkd a b (h : Int)) with
  | none => (n, 0)
  | some 0 => (0, 18)
  | some (h + 1) => ((h : Int), 0)
def f22 (x : List Int × List Int × Int) : Int × Int := if mgE x.1 x.2.1 x.2.2 ≠ 0 then (0, mgE x.1 x.2.1 x.2.2) else mgOf x.1 x.2.1 x.2.2
theorem f42_z {a b : Int} (h : f42 (a, b) = 0) : a = 0 ∧ b = 0 := by
  unfold f42 at h
  split at h
  · contradiction
  · rename_i h1
    exact ⟨Classical.not_not.1 h1, h⟩
structure MgOK (a b : List Int) (n : Int) : Prop where
  a0 : f17 a = 0
  b0 : f17 b = 0
  len : a.length = b.length
  most : 0 ≤ n ∧ n ≤ 60
theorem mg_ok {a b : List Int} {n : Int} (h : mgE a b n = 0) : MgOK a b n := by
  obtain ⟨h1, h2⟩ := f42_z h
  obtain ⟨h3, h4⟩ := f42_z h2
  obtain ⟨h5, h6⟩ := f42_z h4
  refine ⟨h1, h3, ?_, ?_⟩
  · by_cases e : ((a.length : Int) == (b.length : Int)) = true
    · have e : (a.length : Int) = (b.length : Int) := by simpa using e
      omega
    · simp [f94, e] at h5
  · by_cases e : f95 (n, 0, 60) = true
    · simpa [f95] using e
    · simp [f94, e] at h6
theorem range_find_some {p : Nat → Bool} {n h : Nat} (hh : h < n) (h1 : ∀ j, j < h → p j = false) (h2 : p h = true) : (List.range n).find? p = some h := by
  rw [List.find?_range_eq_some]
  exact ⟨h2, by simpa using hh, fun j hj => by simp [h1 j hj]⟩
theorem range_find_none {p : Nat → Bool} {n : Nat} (h1 : ∀ j, j < n → p j = false) : (List.range n).find? p = none := by
  rw [List.find?_eq_none]
  intro j hj
  rw [List.mem_range] at hj
  simp [h1 j hj]
def f22_e : Entry := { doms := [(false, (.sl (.int .i64))), (false, (.sl (.int .i64))), (false, (.int .i64))], cods := [(false, (.int .i64)), (false, (.int .i64))], pre := fun _ => True, fn := f22, uq := false, total := true }
def f22_E : Env := [(91, f91_e), (92, f92_e), (93, f93_e), (94, f94_e), (95, f95_e), (96, f96_e), (20, f20_e), (23, f23_e), (42, f42_e), (17, f17_e)]
def f22_A : Anns := { loops := [(1048576, { tms := [(0, .keep), (1, .keep), (2, .keep), (9, .data false (.int .i64))], obs := [], fz := [] }),
  (1048578, { tms := [(0, .keep), (1, .keep), (2, .keep), (9, .keep), (10, .ref 1055745), (38, .keep), (39, .keep), (40, .data false (.int .i64))], obs := [(1055745, .arr (.uniq) (.int .i64))], fz := [] })], own := [1055745] }
theorem f22_run (a0 : List Int) (a1 : List Int) (a2 : Int) (K : (Int × Int) → Prop) : runF Try.prog f22_E f22_A 6 Try.f22 f22_e.doms f22_e.cods (a0, a1, a2) K =
    (br (lenOk (a0.length))
    (br (lenOk (a1.length))
    (br ((f93 ([(f91 a0), (f91 a1), (f94 ((((a0.length) : Int) == ((a1.length) : Int)), 13)), (f94 ((f95 (a2, (0, 60))), 2))] : List Int)) != 0)
    (K (0, (f93 ([(f91 a0), (f91 a1), (f94 ((((a0.length) : Int) == ((a1.length) : Int)), 13)), (f94 ((f95 (a2, (0, 60))), 2))] : List Int))))
    (LoopP (V := Int × Unit) (fun again v => (fun (again1 : Int → Prop) (v1_0 : Int) =>
    br (decide (v1_0 ≤ a2))
    (f96_pre a0 ∧
    br (lenOk (a1.length))
    (LoopP (V := Int × List Int × Unit) (fun again v => (fun (again2 : Int → List Int → Prop) (v2_0 : Int) (v2_1 : List Int) =>
    br (decide (v2_0 < ((a1.length) : Int)))
    (br (decide (0 ≤ v2_0) && decide (v2_0 < ((a1.length) : Int)))
    (br (decide (0 ≤ v2_0) && decide (v2_0 < ((v2_1.length) : Int)))
    (br (decide (0 ≤ v2_0) && decide (v2_0 < ((v2_1.length) : Int)))
    (again2 (IntKind.i64.wrap (v2_0 + 1)) (v2_1.set v2_0.toNat (IntKind.i64.wrap ((v2_1.getD v2_0.toNat 0) + (IntKind.i64.wrap (v1_0 * (a1.getD v2_0.toNat 0)))))))
    False)
    False)
    False)
    (br ((f91 v2_1) == 0)
    (f92_pre v2_1 ∧
    br (f92 v2_1)
    (again1 (IntKind.i64.wrap (v1_0 + 1)))
    (br (v1_0 == 0)
    (K (0, 18))
    (K ((IntKind.i64.wrap (v1_0 - 1)), 0))))
    (br (v1_0 == 0)
    (K (0, 18))
    (K ((IntKind.i64.wrap (v1_0 - 1)), 0)))))
    (fun v2_0 v2_1 => again (v2_0, v2_1, ())) v.1 v.2.1) (0, (f96 a0), ()))
    True)
    (K (a2, 0)))
    (fun v1_0 => again (v1_0, ())) v.1) (0, ())))
    True)
    True) := by kernel_rfl
theorem f22_t (a0 : List Int) (a1 : List Int) (a2 : Int) (K : (Int × Int) → Prop) (hK : ∀ y : Int × Int, y = f22 (a0, a1, a2) → K y) : RunF Try.prog f22_E f22_A 6 Try.f22 f22_e.doms f22_e.cods (a0, a1, a2) K := by
  refine ⟨?_⟩
  rw [f22_run a0 a1 a2 K]
  have e : f93 [f91 a0, f91 a1, f94 ((a0.length : Int) == (a1.length : Int), 13), f94 (f95 (a2, 0, 60), 2)] = mgE a0 a1 a2 := by
    simp only [f93_cons, f93_nil, mgE, f42, f91]
    by_cases h : f17 a0 = 0 <;> by_cases h2 : f17 a1 = 0 <;> by_cases h3 : f94 ((a0.length : Int) == (a1.length : Int), 13) = 0 <;> by_cases h4 : f94 (f95 (a2, 0, 60), 2) = 0 <;> simp [h, h2, h3, h4]
  rw [br_true_, br_true_]
  intro _ _
  rw [e, br_both]
  refine ⟨fun h => hK _ ?_, fun h => ?_⟩
  · have h : mgE a0 a1 a2 ≠ 0 := by simpa using h
    simp only [f22]
    rw [if_pos h]
  have h : mgE a0 a1 a2 = 0 := by simpa using h
  obtain ⟨ha, hb, hlen, hm⟩ := mg_ok h
  have hpa := pol_ok ha
  have e22 : f22 (a0, a1, a2) = mgOf a0 a1 a2 := by
    simp only [f22]
    rw [if_neg (fun hh => hh h)]
  refine LoopP.up (a2 + 1) (fun i _ => ∀ j : Nat, (j : Int) < i → lkd a0 a1 j = true) (fun again i v hi0 hn hI hag => ?_) (by omega) (fun j hj => by omega)
  dsimp only
  have hbad : lkd a0 a1 i = false → i ≤ a2 → (mgOf a0 a1 a2 = if i = 0 then (0, 18) else (i - 1, 0)) := fun hl hi => by
    have hf : (List.range (a2 + 1).toNat).find? (fun (h : Nat) => !lkd a0 a1 (h : Int)) = some i.toNat := by
      refine range_find_some (by omega) (fun j hj => ?_) ?_
      · rw [hI j (by omega)]; rfl
      · rw [show ((i.toNat : Nat) : Int) = i by omega, hl]; rfl
    rw [mgOf, hf]
    cases hc : i.toNat with
    | zero => rw [if_pos (by omega)]
    | succ m =>
      rw [if_neg (by omega)]
      simp only
      congr 1
      omega
  rw [br_dec]
  refine ⟨fun hi => ?_, fun hi => hK _ ?_⟩
  · refine ⟨⟨hpa.1, by omega⟩, ?_⟩
    rw [br_true_]
    intro _
    refine LoopP.up a1.length (fun c v => v.1 = fill2 a0.length (sumAt a0 a1 i) (fun k => a0.getD k 0) c.toNat) (fun again2 c v hc0 hcn hJ hag2 => ?_) (by omega) ?_
    · obtain ⟨v, u⟩ := v
      simp only at hJ hag2 ⊢
      subst hJ
      rw [br_dec]
      refine ⟨fun hc => ?_, fun hc => ?_⟩
      · have hb1 : (decide (0 ≤ c) && decide (c < (a1.length : Int))) = true := by simp [hc0, hc]
        have hb2 : (decide (0 ≤ c) && decide (c < ((fill2 a0.length (sumAt a0 a1 i) (fun k => a0.getD k 0) c.toNat).length : Int))) = true := by
          rw [fill2_length, hlen]; simp [hc0, hc]
        rw [hb1, hb2, br_t, br_t, br_t, wr (n := c + 1) (by omega) (by omega), fill2_get (by omega)]
        refine hag2 _ hc ?_
        show _ = fill2 _ _ _ (c + 1).toNat
        rw [show (c + 1).toNat = c.toNat + 1 by omega, ← fill2_step (by omega)]
        rfl
      · have hv : fill2 a0.length (sumAt a0 a1 i) (fun k => a0.getD k 0) c.toNat = f23 (a0, a1, i) := by
          rw [show c.toNat = a0.length by omega, fill2_all]
          rfl
        rw [hv, wr (n := i + 1) (by omega) (by omega), wr (n := i - 1) (by omega) (by omega), show f91 (f23 (a0, a1, i)) = f17 (f23 (a0, a1, i)) from rfl]
        have hbr : (lkd a0 a1 i = false) → br (i == 0) (K (0, 18)) (K (i - 1, 0)) := fun hl => by
          have := hbad hl hi
          rw [br_both]
          refine ⟨fun h => hK _ ?_, fun h => hK _ ?_⟩
          · rw [e22, this, if_pos (by simpa using h)]
          · rw [e22, this, if_neg (by simpa using h)]
        rw [br_both]
        refine ⟨fun h => ?_, fun h => ?_⟩
        · have h : f17 (f23 (a0, a1, i)) = 0 := by simpa using h
          have hp := pol_ok h
          refine ⟨⟨hp.1, by omega⟩, ?_⟩
          rw [br_both]
          refine ⟨fun h2 => hag _ (by omega) fun j hj => ?_, fun h2 => hbr (by simp [lkd, h2])⟩
          by_cases hji : (j : Int) = i
          · rw [hji]; simp [lkd, h, h2]
          · exact hI j (by omega)
        · have h : f17 (f23 (a0, a1, i)) ≠ 0 := by simpa using h
          exact hbr (by simp [lkd, h])
    · show f96 a0 = fill2 _ _ _ 0
      rw [fill2_zero]
      show a0 = _
      apply List.ext_getElem (by simp)
      intro k h1 h2
      simp [List.getD_eq_getElem?_getD, h1]
  · rw [e22, mgOf, range_find_none (fun j hj => ?_)]
    rw [hI j (by omega)]
    rfl
theorem f22_fn : f22_e.fn = f22 := rfl
theorem f22_ok : EntryOK Try.prog 22 f22_e := by
  refine entryF progOK (EnvOK.cons f91_ok (EnvOK.cons f92_ok (EnvOK.cons f93_ok (EnvOK.cons f94_ok (EnvOK.cons f95_ok (EnvOK.cons f96_ok (EnvOK.cons f20_ok (EnvOK.cons f23_ok (EnvOK.cons f42_ok (EnvOK.cons f17_ok (EnvOK.nil))))))))))) (A := f22_A) (d := 6) Try.func22 rfl rfl (fun _ _ => trivial) fun x hpre => ?_
  obtain ⟨a0, a1, a2⟩ := x
  exact f22_t a0 a1 a2 _ fun _ h => h.trans (congrFun f22_fn.symm _)
end Go.Proofs.Ytdhekhichomoiaa
end

section
namespace Go.Proofs.Ytdhekhichomoiaa
open Go Go.Pi Go.RowKit
set_option maxRecDepth 100000
set_option linter.unusedVariables false
set_option linter.unusedSimpArgs false

def f19 (n : Int) : Int := minmax true n (IntKind.i64.wrap (0 - n))
def f19_e : Entry := { doms := [(false, (.int .i64))], cods := [(false, (.int .i64))], pre := fun _ => True, fn := f19, uq := false, total := true }
def f19_E : Env := []
def f19_A : Anns := { loops := [], own := [] }
theorem f19_run (a0 : Int) (K : Int → Prop) : runF Try.prog f19_E f19_A 6 Try.f19 f19_e.doms f19_e.cods a0 K =
    (K (minmax true a0 (IntKind.i64.wrap (0 - a0)))) := by kernel_rfl
theorem f19_t (a0 : Int) (K : Int → Prop) (hK : ∀ y : Int, y = f19 a0 → K y) : RunF Try.prog f19_E f19_A 6 Try.f19 f19_e.doms f19_e.cods a0 K := by
  refine ⟨?_⟩
  rw [f19_run a0 K]
  exact hK _ rfl
theorem f19_fn : f19_e.fn = f19 := rfl
theorem f19_ok : EntryOK Try.prog 19 f19_e := by
  refine entryF progOK (EnvOK.nil) (A := f19_A) (d := 6) Try.func19 rfl rfl (fun _ _ => trivial) fun x hpre => ?_
  exact f19_t x _ fun _ h => h.trans (congrFun f19_fn.symm _)
end Go.Proofs.Ytdhekhichomoiaa
end

section
namespace Go.Proofs.Ytdhekhichomoiaa
open Go Go.Pi Go.RowKit
set_option maxRecDepth 100000
set_option linter.unusedVariables false
set_option linter.unusedSimpArgs false

/-- A row, and those that follow it. -/
def rowsFrom : Nat → List Int → List (List Int)
  | 0, r => [r]
  | k + 1, r => r :: (if stopRow r then [] else rowsFrom k (nextRow r))
theorem rowsFrom_stop {k : Nat} {row : List Int} (h : stopRow row = true) : rowsFrom k row = [row] := by
  cases k <;> simp [rowsFrom, h]
theorem rowsFrom_next {k : Nat} {row : List Int} (hk : 0 < k) (h : stopRow row = false) : rowsFrom k row = row :: rowsFrom (k - 1) (nextRow row) := by
  cases k with
  | zero => omega
  | succ k => simp [rowsFrom, h]
theorem rows_last : ∀ (k : Nat) (r : List Int), ∃ pre, rowsFrom k r = pre ++ [lastRow k r]
  | 0, r => ⟨[], rfl⟩
  | k + 1, r => by
    by_cases h : stopRow r = true
    · exact ⟨[], by rw [rowsFrom_stop h, lastRow_stop (by omega) h]; rfl⟩
    · have h : stopRow r = false := by simpa using h
      obtain ⟨pre, e⟩ := rows_last k (nextRow r)
      exact ⟨r :: pre, by rw [rowsFrom_next (by omega) h, lastRow_next (by omega) h]; simp [e]⟩
theorem rows_len : ∀ (k : Nat) (r : List Int), (rowsFrom k r).length ≤ k + 1
  | 0, r => by simp [rowsFrom]
  | k + 1, r => by
    simp only [rowsFrom, List.length_cons]
    split
    · simp
    · have := rows_len k (nextRow r); omega
def f55 (l : List Int) : List (List Int) := rowsFrom l.length l
def f55_pre (l : List Int) : Prop := 0 < l.length ∧ l.length ≤ 1048576
def f55_e : Entry := { doms := [(false, (.sl (.int .i64)))], cods := [(false, (.sl (.sl (.int .i64))))], pre := f55_pre, fn := f55, uq := false, total := false }
def f55_E : Env := [(19, f19_e), (21, f21_e), (92, f92_e)]
def f55_A : Anns := { loops := [(1048576, { tms := [(3, .ref 1049602)], obs := [(1049602, .arr (.uniq) (.sl (.int .i64)))], fz := [] }),
  (1048578, { tms := [(3, .keep), (4, .keep), (5, .keep), (6, .ref 1058840), (7, .data false (.int .i64))], obs := [(1049602, .keep), (1058840, .arr (.uniq) (.int .i64))], fz := [] })], own := [1049602] }
theorem f55_run (a0 : List Int) (K : (List (List Int)) → Prop) : runF Try.prog f55_E f55_A 6 Try.f55 f55_e.doms f55_e.cods a0 K =
    (f21_pre a0 ∧
    LoopP (V := List (List Int) × Unit) (fun again v => (fun (again1 : List (List Int) → Prop) (v1_0 : List (List Int)) =>
    br (lenOk (v1_0.length))
    (br (decide (0 ≤ (IntKind.i64.wrap (((v1_0.length) : Int) - 1))) && decide ((IntKind.i64.wrap (((v1_0.length) : Int) - 1)) < ((v1_0.length) : Int)))
    (br (lenOk ((v1_0.getD ((IntKind.i64.wrap (((v1_0.length) : Int) - 1)).toNat) []).length))
    (br ((IntKind.i64.wrap ((((v1_0.getD ((IntKind.i64.wrap (((v1_0.length) : Int) - 1)).toNat) []).length) : Int) - 1)) == 0)
    (K v1_0)
    (br (decide (0 ≤ (IntKind.i64.wrap ((((v1_0.getD ((IntKind.i64.wrap (((v1_0.length) : Int) - 1)).toNat) []).length) : Int) - 1))) && decide ((IntKind.i64.wrap ((((v1_0.getD ((IntKind.i64.wrap (((v1_0.length) : Int) - 1)).toNat) []).length) : Int) - 1)) < (((v1_0.getD ((IntKind.i64.wrap (((v1_0.length) : Int) - 1)).toNat) []).length) : Int)))
    (br (decide (0 ≤ 0) && decide (0 < (((v1_0.getD ((IntKind.i64.wrap (((v1_0.length) : Int) - 1)).toNat) []).length) : Int)))
    (br (decide ((f19 ((v1_0.getD ((IntKind.i64.wrap (((v1_0.length) : Int) - 1)).toNat) []).getD ((IntKind.i64.wrap ((((v1_0.getD ((IntKind.i64.wrap (((v1_0.length) : Int) - 1)).toNat) []).length) : Int) - 1)).toNat) 0)) ≤ (f19 ((v1_0.getD ((IntKind.i64.wrap (((v1_0.length) : Int) - 1)).toNat) []).getD 0 0))))
    (K v1_0)
    (LoopP (V := Int × List Int × Unit) (fun again v => (fun (again2 : Int → List Int → Prop) (v2_0 : Int) (v2_1 : List Int) =>
    br (decide (v2_0 < (IntKind.i64.wrap ((((v1_0.getD ((IntKind.i64.wrap (((v1_0.length) : Int) - 1)).toNat) []).length) : Int) - 1))))
    (br (decide (0 ≤ (IntKind.i64.wrap ((((v1_0.getD ((IntKind.i64.wrap (((v1_0.length) : Int) - 1)).toNat) []).length) : Int) - 1))) && decide ((IntKind.i64.wrap ((((v1_0.getD ((IntKind.i64.wrap (((v1_0.length) : Int) - 1)).toNat) []).length) : Int) - 1)) < (((v1_0.getD ((IntKind.i64.wrap (((v1_0.length) : Int) - 1)).toNat) []).length) : Int)))
    (br (decide (0 ≤ (IntKind.i64.wrap (v2_0 + 1))) && decide ((IntKind.i64.wrap (v2_0 + 1)) < (((v1_0.getD ((IntKind.i64.wrap (((v1_0.length) : Int) - 1)).toNat) []).length) : Int)))
    (br (decide (0 ≤ 0) && decide (0 < (((v1_0.getD ((IntKind.i64.wrap (((v1_0.length) : Int) - 1)).toNat) []).length) : Int)))
    (br (decide (0 ≤ (IntKind.i64.wrap ((IntKind.i64.wrap ((IntKind.i64.wrap ((((v1_0.getD ((IntKind.i64.wrap (((v1_0.length) : Int) - 1)).toNat) []).length) : Int) - 1)) - 1)) - v2_0))) && decide ((IntKind.i64.wrap ((IntKind.i64.wrap ((IntKind.i64.wrap ((((v1_0.getD ((IntKind.i64.wrap (((v1_0.length) : Int) - 1)).toNat) []).length) : Int) - 1)) - 1)) - v2_0)) < (((v1_0.getD ((IntKind.i64.wrap (((v1_0.length) : Int) - 1)).toNat) []).length) : Int)))
    (br (roomOk ((v2_1.length) + 1) 8)
    (again2 (IntKind.i64.wrap (v2_0 + 1)) (v2_1 ++ ([(IntKind.i64.wrap ((IntKind.i64.wrap (((v1_0.getD ((IntKind.i64.wrap (((v1_0.length) : Int) - 1)).toNat) []).getD ((IntKind.i64.wrap ((((v1_0.getD ((IntKind.i64.wrap (((v1_0.length) : Int) - 1)).toNat) []).length) : Int) - 1)).toNat) 0) * ((v1_0.getD ((IntKind.i64.wrap (((v1_0.length) : Int) - 1)).toNat) []).getD ((IntKind.i64.wrap (v2_0 + 1)).toNat) 0))) - (IntKind.i64.wrap (((v1_0.getD ((IntKind.i64.wrap (((v1_0.length) : Int) - 1)).toNat) []).getD 0 0) * ((v1_0.getD ((IntKind.i64.wrap (((v1_0.length) : Int) - 1)).toNat) []).getD ((IntKind.i64.wrap ((IntKind.i64.wrap ((IntKind.i64.wrap ((((v1_0.getD ((IntKind.i64.wrap (((v1_0.length) : Int) - 1)).toNat) []).length) : Int) - 1)) - 1)) - v2_0)).toNat) 0)))))] : List Int)))
    False)
    False)
    False)
    False)
    False)
    (br (roomOk ((v1_0.length) + 1) 24)
    (again1 (v1_0 ++ ([v2_1] : List (List Int))))
    False))
    (fun v2_0 v2_1 => again (v2_0, v2_1, ())) v.1 v.2.1) (0, ([] : List Int), ())))
    False)
    False))
    True)
    False)
    True)
    (fun v1_0 => again (v1_0, ())) v.1) (([(f21 a0)] : List (List Int)), ())) := by kernel_rfl
theorem f55_t (a0 : List Int) (hpre : f55_pre a0) (K : (List (List Int)) → Prop) (hK : ∀ y : List (List Int), y = f55 a0 → K y) : RunF Try.prog f55_E f55_A 6 Try.f55 f55_e.doms f55_e.cods a0 K := by
  refine ⟨?_⟩
  rw [f55_run a0 K]
  obtain ⟨h0, hb⟩ := hpre
  refine ⟨by show a0.length ≤ 1048576; omega, ?_⟩
  refine LoopP.of (fun v => ∃ pre row, v.1 = pre ++ [row] ∧ 0 < row.length ∧ pre.length + row.length ≤ 1048576 ∧ f55 a0 = pre ++ rowsFrom row.length row) (fun v => 1048577 - v.1.length) (fun again v hv hag => ?_) ⟨[], a0, rfl, h0, by simpa using hb, rfl⟩
  obtain ⟨rs, u⟩ := v
  obtain ⟨pre, row, e1, h1, h2, h3⟩ := hv
  simp only at e1 h1 h2 h3 hag
  subst e1
  have hwl : IntKind.i64.wrap ((((pre ++ [row]).length : Nat) : Int) - 1) = (pre.length : Int) := by
    rw [wr (by simp only [List.length_append, List.length_singleton]; omega) (by simp only [List.length_append, List.length_singleton]; omega)]; simp
  have hrow : (pre ++ [row]).getD pre.length [] = row := by simp [List.getD_eq_getElem?_getD]
  have hw : IntKind.i64.wrap ((row.length : Int) - 1) = ((row.length - 1 : Nat) : Int) := by rw [wr (by omega) (by omega)]; omega
  dsimp only
  simp only [hwl, Int.toNat_natCast, hrow, hw]
  rw [br_true_]
  intro _
  rw [br_false_]
  refine ⟨by simp; omega, ?_⟩
  rw [br_true_]
  intro _
  have fin : stopRow row = true → K (pre ++ [row]) := fun hs => hK _ (by rw [h3, rowsFrom_stop hs])
  rw [br_both]
  refine ⟨fun hl => fin ?_, fun hl => ?_⟩
  · simp only [beq_iff_eq] at hl
    simp [stopRow, show row.length = 1 by omega]
  have hl2 : row.length ≠ 1 := fun e => by simp [e] at hl
  rw [br_false_]
  refine ⟨by simp; omega, ?_⟩
  rw [br_false_]
  refine ⟨by simp; omega, ?_⟩
  rw [br_both]
  refine ⟨fun h => fin (by
    have : decide (f148 (row.getD (row.length - 1) 0) ≤ f148 (row.getD 0 0)) = true := h
    simp only [stopRow, this, Bool.or_true]), fun h => ?_⟩
  have hstop : stopRow row = false := by
    have h : decide (f148 (row.getD (row.length - 1) 0) ≤ f148 (row.getD 0 0)) = false := h
    simp only [stopRow, h, Bool.or_false, beq_eq_false_iff_ne]
    exact hl2
  refine LoopP.up (row.length - 1 : Nat) (fun i v => v.1 = (List.range i.toNat).map (nextAt row)) (fun again2 i v hi0 hin hI hag2 => ?_) (by omega) rfl
  obtain ⟨v, u⟩ := v
  simp only at hI hag2
  subst hI
  dsimp only
  rw [br_dec]
  refine ⟨fun hi => ?_, fun hi => ?_⟩
  · have e2 : IntKind.i64.wrap (i + 1) = i + 1 := wr (by omega) (by omega)
    have e3 : IntKind.i64.wrap (((row.length - 1 : Nat) : Int) - 1) = ((row.length - 1 : Nat) : Int) - 1 := wr (by omega) (by omega)
    have e4 : IntKind.i64.wrap (((row.length - 1 : Nat) : Int) - 1 - i) = ((row.length - 1 : Nat) : Int) - 1 - i := wr (by omega) (by omega)
    rw [e2, e3, e4]
    simp only [br_false_]
    refine ⟨by simp; omega, by simp; omega, by simp; omega, by simp; omega, by simp [roomOk]; omega, ?_⟩
    refine hag2 _ hi ?_
    show _ = (List.range (i + 1).toNat).map (nextAt row)
    rw [show (i + 1).toNat = i.toNat + 1 by omega, List.range_succ, List.map_append]
    congr 1
    simp only [List.map_cons, List.map_nil, nextAt]
    rw [show (((row.length - 1 : Nat) : Int) - 1 - i).toNat = row.length - 2 - i.toNat by omega]
  · rw [br_false_]
    refine ⟨by simp [roomOk]; omega, ?_⟩
    have e5 : (List.range i.toNat).map (nextAt row) = nextRow row := by rw [show i.toNat = row.length - 1 by omega]; rfl
    rw [e5]
    refine hag (pre ++ [row] ++ [nextRow row], ()) ⟨pre ++ [row], nextRow row, rfl, by rw [nextRow_length]; omega, by rw [nextRow_length]; simp; omega, ?_⟩ ?_
    · rw [h3, rowsFrom_next h1 hstop, nextRow_length]; simp
    · simp; omega
theorem f55_fn : f55_e.fn = f55 := rfl
theorem f55_ok : EntryOK Try.prog 55 f55_e := by
  refine entryF progOK (EnvOK.cons f19_ok (EnvOK.cons f21_ok (EnvOK.cons f92_ok (EnvOK.nil)))) (A := f55_A) (d := 6) Try.func55 rfl rfl (fun h => by cases h) fun x hpre => ?_
  exact f55_t x hpre _ fun _ h => h.trans (congrFun f55_fn.symm _)
end Go.Proofs.Ytdhekhichomoiaa
end

section
namespace Go.Proofs.Ytdhekhichomoiaa
open Go Go.Pi Go.RowKit
set_option maxRecDepth 100000
set_option linter.unusedVariables false
set_option linter.unusedSimpArgs false

def f53 (l : List Int) : List (List Int) × Int := if f17 l ≠ 0 then ([], f17 l) else (f55 l, 0)
def f53_pre (l : List Int) : Prop := True
def f53_e : Entry := { doms := [(false, (.sl (.int .i64)))], cods := [(false, (.sl (.sl (.int .i64)))), (false, (.int .i64))], pre := f53_pre, fn := f53, uq := false, total := false }
def f53_E : Env := [(91, f91_e), (96, f96_e), (148, f148_e), (55, f55_e), (20, f20_e)]
def f53_A : Anns := { loops := [(1213650493068332088950784, { tms := [(0, .keep), (3, .data false (.sl (.int .i64)))], obs := [(1103807643648, .keep), (1157427304332263424, .cells [.ref 1272604779419619388504733125635]), (1272604779419619388504733125635, .arr (.uniq) (.sl (.int .i64)))], fz := [] }),
  (1213650493068332088950786, { tms := [(0, .keep), (3, .keep), (4, .keep), (5, .ref 1213650493068332088954881), (32, .keep), (33, .data false (.int .i64))], obs := [(1103807643648, .keep), (1157427304332263424, .keep), (1213650493068332088954881, .arr (.uniq) (.int .i64)), (1272604779419619388504733125635, .keep)], fz := [] })], own := [] }
theorem f53_run (a0 : List Int) (K : (List (List Int) × Int) → Prop) : runF Try.prog f53_E f53_A 6 Try.f53 f53_e.doms f53_e.cods a0 K =
    (br ((f91 a0) != 0)
    (K (([] : List (List Int)), (f91 a0)))
    (f96_pre a0 ∧
    LoopP (V := List Int × List (List Int) × Unit) (fun again v => (fun (again1 : List Int → List (List Int) → Prop) (v1_0 : List Int) (v1_1 : List (List Int)) =>
    br (roomOk ((v1_1.length) + 1) 24)
    (br (lenOk (v1_0.length))
    (br ((IntKind.i64.wrap (((v1_0.length) : Int) - 1)) == 0)
    (K ((v1_1 ++ ([v1_0] : List (List Int))), 0))
    (br (decide (0 ≤ (IntKind.i64.wrap (((v1_0.length) : Int) - 1))) && decide ((IntKind.i64.wrap (((v1_0.length) : Int) - 1)) < ((v1_0.length) : Int)))
    (br (decide (0 ≤ 0) && decide (0 < ((v1_0.length) : Int)))
    (br (decide ((f148 (v1_0.getD ((IntKind.i64.wrap (((v1_0.length) : Int) - 1)).toNat) 0)) ≤ (f148 (v1_0.getD 0 0))))
    (K ((v1_1 ++ ([v1_0] : List (List Int))), 0))
    (br (decide (0 ≤ (IntKind.i64.wrap (((v1_0.length) : Int) - 1))) && decide ((IntKind.i64.wrap (((v1_0.length) : Int) - 1)) = (IntKind.i64.wrap (((v1_0.length) : Int) - 1))) && roomOk ((IntKind.i64.wrap (((v1_0.length) : Int) - 1)).toNat) 8)
    (br (lenOk ((List.replicate ((IntKind.i64.wrap (((v1_0.length) : Int) - 1)).toNat) (0 : Int)).length))
    (LoopP (V := Int × List Int × Unit) (fun again v => (fun (again2 : Int → List Int → Prop) (v2_0 : Int) (v2_1 : List Int) =>
    br (decide (v2_0 < (((List.replicate ((IntKind.i64.wrap (((v1_0.length) : Int) - 1)).toNat) (0 : Int)).length) : Int)))
    (br (decide (0 ≤ (IntKind.i64.wrap (((v1_0.length) : Int) - 1))) && decide ((IntKind.i64.wrap (((v1_0.length) : Int) - 1)) < ((v1_0.length) : Int)))
    (br (decide (0 ≤ (IntKind.i64.wrap (v2_0 + 1))) && decide ((IntKind.i64.wrap (v2_0 + 1)) < ((v1_0.length) : Int)))
    (br (decide (0 ≤ 0) && decide (0 < ((v1_0.length) : Int)))
    (br (decide (0 ≤ (IntKind.i64.wrap ((IntKind.i64.wrap ((IntKind.i64.wrap (((v1_0.length) : Int) - 1)) - 1)) - v2_0))) && decide ((IntKind.i64.wrap ((IntKind.i64.wrap ((IntKind.i64.wrap (((v1_0.length) : Int) - 1)) - 1)) - v2_0)) < ((v1_0.length) : Int)))
    (br (decide (0 ≤ v2_0) && decide (v2_0 < ((v2_1.length) : Int)))
    (again2 (IntKind.i64.wrap (v2_0 + 1)) (v2_1.set v2_0.toNat (IntKind.i64.wrap ((IntKind.i64.wrap ((v1_0.getD ((IntKind.i64.wrap (((v1_0.length) : Int) - 1)).toNat) 0) * (v1_0.getD ((IntKind.i64.wrap (v2_0 + 1)).toNat) 0))) - (IntKind.i64.wrap ((v1_0.getD 0 0) * (v1_0.getD ((IntKind.i64.wrap ((IntKind.i64.wrap ((IntKind.i64.wrap (((v1_0.length) : Int) - 1)) - 1)) - v2_0)).toNat) 0)))))))
    False)
    False)
    False)
    False)
    False)
    (again1 v2_1 (v1_1 ++ ([v1_0] : List (List Int)))))
    (fun v2_0 v2_1 => again (v2_0, v2_1, ())) v.1 v.2.1) (0, (List.replicate ((IntKind.i64.wrap (((v1_0.length) : Int) - 1)).toNat) (0 : Int)), ()))
    True)
    False))
    False)
    False))
    True)
    False)
    (fun v1_0 v1_1 => again (v1_0, v1_1, ())) v.1 v.2.1) ((f96 a0), ([] : List (List Int)), ()))) := by kernel_rfl
theorem f53_t (a0 : List Int) (hpre : f53_pre a0) (K : (List (List Int) × Int) → Prop) (hK : ∀ y : List (List Int) × Int, y = f53 a0 → K y) : RunF Try.prog f53_E f53_A 6 Try.f53 f53_e.doms f53_e.cods a0 K := by
  refine ⟨?_⟩
  rw [f53_run a0 K]
  rw [show f91 a0 = f17 a0 from rfl, br_both]
  refine ⟨fun h => hK _ ?_, fun h => ?_⟩
  · have h : f17 a0 ≠ 0 := by simpa using h
    rw [f53, if_pos h]
  have h : f17 a0 = 0 := by simpa using h
  obtain ⟨h0, h4, _⟩ := pol_ok h
  have e53 : f53 a0 = (f55 a0, 0) := by rw [f53, if_neg (fun hh => hh h)]
  refine ⟨⟨h0, by omega⟩, ?_⟩
  refine LoopP.of (fun v => 0 < v.1.length ∧ v.2.1.length + v.1.length ≤ 4 ∧ f55 a0 = v.2.1 ++ rowsFrom v.1.length v.1) (fun v => v.1.length) (fun again v hv hag => ?_) ⟨h0, by show 0 + a0.length ≤ 4; omega, rfl⟩
  obtain ⟨row, pre, u⟩ := v
  obtain ⟨h1, h2, h3⟩ := hv
  simp only at h1 h2 h3 hag
  rw [br_false_]
  refine ⟨by simp [roomOk]; omega, ?_⟩
  refine rowStep_intro (S := K (pre ++ [row], 0)) (N := fun r => again (r, pre ++ [row], ())) row h1 (by omega) (fun hs => hK _ (by rw [e53, h3, rowsFrom_stop hs])) fun hs => ?_
  have := stop_one hs
  exact hag (nextRow row, pre ++ [row], ()) ⟨by simp only [nextRow_length]; omega, by simp only [nextRow_length, List.length_append, List.length_singleton]; omega, by simp only [nextRow_length]; rw [h3, rowsFrom_next h1 hs]; simp⟩ (by simp only [nextRow_length]; omega)
theorem f53_fn : f53_e.fn = f53 := rfl
theorem f53_ok : EntryOK Try.prog 53 f53_e := by
  refine entryF progOK (EnvOK.cons f91_ok (EnvOK.cons f96_ok (EnvOK.cons f148_ok (EnvOK.cons f55_ok (EnvOK.cons f20_ok (EnvOK.nil)))))) (A := f53_A) (d := 6) Try.func53 rfl rfl (fun h => by cases h) fun x hpre => ?_
  exact f53_t x hpre _ fun _ h => h.trans (congrFun f53_fn.symm _)
end Go.Proofs.Ytdhekhichomoiaa
end

section
namespace Go.Proofs.Ytdhekhichomoiaa
open Go Go.Pi Go.RowKit
set_option maxRecDepth 100000
set_option linter.unusedVariables false
set_option linter.unusedSimpArgs false

def f40 (x : List Int × List Int) : Bool := decide (x.1 = x.2)
def f40_e : Entry := { doms := [(false, (.sl (.int .i64))), (false, (.sl (.int .i64)))], cods := [(false, .bool)], pre := fun _ => True, fn := f40, uq := false, total := true }
def f40_E : Env := []
def f40_A : Anns := { loops := [(1048576, { tms := [(0, .keep), (1, .keep), (5, .data false (.int .i64))], obs := [], fz := [] })], own := [] }
theorem f40_run (a0 : List Int) (a1 : List Int) (K : Bool → Prop) : runF Try.prog f40_E f40_A 6 Try.f40 f40_e.doms f40_e.cods (a0, a1) K =
    (br (lenOk (a0.length))
    (br (lenOk (a1.length))
    (br (((a0.length) : Int) != ((a1.length) : Int))
    (K false)
    (LoopP (V := Int × Unit) (fun again v => (fun (again1 : Int → Prop) (v1_0 : Int) =>
    br (lenOk (a0.length))
    (br (decide (v1_0 < ((a0.length) : Int)))
    (br (decide (0 ≤ v1_0) && decide (v1_0 < ((a0.length) : Int)))
    (br (decide (0 ≤ v1_0) && decide (v1_0 < ((a1.length) : Int)))
    (br ((a0.getD v1_0.toNat 0) != (a1.getD v1_0.toNat 0))
    (K false)
    (again1 (IntKind.i64.wrap (v1_0 + 1))))
    False)
    False)
    (K true))
    True)
    (fun v1_0 => again (v1_0, ())) v.1) (0, ())))
    True)
    True) := by kernel_rfl
theorem f40_t (a0 : List Int) (a1 : List Int) (K : Bool → Prop) (hK : ∀ y : Bool, y = f40 (a0, a1) → K y) : RunF Try.prog f40_E f40_A 6 Try.f40 f40_e.doms f40_e.cods (a0, a1) K := by
  refine ⟨?_⟩
  rw [f40_run a0 a1 K]
  rw [br_true_, lenOk_iff]
  intro hl
  rw [br_true_]
  intro _
  rw [br_both]
  refine ⟨fun hne => hK _ ?_, fun he => ?_⟩
  · have : a0 ≠ a1 := fun e => by simp [e] at hne
    simp [f40, this]
  have he : a0.length = a1.length := by
    simp only [bne_eq_false_iff_eq] at he
    omega
  refine LoopP.up a0.length (fun i _ => a0.take i.toNat = a1.take i.toNat) (fun again i v hi0 hn hI hag => ?_) (by omega) (by simp)
  dsimp only
  rw [br_true_]
  intro _
  rw [br_both]
  refine ⟨fun hi => ?_, fun hi => hK _ ?_⟩
  · simp only [decide_eq_true_eq] at hi
    simp only [br_false_, Bool.and_eq_true, decide_eq_true_eq]
    refine ⟨⟨hi0, hi⟩, ⟨hi0, by omega⟩, ?_⟩
    rw [br_both]
    refine ⟨fun hne => hK _ ?_, fun heq => ?_⟩
    · have : a0 ≠ a1 := fun e => by simp [e] at hne
      simp [f40, this]
    · rw [wr (by omega) (by omega)]
      refine hag () hi ?_
      have h1 : i.toNat < a0.length := by omega
      have h2 : i.toNat < a1.length := by omega
      rw [getD_lt h1, getD_lt h2] at heq
      have h3 : a0[i.toNat] = a1[i.toNat] := by simpa using heq
      rw [show (i + 1).toNat = i.toNat + 1 by omega, List.take_add_one, List.take_add_one, hI, List.getElem?_eq_getElem h1, List.getElem?_eq_getElem h2, h3]
  · simp only [decide_eq_false_iff_not] at hi
    rw [List.take_of_length_le (by omega), List.take_of_length_le (by omega)] at hI
    simp [f40, hI]
theorem f40_fn : f40_e.fn = f40 := rfl
theorem f40_ok : EntryOK Try.prog 40 f40_e := by
  refine entryF progOK (EnvOK.nil) (A := f40_A) (d := 6) Try.func40 rfl rfl (fun _ _ => trivial) fun x hpre => ?_
  obtain ⟨a0, a1⟩ := x
  exact f40_t a0 a1 _ fun _ h => h.trans (congrFun f40_fn.symm _)
end Go.Proofs.Ytdhekhichomoiaa
end

section
namespace Go.Proofs.Ytdhekhichomoiaa
open Go Go.Pi Go.RowKit
set_option maxRecDepth 100000
set_option linter.unusedVariables false
set_option linter.unusedSimpArgs false

def f54 (x : List (List Int) × List (List Int)) : Bool := decide (x.1 = x.2)
def f54_e : Entry := { doms := [(false, (.sl (.sl (.int .i64)))), (false, (.sl (.sl (.int .i64))))], cods := [(false, .bool)], pre := fun _ => True, fn := f54, uq := false, total := true }
def f54_E : Env := [(40, f40_e)]
def f54_A : Anns := { loops := [(1048576, { tms := [(0, .keep), (1, .keep), (5, .data false (.int .i64))], obs := [], fz := [] })], own := [] }
theorem f54_run (a0 : List (List Int)) (a1 : List (List Int)) (K : Bool → Prop) : runF Try.prog f54_E f54_A 6 Try.f54 f54_e.doms f54_e.cods (a0, a1) K =
    (br (lenOk (a0.length))
    (br (lenOk (a1.length))
    (br (((a0.length) : Int) != ((a1.length) : Int))
    (K false)
    (LoopP (V := Int × Unit) (fun again v => (fun (again1 : Int → Prop) (v1_0 : Int) =>
    br (lenOk (a0.length))
    (br (decide (v1_0 < ((a0.length) : Int)))
    (br (decide (0 ≤ v1_0) && decide (v1_0 < ((a0.length) : Int)))
    (br (decide (0 ≤ v1_0) && decide (v1_0 < ((a1.length) : Int)))
    (br (!(f40 ((a0.getD v1_0.toNat []), (a1.getD v1_0.toNat []))))
    (K false)
    (again1 (IntKind.i64.wrap (v1_0 + 1))))
    False)
    False)
    (K true))
    True)
    (fun v1_0 => again (v1_0, ())) v.1) (0, ())))
    True)
    True) := by kernel_rfl
theorem f54_t (a0 : List (List Int)) (a1 : List (List Int)) (K : Bool → Prop) (hK : ∀ y : Bool, y = f54 (a0, a1) → K y) : RunF Try.prog f54_E f54_A 6 Try.f54 f54_e.doms f54_e.cods (a0, a1) K := by
  refine ⟨?_⟩
  rw [f54_run a0 a1 K]
  rw [br_true_, lenOk_iff]
  intro hl
  rw [br_true_]
  intro _
  rw [br_both]
  refine ⟨fun hne => hK _ ?_, fun he => ?_⟩
  · have : a0 ≠ a1 := fun e => by simp [e] at hne
    simp [f54, this]
  have he : a0.length = a1.length := by
    simp only [bne_eq_false_iff_eq] at he
    omega
  refine LoopP.up a0.length (fun i _ => a0.take i.toNat = a1.take i.toNat) (fun again i v hi0 hn hI hag => ?_) (by omega) (by simp)
  dsimp only
  rw [br_true_]
  intro _
  rw [br_both]
  refine ⟨fun hi => ?_, fun hi => hK _ ?_⟩
  · simp only [decide_eq_true_eq] at hi
    simp only [br_false_, Bool.and_eq_true, decide_eq_true_eq]
    refine ⟨⟨hi0, hi⟩, ⟨hi0, by omega⟩, ?_⟩
    rw [br_both]
    refine ⟨fun hne => hK _ ?_, fun heq => ?_⟩
    · have : a0 ≠ a1 := fun e => by simp [e, f40] at hne
      simp [f54, this]
    · rw [wr (by omega) (by omega)]
      refine hag () hi ?_
      have h1 : i.toNat < a0.length := by omega
      have h2 : i.toNat < a1.length := by omega
      rw [getD_lt h1, getD_lt h2] at heq
      have h3 : a0[i.toNat] = a1[i.toNat] := by simpa [f40] using heq
      rw [show (i + 1).toNat = i.toNat + 1 by omega, List.take_add_one, List.take_add_one, hI, List.getElem?_eq_getElem h1, List.getElem?_eq_getElem h2, h3]
  · simp only [decide_eq_false_iff_not] at hi
    rw [List.take_of_length_le (by omega), List.take_of_length_le (by omega)] at hI
    simp [f54, hI]
theorem f54_fn : f54_e.fn = f54 := rfl
theorem f54_ok : EntryOK Try.prog 54 f54_e := by
  refine entryF progOK (EnvOK.cons f40_ok (EnvOK.nil)) (A := f54_A) (d := 6) Try.func54 rfl rfl (fun _ _ => trivial) fun x hpre => ?_
  obtain ⟨a0, a1⟩ := x
  exact f54_t a0 a1 _ fun _ h => h.trans (congrFun f54_fn.symm _)
end Go.Proofs.Ytdhekhichomoiaa
end

section
namespace Go.Proofs.Ytdhekhichomoiaa
open Go Go.Pi Go.RowKit
set_option maxRecDepth 100000
set_option linter.unusedVariables false
set_option linter.unusedSimpArgs false

def f56 (l : List Int) : Bool := f92 l
def f56_pre (l : List Int) : Prop := 0 < l.length ∧ l.length ≤ 1048576
def f56_e : Entry := { doms := [(false, (.sl (.int .i64)))], cods := [(false, .bool)], pre := f56_pre, fn := f56, uq := false, total := false }
def f56_E : Env := [(55, f55_e), (92, f92_e)]
def f56_A : Anns := { loops := [], own := [] }
theorem f56_run (a0 : List Int) (K : Bool → Prop) : runF Try.prog f56_E f56_A 6 Try.f56 f56_e.doms f56_e.cods a0 K =
    (f55_pre a0 ∧
    br (lenOk ((f55 a0).length))
    (br (decide (0 ≤ (IntKind.i64.wrap ((((f55 a0).length) : Int) - 1))) && decide ((IntKind.i64.wrap ((((f55 a0).length) : Int) - 1)) < (((f55 a0).length) : Int)))
    (br (lenOk (((f55 a0).getD ((IntKind.i64.wrap ((((f55 a0).length) : Int) - 1)).toNat) []).length))
    (br (((((f55 a0).getD ((IntKind.i64.wrap ((((f55 a0).length) : Int) - 1)).toNat) []).length) : Int) == 1)
    (br (decide (0 ≤ 0) && decide (0 < ((((f55 a0).getD ((IntKind.i64.wrap ((((f55 a0).length) : Int) - 1)).toNat) []).length) : Int)))
    (K ((((f55 a0).getD ((IntKind.i64.wrap ((((f55 a0).length) : Int) - 1)).toNat) []).getD 0 0) != 0))
    False)
    (K false))
    True)
    False)
    True) := by kernel_rfl
theorem f56_t (a0 : List Int) (hpre : f56_pre a0) (K : Bool → Prop) (hK : ∀ y : Bool, y = f56 a0 → K y) : RunF Try.prog f56_E f56_A 6 Try.f56 f56_e.doms f56_e.cods a0 K := by
  refine ⟨?_⟩
  rw [f56_run a0 K]
  obtain ⟨h0, hb⟩ := hpre
  refine ⟨⟨h0, hb⟩, ?_⟩
  obtain ⟨pre, e⟩ := rows_last a0.length a0
  have hl := rows_len a0.length a0
  have e : f55 a0 = pre ++ [lastRow a0.length a0] := e
  have hl : (f55 a0).length ≤ a0.length + 1 := hl
  rw [e] at hl ⊢
  have hwl : IntKind.i64.wrap ((((pre ++ [lastRow a0.length a0]).length : Nat) : Int) - 1) = (pre.length : Int) := by
    simp only [List.length_append, List.length_singleton] at hl ⊢
    rw [wr (by omega) (by omega)]; omega
  have hrow : (pre ++ [lastRow a0.length a0]).getD pre.length [] = lastRow a0.length a0 := by simp [List.getD_eq_getElem?_getD]
  simp only [hwl, Int.toNat_natCast, hrow]
  rw [br_true_]
  intro _
  rw [br_false_]
  refine ⟨by simp; omega, ?_⟩
  rw [br_true_]
  intro _
  rw [br_both]
  refine ⟨fun h1 => ?_, fun h1 => hK _ ?_⟩
  · have h1 : (lastRow a0.length a0).length = 1 := by
      simp only [beq_iff_eq] at h1
      omega
    rw [br_false_]
    refine ⟨by simp [h1], hK _ ?_⟩
    simp [f56, f92, h1]
  · have : ((lastRow a0.length a0).length == 1) = false := by
      simp only [beq_eq_false_iff_ne, ne_eq] at h1 ⊢
      omega
    simp only [f56, f92, this, Bool.false_and]
theorem f56_fn : f56_e.fn = f56 := rfl
theorem f56_ok : EntryOK Try.prog 56 f56_e := by
  refine entryF progOK (EnvOK.cons f55_ok (EnvOK.cons f92_ok (EnvOK.nil))) (A := f56_A) (d := 6) Try.func56 rfl rfl (fun h => by cases h) fun x hpre => ?_
  exact f56_t x hpre _ fun _ h => h.trans (congrFun f56_fn.symm _)
end Go.Proofs.Ytdhekhichomoiaa
end
