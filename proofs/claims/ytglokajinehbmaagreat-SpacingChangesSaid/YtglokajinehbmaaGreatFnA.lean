/- What functions of the program compute, each proved once, part 1. -/
import Derived.Test.YtglokajinehbmaaGreatPiD
import Derived.Test.YtglokajinehbmaaGreatProg

section
namespace Go.Proofs.YtglokajinehbmaaGreat
set_option linter.unusedVariables false
set_option linter.unusedSimpArgs false
open Go Go.Pi
set_option maxRecDepth 100000
theorem progOK : ProgOK Tryz.prog := ⟨by kernel_rfl, by kernel_rfl⟩
end Go.Proofs.YtglokajinehbmaaGreat
end

section
namespace Go.Proofs.YtglokajinehbmaaGreat
open Go Go.Pi Go.RowKit
set_option maxRecDepth 100000
set_option linter.unusedVariables false
set_option linter.unusedSimpArgs false

def f25 (x : Int × Int × Int) : Bool := decide (x.2.1 ≤ x.1) && decide (x.1 ≤ x.2.2)
def f25_e : Entry := { doms := [(false, (.int .i64)), (false, (.int .i64)), (false, (.int .i64))], cods := [(false, .bool)], pre := fun _ => True, fn := f25, uq := false, total := true }
def f25_E : Env := []
def f25_A : Anns := { loops := [], own := [] }
theorem f25_run (a0 : Int) (a1 : Int) (a2 : Int) (K : Bool → Prop) : runF Tryz.prog f25_E f25_A 6 Tryz.f25 f25_e.doms f25_e.cods (a0, a1, a2) K =
    (br (decide (a1 ≤ a0))
    (K (decide (a0 ≤ a2)))
    (K false)) := by kernel_rfl
theorem f25_t (a0 : Int) (a1 : Int) (a2 : Int) (K : Bool → Prop) (hK : ∀ y : Bool, y = f25 (a0, a1, a2) → K y) : RunF Tryz.prog f25_E f25_A 6 Tryz.f25 f25_e.doms f25_e.cods (a0, a1, a2) K := by
  refine ⟨?_⟩
  rw [f25_run a0 a1 a2 K]
  rw [br_dec]
  exact ⟨fun h => hK _ (by simp [f25, h]), fun h => hK _ (by simp [f25, h])⟩
theorem f25_fn : f25_e.fn = f25 := rfl
theorem f25_ok : EntryOK Tryz.prog 25 f25_e := by
  refine entryF progOK (EnvOK.nil) (A := f25_A) (d := 6) Tryz.func25 rfl rfl rfl rfl (fun _ _ => trivial) fun x hpre => ?_
  obtain ⟨a0, a1, a2⟩ := x
  exact f25_t a0 a1 a2 _ fun _ h => h.trans (congrFun f25_fn.symm _)
theorem f25_t1 {a b c : Int} : f25 (a, b, c) = true ↔ b ≤ a ∧ a ≤ c := by simp [f25]
theorem f25_f1 {a b c : Int} : f25 (a, b, c) = false ↔ ¬ (b ≤ a ∧ a ≤ c) := by rw [← Bool.not_eq_true, f25_t1]
end Go.Proofs.YtglokajinehbmaaGreat
end

section
namespace Go.Proofs.YtglokajinehbmaaGreat
open Go Go.Pi Go.RowKit
set_option maxRecDepth 100000
set_option linter.unusedVariables false
set_option linter.unusedSimpArgs false

def f39 (x : Int × Int × Int) : Bool := decide (x.2.1 ≤ x.1) && decide (x.1 ≤ x.2.2)
def f39_e : Entry := { doms := [(false, (.int .i64)), (false, (.int .i64)), (false, (.int .i64))], cods := [(false, .bool)], pre := fun _ => True, fn := f39, uq := false, total := true }
def f39_E : Env := []
def f39_A : Anns := { loops := [], own := [] }
theorem f39_run (a0 : Int) (a1 : Int) (a2 : Int) (K : Bool → Prop) : runF Tryz.prog f39_E f39_A 6 Tryz.f39 f39_e.doms f39_e.cods (a0, a1, a2) K =
    (br (decide (a1 ≤ a0))
    (K (decide (a0 ≤ a2)))
    (K false)) := by kernel_rfl
theorem f39_t (a0 : Int) (a1 : Int) (a2 : Int) (K : Bool → Prop) (hK : ∀ y : Bool, y = f39 (a0, a1, a2) → K y) : RunF Tryz.prog f39_E f39_A 6 Tryz.f39 f39_e.doms f39_e.cods (a0, a1, a2) K := by
  refine ⟨?_⟩
  rw [f39_run a0 a1 a2 K]
  rw [br_dec]
  exact ⟨fun h => hK _ (by simp [f39, h]), fun h => hK _ (by simp [f39, h])⟩
theorem f39_fn : f39_e.fn = f39 := rfl
theorem f39_ok : EntryOK Tryz.prog 39 f39_e := by
  refine entryF progOK (EnvOK.nil) (A := f39_A) (d := 6) Tryz.func39 rfl rfl rfl rfl (fun _ _ => trivial) fun x hpre => ?_
  obtain ⟨a0, a1, a2⟩ := x
  exact f39_t a0 a1 a2 _ fun _ h => h.trans (congrFun f39_fn.symm _)
theorem f39_t1 {a b c : Int} : f39 (a, b, c) = true ↔ b ≤ a ∧ a ≤ c := by simp [f39]
theorem f39_f1 {a b c : Int} : f39 (a, b, c) = false ↔ ¬ (b ≤ a ∧ a ≤ c) := by rw [← Bool.not_eq_true, f39_t1]
end Go.Proofs.YtglokajinehbmaaGreat
end

section
namespace Go.Proofs.YtglokajinehbmaaGreat
open Go Go.Pi Go.RowKit
set_option maxRecDepth 100000
set_option linter.unusedVariables false
set_option linter.unusedSimpArgs false

def f42 (l : List Int) : Int := match l.find? (· != 0) with
  | some n => n
  | none => 0
def f42_e : Entry := { doms := [(false, (.sl (.int .i64)))], cods := [(false, (.int .i64))], pre := fun _ => True, fn := f42, uq := false, total := true }
def f42_E : Env := []
def f42_A : Anns := { loops := [(1048576, { tms := [(5, .keep), (6, .keep), (7, .data false (.int .i64))], obs := [], fz := [] })], own := [] }
theorem f42_run (a0 : List Int) (K : Int → Prop) : runF Tryz.prog f42_E f42_A 6 Tryz.f42 f42_e.doms f42_e.cods a0 K =
    (br (lenOk (a0.length))
    (LoopP (V := Int × Unit) (fun again v => (fun (again1 : Int → Prop) (v1_0 : Int) =>
    br (decide (v1_0 < ((a0.length) : Int)))
    (br (decide (0 ≤ v1_0) && decide (v1_0 < ((a0.length) : Int)))
    (br ((a0.getD v1_0.toNat 0) != 0)
    (K (a0.getD v1_0.toNat 0))
    (again1 (IntKind.i64.wrap (v1_0 + 1))))
    False)
    (K 0))
    (fun v1_0 => again (v1_0, ())) v.1) (0, ()))
    True) := by kernel_rfl
theorem f42_t (a0 : List Int) (K : Int → Prop) (hK : ∀ y : Int, y = f42 a0 → K y) : RunF Tryz.prog f42_E f42_A 6 Tryz.f42 f42_e.doms f42_e.cods a0 K := by
  refine ⟨?_⟩
  rw [f42_run a0 K]
  rw [br_true_, lenOk_iff]
  intro hl
  refine LoopP.up a0.length (fun i _ => ∀ x ∈ a0.take i.toNat, (x != 0) = false) (fun again i v h0 hn hI hag => ?_) (by omega) all_zero
  simp only [br_both, decide_eq_true_eq, decide_eq_false_iff_not, Bool.and_eq_true]
  refine ⟨fun hi => ⟨fun _ => ⟨fun hne => ?_, fun he => ?_⟩, fun hf => ?_⟩, fun hi => ?_⟩
  · exact hK _ (by rw [f42, find_at h0 hi hI hne])
  · rw [wr (by omega) (by omega)]
    exact hag () hi (all_step h0 hi hI he)
  · simp at hf; omega
  · exact hK _ (by rw [f42, find_none (all_done hi hI)])
theorem f42_fn : f42_e.fn = f42 := rfl
theorem f42_ok : EntryOK Tryz.prog 42 f42_e := by
  refine entryF progOK (EnvOK.nil) (A := f42_A) (d := 6) Tryz.func42 rfl rfl rfl rfl (fun _ _ => trivial) fun x hpre => ?_
  exact f42_t x _ fun _ h => h.trans (congrFun f42_fn.symm _)
theorem f42_nil : f42 [] = 0 := rfl
theorem f42_cons (a : Int) (l : List Int) : f42 (a :: l) = if a = 0 then f42 l else a := by
  by_cases h : a = 0 <;> simp [f42, h]
end Go.Proofs.YtglokajinehbmaaGreat
end

section
namespace Go.Proofs.YtglokajinehbmaaGreat
open Go Go.Pi Go.RowKit
set_option maxRecDepth 100000
set_option linter.unusedVariables false
set_option linter.unusedSimpArgs false

def f43 (x : Bool × Int) : Int := if x.1 then 0 else x.2
def f43_e : Entry := { doms := [(false, .bool), (false, (.int .i64))], cods := [(false, (.int .i64))], pre := fun _ => True, fn := f43, uq := false, total := true }
def f43_E : Env := []
def f43_A : Anns := { loops := [], own := [] }
theorem f43_run (a0 : Bool) (a1 : Int) (K : Int → Prop) : runF Tryz.prog f43_E f43_A 6 Tryz.f43 f43_e.doms f43_e.cods (a0, a1) K =
    (br a0
    (K 0)
    (K a1)) := by kernel_rfl
theorem f43_t (a0 : Bool) (a1 : Int) (K : Int → Prop) (hK : ∀ y : Int, y = f43 (a0, a1) → K y) : RunF Tryz.prog f43_E f43_A 6 Tryz.f43 f43_e.doms f43_e.cods (a0, a1) K := by
  refine ⟨?_⟩
  rw [f43_run a0 a1 K]
  cases a0 <;> exact hK _ rfl
theorem f43_fn : f43_e.fn = f43 := rfl
theorem f43_ok : EntryOK Tryz.prog 43 f43_e := by
  refine entryF progOK (EnvOK.nil) (A := f43_A) (d := 6) Tryz.func43 rfl rfl rfl rfl (fun _ _ => trivial) fun x hpre => ?_
  obtain ⟨a0, a1⟩ := x
  exact f43_t a0 a1 _ fun _ h => h.trans (congrFun f43_fn.symm _)
end Go.Proofs.YtglokajinehbmaaGreat
end

section
namespace Go.Proofs.YtglokajinehbmaaGreat
open Go Go.Pi Go.RowKit
set_option maxRecDepth 100000
set_option linter.unusedVariables false
set_option linter.unusedSimpArgs false

def f54 (n : Int) : Bool := decide (0 ≤ n) && decide (n ≤ 100000)
def f54_e : Entry := { doms := [(false, (.int .i64))], cods := [(false, .bool)], pre := fun _ => True, fn := f54, uq := false, total := true }
def f54_E : Env := [(39, f39_e)]
def f54_A : Anns := { loops := [], own := [] }
theorem f54_run (a0 : Int) (K : Bool → Prop) : runF Tryz.prog f54_E f54_A 6 Tryz.f54 f54_e.doms f54_e.cods a0 K =
    (K (f39 (a0, (0, 100000)))) := by kernel_rfl
theorem f54_t (a0 : Int) (K : Bool → Prop) (hK : ∀ y : Bool, y = f54 a0 → K y) : RunF Tryz.prog f54_E f54_A 6 Tryz.f54 f54_e.doms f54_e.cods a0 K := by
  refine ⟨?_⟩
  rw [f54_run a0 K]
  exact hK _ rfl
theorem f54_fn : f54_e.fn = f54 := rfl
theorem f54_ok : EntryOK Tryz.prog 54 f54_e := by
  refine entryF progOK (EnvOK.cons f39_ok (EnvOK.nil)) (A := f54_A) (d := 6) Tryz.func54 rfl rfl rfl rfl (fun _ _ => trivial) fun x hpre => ?_
  exact f54_t x _ fun _ h => h.trans (congrFun f54_fn.symm _)
end Go.Proofs.YtglokajinehbmaaGreat
end

section
namespace Go.Proofs.YtglokajinehbmaaGreat
open Go Go.Pi Go.RowKit
set_option maxRecDepth 100000
set_option linter.unusedVariables false
set_option linter.unusedSimpArgs false

def f55 (l : List (Int × Int)) : List (Int × Int) := l
def f55_pre (l : List (Int × Int)) : Prop := l.length ≤ 1048576
def f55_e : Entry := { doms := [(false, (.sl (.pair (.int .i64) (.int .i64))))], cods := [(false, (.sl (.pair (.int .i64) (.int .i64))))], pre := f55_pre, fn := f55, uq := true, total := false }
def f55_E : Env := []
def f55_A : Anns := { loops := [], own := [1049601, 1051648] }
theorem f55_run (a0 : List (Int × Int)) (K : (List (Int × Int)) → Prop) : runU Tryz.prog f55_E f55_A 6 Tryz.f55 f55_e.doms f55_e.cods a0 K =
    ((((a0.length) = 0 →
    K ([] : List (Int × Int))) ∧
    br (roomOk (0 + (a0.length)) 16)
    (K (([] : List (Int × Int)) ++ a0))
    False)) := by kernel_rfl
theorem f55_t (a0 : List (Int × Int)) (hpre : f55_pre a0) (K : (List (Int × Int)) → Prop) (hK : ∀ y : List (Int × Int), y = f55 a0 → K y) : RunU Tryz.prog f55_E f55_A 6 Tryz.f55 f55_e.doms f55_e.cods a0 K := by
  refine ⟨?_⟩
  rw [f55_run a0 K]
  simp only [br_false_, roomOk_iff]
  have : a0.length ≤ 1048576 := hpre
  refine ⟨fun h0 => hK _ ?_, by omega, hK _ (by simp [f55])⟩
  exact (List.length_eq_zero_iff.1 h0).symm
theorem f55_fn : f55_e.fn = f55 := rfl
theorem f55_ok : EntryOK Tryz.prog 55 f55_e := by
  refine entryFU progOK (EnvOK.nil) (A := f55_A) (d := 6) Tryz.func55 rfl rfl rfl (fun h => by cases h) fun x hpre => ?_
  exact f55_t x hpre _ fun _ h => h.trans (congrFun f55_fn.symm _)
end Go.Proofs.YtglokajinehbmaaGreat
end

section
namespace Go.Proofs.YtglokajinehbmaaGreat
open Go Go.Pi Go.RowKit
set_option maxRecDepth 100000
set_option linter.unusedVariables false
set_option linter.unusedSimpArgs false

def f75 (x : List Int × Int) : Bool := decide (x.2 ∈ x.1)
def f75_e : Entry := { doms := [(false, (.sl (.int .i64))), (false, (.int .i64))], cods := [(false, .bool)], pre := fun _ => True, fn := f75, uq := false, total := true }
def f75_E : Env := []
def f75_A : Anns := { loops := [(1100587466752, { tms := [(0, .keep), (1, .keep), (7, .keep), (8, .data false (.int .i64))], obs := [], fz := [] })], own := [] }
theorem f75_run (a0 : List Int) (a1 : Int) (K : Bool → Prop) : runF Tryz.prog f75_E f75_A 6 Tryz.f75 f75_e.doms f75_e.cods (a0, a1) K =
    (br (lenOk (a0.length))
    (LoopP (V := Int × Unit) (fun again v => (fun (again1 : Int → Prop) (v1_0 : Int) =>
    br (decide (v1_0 < ((a0.length) : Int)))
    (br (decide (0 ≤ v1_0) && decide (v1_0 < ((a0.length) : Int)))
    (br (a1 == (a0.getD v1_0.toNat 0))
    (K (decide (v1_0 ≥ 0)))
    (again1 (IntKind.i64.wrap (v1_0 + 1))))
    False)
    (K false))
    (fun v1_0 => again (v1_0, ())) v.1) (0, ()))
    True) := by kernel_rfl
theorem f75_t (a0 : List Int) (a1 : Int) (K : Bool → Prop) (hK : ∀ y : Bool, y = f75 (a0, a1) → K y) : RunF Tryz.prog f75_E f75_A 6 Tryz.f75 f75_e.doms f75_e.cods (a0, a1) K := by
  refine ⟨?_⟩
  rw [f75_run a0 a1 K]
  rw [br_true_, lenOk_iff]
  intro hl
  refine LoopP.up a0.length (fun i _ => ∀ x ∈ a0.take i.toNat, (a1 == x) = false) (fun again i v hi0 hn hI hag => ?_) (by omega) all_zero
  dsimp only
  rw [br_dec]
  refine ⟨fun hi => ?_, fun hi => hK _ ?_⟩
  · have hil : i.toNat < a0.length := by omega
    rw [br_false_]
    refine ⟨by simp; omega, ?_⟩
    rw [br_both]
    refine ⟨fun h => hK _ ?_, fun h => ?_⟩
    · have h : a1 = a0.getD i.toNat 0 := by simpa using h
      have hm : a1 ∈ a0 := by
        rw [h, getD_lt hil]
        exact List.getElem_mem _
      rw [f75, decide_eq_true hm]
      simp [hi0]
    · rw [wr (n := i + 1) (by omega) (by omega)]
      exact hag () hi (all_step (d := 0) hi0 hi hI h)
  · have hall := all_done hi hI
    unfold f75
    symm
    rw [decide_eq_false_iff_not]
    intro hm
    have := hall a1 hm
    simp at this
theorem f75_fn : f75_e.fn = f75 := rfl
theorem f75_ok : EntryOK Tryz.prog 75 f75_e := by
  refine entryF progOK (EnvOK.nil) (A := f75_A) (d := 6) Tryz.func75 rfl rfl rfl rfl (fun _ _ => trivial) fun x hpre => ?_
  obtain ⟨a0, a1⟩ := x
  exact f75_t a0 a1 _ fun _ h => h.trans (congrFun f75_fn.symm _)
end Go.Proofs.YtglokajinehbmaaGreat
end

section
namespace Go.Pi
set_option linter.unusedVariables false
theorem inb {i : Int} {n : Nat} (h0 : 0 ≤ i) (h1 : i < n) : (decide (0 ≤ i) && decide (i < (n : Int))) = true := by
  rw [decide_eq_true h0, decide_eq_true h1]; rfl
theorem not_true {b : Bool} : (!b) = true ↔ b = false := by cases b <;> simp
theorem not_false_ {b : Bool} : (!b) = false ↔ b = true := by cases b <;> simp
theorem cast_ne {a b : Nat} : ((a : Int) != (b : Int)) = true ↔ a ≠ b := by
  rw [bne_iff_ne]; omega
theorem cast_ne_f {a b : Nat} : ((a : Int) != (b : Int)) = false ↔ a = b := by
  rw [bne_eq_false_iff_eq]; omega
theorem cast_eq {a b : Nat} : ((a : Int) == (b : Int)) = true ↔ a = b := by
  rw [beq_iff_eq]; omega
theorem cast_eq_f {a b : Nat} : ((a : Int) == (b : Int)) = false ↔ a ≠ b := by
  rw [beq_eq_false_iff_ne]; omega
/-- The number and the error of the first invalid item. -/
def eachE (n : Nat) (e : Nat → Int) : Int × Int := match (List.range n).find? (fun i => e i != 0) with
  | some i => ((i : Int), e i)
  | none => (0, 0)
theorem eachE_none {n : Nat} {e : Nat → Int} (h : ∀ i, i < n → e i = 0) : eachE n e = (0, 0) := by
  unfold eachE
  rw [List.find?_eq_none.2 fun x hx => by simp [h x (List.mem_range.1 hx)]]
theorem eachE_some {n i : Nat} {e : Nat → Int} (hi : i < n) (h : ∀ j, j < i → e j = 0) (he : e i ≠ 0) : eachE n e = ((i : Int), e i) := by
  unfold eachE
  have : (List.range n).find? (fun i => e i != 0) = some i := by
    rw [List.find?_range_eq_some]
    exact ⟨by simpa using he, List.mem_range.2 hi, fun j hj => by simp [h j hj]⟩
  rw [this]
theorem eachE_zero {n : Nat} {e : Nat → Int} (h : (eachE n e).2 = 0) : ∀ i, i < n → e i = 0 := by
  unfold eachE at h
  split at h
  · rename_i i hf
    have := List.find?_some hf
    simp only [bne_iff_ne, ne_eq] at this
    exact absurd h this
  · rename_i hf
    intro i hi
    have := List.find?_eq_none.1 hf i (List.mem_range.2 hi)
    simpa using this
theorem eachE_congr {n : Nat} {e e' : Nat → Int} (h : ∀ i, i < n → e i = e' i) : eachE n e = eachE n e' := by
  by_cases hz : ∀ i, i < n → e i = 0
  · rw [eachE_none hz, eachE_none fun i hi => (h i hi).symm.trans (hz i hi)]
  · have : ∃ i, i < n ∧ e i ≠ 0 := by
      rcases Classical.em (∃ i, i < n ∧ e i ≠ 0) with h1 | h1
      · exact h1
      · exact absurd (fun i hi => Classical.byContradiction fun hn => h1 ⟨i, hi, hn⟩) hz
    obtain ⟨i, hi, hne, hmin⟩ : ∃ i, i < n ∧ e i ≠ 0 ∧ ∀ j, j < i → e j = 0 := by
      obtain ⟨i, hi, hne⟩ := this
      induction i using Nat.strongRecOn with
      | _ i ih =>
        by_cases hm : ∀ j, j < i → e j = 0
        · exact ⟨i, hi, hne, hm⟩
        · rcases Classical.em (∃ j, j < i ∧ e j ≠ 0) with ⟨j, hj, hj0⟩ | h1
          · exact ih j hj (Nat.lt_trans hj hi) hj0
          · exact absurd (fun j hj => Classical.byContradiction fun hn => h1 ⟨j, hj, hn⟩) hm
    rw [eachE_some hi hmin hne, eachE_some hi (fun j hj => (h j (Nat.lt_trans hj hi)).symm.trans (hmin j hj)) (fun e0 => hne ((h i hi).trans e0)), h i hi]
/-- A loop over items that are found valid one after the other. -/
theorem each_walk {n : Nat} {e : Nat → Int} {step : ((Int × Unit) → Prop) → (Int × Unit) → Prop}
    (h : ∀ (again : (Int × Unit) → Prop) (i : Nat), i ≤ n → (∀ j, j < i → e j = 0) → (i < n → e i = 0 → again (((i + 1 : Nat) : Int), ())) → step again ((i : Int), ())) : LoopP step (0, ()) := by
  refine LoopP.up n (fun i _ => ∀ j, j < i.toNat → e j = 0) (fun again i v hi0 hn hI hag => ?_) (by omega) (fun j hj => by simp at hj)
  obtain ⟨k, rfl⟩ := Int.eq_ofNat_of_zero_le hi0
  simp only [Int.toNat_natCast] at hI
  refine h again k (by omega) hI (fun hk he => hag () (by omega) fun j hj => ?_)
  by_cases hjk : j = k
  · rw [hjk]; exact he
  · exact hI j (by omega)
/-- A loop that looks for the first invalid item. -/
theorem each_loop {K : Int × Int → Prop} {n : Nat} {e : Nat → Int} (hK : K (eachE n e)) {step : ((Int × Unit) → Prop) → (Int × Unit) → Prop}
    (h : ∀ (again : (Int × Unit) → Prop) (i : Nat), i ≤ n → (∀ j, j < i → e j = 0) → (i < n → e i = 0 → again (((i + 1 : Nat) : Int), ())) → (i < n → e i ≠ 0 → K ((i : Int), e i)) → (i = n → K (0, 0)) → step again ((i : Int), ())) : LoopP step (0, ()) := by
  refine LoopP.up n (fun i _ => ∀ j, j < i.toNat → e j = 0) (fun again i v hi0 hn hI hag => ?_) (by omega) (fun j hj => by simp at hj)
  obtain ⟨k, rfl⟩ := Int.eq_ofNat_of_zero_le hi0
  simp only [Int.toNat_natCast] at hI
  refine h again k (by omega) hI (fun hk he => hag () (by omega) fun j hj => ?_) (fun hk he => ?_) (fun hk => ?_)
  · by_cases hjk : j = k
    · rw [hjk]; exact he
    · exact hI j (by omega)
  · have := hK
    rw [eachE_some hk hI he] at this
    exact this
  · subst hk
    have := hK
    rw [eachE_none hI] at this
    exact this
end Go.Pi
end

section
namespace Go.Proofs.YtglokajinehbmaaGreat
open Go Go.Pi Go.RowKit
set_option maxRecDepth 100000
set_option linter.unusedVariables false
set_option linter.unusedSimpArgs false

def rowP (r : List (List Int) × List (List Int)) (i k : Nat) : Prop := (0 ≤ (r.1.getD i []).getD k 0 ∧ (r.1.getD i []).getD k 0 ≤ 600) ∧ 0 ≤ (r.2.getD i []).getD k 0 ∧ (r.2.getD i []).getD k 0 ≤ (r.1.getD i []).getD k 0
instance (r : List (List Int) × List (List Int)) (i k : Nat) : Decidable (rowP r i k) := by unfold rowP; infer_instance
def rowE (r : List (List Int) × List (List Int)) (i : Nat) : Int :=
  if (r.1.getD i []).length ≠ r.1.length ∨ (r.2.getD i []).length ≠ r.1.length then 10 else if ∀ k < r.1.length, rowP r i k then 0 else 2
def ruleOf (r : List (List Int) × List (List Int)) : Int × Int := if r.1.length = 0 ∨ r.2.length ≠ r.1.length then (0, 10) else if r.1.length > 4 then (0, 8) else eachE r.1.length (rowE r)
def f85 (r : List (List Int) × List (List Int)) : Int × Int := ruleOf r
def f85_e : Entry := { doms := [(true, (.pair (.sl (.sl (.int .i64))) (.sl (.sl (.int .i64)))))], cods := [(false, (.int .i64)), (false, (.int .i64))], pre := fun _ => True, fn := f85, uq := false, total := true }
def f85_E : Env := [(25, f25_e)]
def f85_A : Anns := { loops := [(1048576, { tms := [(1, .keep), (4, .keep), (5, .data false (.int .i64))], obs := [(1048576, .keep)], fz := [] }),
  (1048578, { tms := [(1, .keep), (4, .keep), (5, .keep), (6, .data false (.int .i64))], obs := [(1048576, .keep)], fz := [] })], own := [] }
theorem f85_run (a0 : List (List Int) × List (List Int)) (K : (Int × Int) → Prop) : runF Tryz.prog f85_E f85_A 6 Tryz.f85 f85_e.doms f85_e.cods a0 K =
    (br (lenOk (a0.1.length))
    (br (((a0.1.length) : Int) == 0)
    (K (0, 10))
    (br (lenOk (a0.2.length))
    (br (((a0.2.length) : Int) != ((a0.1.length) : Int))
    (K (0, 10))
    (br (decide (((a0.1.length) : Int) > 4))
    (K (0, 8))
    (LoopP (V := Int × Unit) (fun again v => (fun (again1 : Int → Prop) (v1_0 : Int) =>
    br (decide (v1_0 < ((a0.1.length) : Int)))
    (br (decide (0 ≤ v1_0) && decide (v1_0 < ((a0.1.length) : Int)))
    (br (lenOk ((a0.1.getD v1_0.toNat []).length))
    (br ((((a0.1.getD v1_0.toNat []).length) : Int) != ((a0.1.length) : Int))
    (K (v1_0, 10))
    (br (decide (0 ≤ v1_0) && decide (v1_0 < ((a0.2.length) : Int)))
    (br (lenOk ((a0.2.getD v1_0.toNat []).length))
    (br ((((a0.2.getD v1_0.toNat []).length) : Int) != ((a0.1.length) : Int))
    (K (v1_0, 10))
    (LoopP (V := Int × Unit) (fun again v => (fun (again2 : Int → Prop) (v2_0 : Int) =>
    br (decide (v2_0 < ((a0.1.length) : Int)))
    (br (decide (0 ≤ v1_0) && decide (v1_0 < ((a0.1.length) : Int)))
    (br (decide (0 ≤ v2_0) && decide (v2_0 < (((a0.1.getD v1_0.toNat []).length) : Int)))
    (br (!(f25 (((a0.1.getD v1_0.toNat []).getD v2_0.toNat 0), (0, 600))))
    (K (v1_0, 2))
    (br (decide (0 ≤ v1_0) && decide (v1_0 < ((a0.2.length) : Int)))
    (br (decide (0 ≤ v2_0) && decide (v2_0 < (((a0.2.getD v1_0.toNat []).length) : Int)))
    (br (decide (0 ≤ v1_0) && decide (v1_0 < ((a0.1.length) : Int)))
    (br (decide (0 ≤ v2_0) && decide (v2_0 < (((a0.1.getD v1_0.toNat []).length) : Int)))
    (br (!(f25 (((a0.2.getD v1_0.toNat []).getD v2_0.toNat 0), (0, ((a0.1.getD v1_0.toNat []).getD v2_0.toNat 0)))))
    (K (v1_0, 2))
    (again2 (IntKind.i64.wrap (v2_0 + 1))))
    False)
    False)
    False)
    False))
    False)
    False)
    (again1 (IntKind.i64.wrap (v1_0 + 1))))
    (fun v2_0 => again (v2_0, ())) v.1) (0, ())))
    True)
    False))
    True)
    False)
    (K (0, 0)))
    (fun v1_0 => again (v1_0, ())) v.1) (0, ()))))
    True))
    True) := by kernel_rfl
theorem f85_t (a0 : List (List Int) × List (List Int)) (K : (Int × Int) → Prop) (hK : ∀ y : Int × Int, y = f85 a0 → K y) : RunF Tryz.prog f85_E f85_A 6 Tryz.f85 f85_e.doms f85_e.cods a0 K := by
  refine ⟨?_⟩
  rw [f85_run a0 K]
  rw [br_true_]
  intro _
  rw [br_both]
  refine ⟨fun h => hK _ ?_, fun h => ?_⟩
  · have h : a0.1.length = 0 := by simpa using h
    rw [f85, ruleOf, if_pos (.inl h)]
  have h0 : a0.1.length ≠ 0 := fun e => by rw [e] at h; simp at h
  rw [br_true_]
  intro _
  rw [br_both]
  refine ⟨fun h => hK _ ?_, fun h => ?_⟩
  · have h : a0.2.length ≠ a0.1.length := fun e => by rw [e] at h; simp at h
    rw [f85, ruleOf, if_pos (.inr h)]
  have h2 : a0.2.length = a0.1.length := by
    have : (a0.2.length : Int) = a0.1.length := by simpa using h
    omega
  have hn : ¬ (a0.1.length = 0 ∨ a0.2.length ≠ a0.1.length) := by omega
  rw [br_dec]
  refine ⟨fun h => hK _ ?_, fun h => ?_⟩
  · rw [f85, ruleOf, if_neg hn, if_pos (by omega)]
  have h4 : a0.1.length ≤ 4 := by omega
  refine each_loop (K := K) (n := a0.1.length) (e := rowE a0) (hK _ (by rw [f85, ruleOf, if_neg hn, if_neg (by omega)])) (fun again i hi hI good bad fin => ?_)
  dsimp only
  rw [br_dec]
  refine ⟨fun h1 => ?_, fun h1 => fin (by omega)⟩
  have hlt : i < a0.1.length := by omega
  have b0 : (decide (0 ≤ (i : Int)) && decide ((i : Int) < (a0.1.length : Int))) = true := by simp; omega
  have b1 : (decide (0 ≤ (i : Int)) && decide ((i : Int) < (a0.2.length : Int))) = true := by simp; omega
  rw [b0, b1]
  simp only [Int.toNat_natCast, br_t]
  have ten : ((a0.1.getD i []).length ≠ a0.1.length ∨ (a0.2.getD i []).length ≠ a0.1.length) → K ((i : Int), 10) := fun hc => by
    have e : rowE a0 i = 10 := if_pos hc
    have := bad hlt (by rw [e]; decide)
    rwa [e] at this
  rw [br_true_]
  intro _
  rw [br_both]
  refine ⟨fun h => ten (.inl fun e => by rw [e] at h; simp at h), fun h => ?_⟩
  have hA : (a0.1.getD i []).length = a0.1.length := by
    have : ((a0.1.getD i []).length : Int) = a0.1.length := by simpa using h
    omega
  rw [br_true_]
  intro _
  rw [br_both]
  refine ⟨fun h => ten (.inr fun e => by rw [e] at h; simp at h), fun h => ?_⟩
  have hB : (a0.2.getD i []).length = a0.1.length := by
    have : ((a0.2.getD i []).length : Int) = a0.1.length := by simpa using h
    omega
  have hne : ¬ ((a0.1.getD i []).length ≠ a0.1.length ∨ (a0.2.getD i []).length ≠ a0.1.length) := by omega
  refine LoopP.up a0.1.length (fun k _ => ∀ j < k.toNat, rowP a0 i j) (fun again2 k v hk0 hk1 hJ hag2 => ?_) (by omega) (fun j hj => by simp at hj)
  dsimp only
  rw [br_dec]
  refine ⟨fun hk => ?_, fun hk => ?_⟩
  · have c0 : (decide (0 ≤ k) && decide (k < ((a0.1.getD i []).length : Int))) = true := inb hk0 (by omega)
    have c1 : (decide (0 ≤ k) && decide (k < ((a0.2.getD i []).length : Int))) = true := inb hk0 (by omega)
    rw [c0, c1]
    simp only [br_t]
    have two : ¬ rowP a0 i k.toNat → K ((i : Int), 2) := fun hr => by
      have e : rowE a0 i = 2 := by rw [rowE, if_neg hne, if_neg fun hh => hr (hh k.toNat (by omega))]
      have := bad hlt (by rw [e]; decide)
      rwa [e] at this
    rw [br_both]
    refine ⟨fun h => two fun hr => ?_, fun h => ?_⟩
    · exact f25_f1.1 (not_true.1 h) hr.1
    · have h3 := f25_t1.1 (not_false_.1 h)
      rw [br_both]
      refine ⟨fun h => two fun hr => ?_, fun h => ?_⟩
      · exact f25_f1.1 (not_true.1 h) hr.2
      · have h5 := f25_t1.1 (not_false_.1 h)
        rw [wr (n := k + 1) (by omega) (by omega)]
        refine hag2 () hk fun j hj => ?_
        by_cases hjk : j = k.toNat
        · rw [hjk]; exact ⟨h3, h5⟩
        · exact hJ j (by omega)
  · rw [wr (n := (i : Int) + 1) (by omega) (by omega)]
    refine good hlt ?_
    rw [rowE, if_neg hne, if_pos fun j hj => hJ j (by omega)]
theorem f85_fn : f85_e.fn = f85 := rfl
theorem f85_ok : EntryOK Tryz.prog 85 f85_e := by
  refine entryF progOK (EnvOK.cons f25_ok (EnvOK.nil)) (A := f85_A) (d := 6) Tryz.func85 rfl rfl rfl rfl (fun _ _ => trivial) fun x hpre => ?_
  exact f85_t x _ fun _ h => h.trans (congrFun f85_fn.symm _)
end Go.Proofs.YtglokajinehbmaaGreat
end

section
namespace Go.Proofs.YtglokajinehbmaaGreat
open Go Go.Pi Go.RowKit
set_option maxRecDepth 100000
set_option linter.unusedVariables false
set_option linter.unusedSimpArgs false

def secAt (r : List (List Int) × List (List Int)) (l f : Int) (fr : Bool) : Int := if fr then (r.2.getD l.toNat []).getD f.toNat 0 else (r.1.getD l.toNat []).getD f.toNat 0
theorem ruleOf_zero {r : List (List Int) × List (List Int)} (h : (ruleOf r).2 = 0) : (0 < r.1.length ∧ r.1.length ≤ 4 ∧ r.2.length = r.1.length) ∧ ∀ i, i < r.1.length → ((r.1.getD i []).length = r.1.length ∧ (r.2.getD i []).length = r.1.length) ∧ ∀ k, k < r.1.length → rowP r i k := by
  unfold ruleOf at h
  split at h
  · simp at h
  · rename_i h1
    split at h
    · simp at h
    · rename_i h2
      refine ⟨⟨by omega, by omega, by omega⟩, fun i hi => ?_⟩
      have := eachE_zero h i hi
      unfold rowE at this
      split at this
      · simp at this
      · rename_i h3
        split at this
        · rename_i h4
          exact ⟨⟨by omega, by omega⟩, h4⟩
        · simp at this
def f124 (x : (List (List Int) × List (List Int)) × Int × Int × Bool) : Int := secAt x.1 x.2.1 x.2.2.1 x.2.2.2
def f124_pre (x : (List (List Int) × List (List Int)) × Int × Int × Bool) : Prop := (ruleOf x.1).2 = 0 ∧ (0 ≤ x.2.1 ∧ x.2.1 < x.1.1.length) ∧ 0 ≤ x.2.2.1 ∧ x.2.2.1 < x.1.1.length
def f124_e : Entry := { doms := [(true, (.pair (.sl (.sl (.int .i64))) (.sl (.sl (.int .i64))))), (true, (.pair (.int .i64) (.pair (.int .i64) .bool)))], cods := [(false, (.int .i64))], pre := f124_pre, fn := f124, uq := false, total := false }
def f124_E : Env := [(85, f85_e)]
def f124_A : Anns := { loops := [], own := [] }
theorem f124_run (a0 : List (List Int) × List (List Int)) (a1 : Int × Int × Bool) (K : Int → Prop) : runF Tryz.prog f124_E f124_A 6 Tryz.f124 f124_e.doms f124_e.cods (a0, a1) K =
    (br a1.2.2
    (br (decide (0 ≤ a1.1) && decide (a1.1 < ((a0.2.length) : Int)))
    (br (decide (0 ≤ a1.2.1) && decide (a1.2.1 < (((a0.2.getD a1.1.toNat []).length) : Int)))
    (K ((a0.2.getD a1.1.toNat []).getD a1.2.1.toNat 0))
    False)
    False)
    (br (decide (0 ≤ a1.1) && decide (a1.1 < ((a0.1.length) : Int)))
    (br (decide (0 ≤ a1.2.1) && decide (a1.2.1 < (((a0.1.getD a1.1.toNat []).length) : Int)))
    (K ((a0.1.getD a1.1.toNat []).getD a1.2.1.toNat 0))
    False)
    False)) := by kernel_rfl
theorem f124_t (a0 : List (List Int) × List (List Int)) (a1 : Int × Int × Bool) (hpre : f124_pre (a0, a1)) (K : Int → Prop) (hK : ∀ y : Int, y = f124 (a0, a1) → K y) : RunF Tryz.prog f124_E f124_A 6 Tryz.f124 f124_e.doms f124_e.cods (a0, a1) K := by
  refine ⟨?_⟩
  rw [f124_run a0 a1 K]
  obtain ⟨l, f, fr⟩ := a1
  obtain ⟨h, ⟨h1, h2⟩, h3, h4⟩ := hpre
  simp only at h h1 h2 h3 h4
  obtain ⟨⟨p1, p2, p3⟩, hr⟩ := ruleOf_zero h
  obtain ⟨⟨q1, q2⟩, _⟩ := hr l.toNat (by omega)
  dsimp only
  rw [br_both]
  refine ⟨fun hf => ?_, fun hf => ?_⟩
  · rw [br_false_, br_false_]
    exact ⟨inb h1 (by omega), inb h3 (by omega), hK _ (by rw [f124, secAt, hf]; rfl)⟩
  · rw [br_false_, br_false_]
    exact ⟨inb h1 (by omega), inb h3 (by omega), hK _ (by rw [f124, secAt, hf]; rfl)⟩
theorem f124_fn : f124_e.fn = f124 := rfl
theorem f124_ok : EntryOK Tryz.prog 124 f124_e := by
  refine entryF progOK (EnvOK.cons f85_ok (EnvOK.nil)) (A := f124_A) (d := 6) Tryz.func124 rfl rfl rfl rfl (fun h => by cases h) fun x hpre => ?_
  obtain ⟨a0, a1⟩ := x
  exact f124_t a0 a1 hpre _ fun _ h => h.trans (congrFun f124_fn.symm _)
end Go.Proofs.YtglokajinehbmaaGreat
end

section
namespace Go.Proofs.YtglokajinehbmaaGreat
open Go Go.Pi Go.RowKit
set_option maxRecDepth 100000
set_option linter.unusedVariables false
set_option linter.unusedSimpArgs false

def byteAt (s : ByteArray) (i : Nat) : Int := ((s.data.toList.getD i 0).toNat : Int)
theorem byteAt_le (s : ByteArray) (i : Nat) : 0 ≤ byteAt s i ∧ byteAt s i ≤ 255 := by
  unfold byteAt
  have := (s.data.toList.getD i 0).toNat_lt
  omega
/-- A byte of a name, at its place. -/
def nameP (s : ByteArray) (i : Nat) : Prop := ((97 ≤ byteAt s i ∧ byteAt s i ≤ 122) ∨ (65 ≤ byteAt s i ∧ byteAt s i ≤ 90)) ∨ (i ≠ 0 ∧ (byteAt s i = 45 ∨ (48 ≤ byteAt s i ∧ byteAt s i ≤ 57)))
instance (s : ByteArray) (i : Nat) : Decidable (nameP s i) := by unfold nameP; infer_instance
def nameOK (s : ByteArray) : Bool := decide ((1 ≤ s.size ∧ s.size ≤ 12) ∧ ∀ i < s.size, nameP s i)
def f117 (s : ByteArray) : Bool := nameOK s
def f117_pre (s : ByteArray) : Prop := s.size ≤ 1000
def f117_e : Entry := { doms := [(false, .str)], cods := [(false, .bool)], pre := f117_pre, fn := f117, uq := false, total := false }
def f117_E : Env := [(39, f39_e)]
def f117_A : Anns := { loops := [(1048576, { tms := [(0, .keep), (7, .keep), (8, .data false (.int .i64))], obs := [], fz := [] })], own := [] }
theorem f117_run (a0 : ByteArray) (K : Bool → Prop) : runF Tryz.prog f117_E f117_A 6 Tryz.f117 f117_e.doms f117_e.cods a0 K =
    (LoopP (V := Int × Unit) (fun again v => (fun (again1 : Int → Prop) (v1_0 : Int) =>
    br (decide (v1_0 < (a0.size : Int)))
    (br (decide (0 ≤ v1_0) && decide (v1_0 < (a0.size : Int)))
    (br (f39 ((IntKind.i64.wrap (((a0.data.toList.getD v1_0.toNat 0).toNat : Int))), (97, 122)))
    (again1 (IntKind.i64.wrap (v1_0 + 1)))
    (br (!(f39 ((IntKind.i64.wrap (((a0.data.toList.getD v1_0.toNat 0).toNat : Int))), (65, 90))))
    (br (v1_0 == 0)
    (K false)
    (br ((IntKind.i64.wrap (((a0.data.toList.getD v1_0.toNat 0).toNat : Int))) != 45)
    (br (!(f39 ((IntKind.i64.wrap (((a0.data.toList.getD v1_0.toNat 0).toNat : Int))), (48, 57))))
    (K false)
    (again1 (IntKind.i64.wrap (v1_0 + 1))))
    (again1 (IntKind.i64.wrap (v1_0 + 1)))))
    (again1 (IntKind.i64.wrap (v1_0 + 1)))))
    False)
    (K (f39 ((a0.size : Int), (1, 12)))))
    (fun v1_0 => again (v1_0, ())) v.1) (0, ())) := by kernel_rfl
theorem f117_t (a0 : ByteArray) (hpre : f117_pre a0) (K : Bool → Prop) (hK : ∀ y : Bool, y = f117 a0 → K y) : RunF Tryz.prog f117_E f117_A 6 Tryz.f117 f117_e.doms f117_e.cods a0 K := by
  refine ⟨?_⟩
  rw [f117_run a0 K]
  have hsz : a0.size ≤ 1000 := hpre
  refine LoopP.up a0.size (fun i _ => ∀ j < i.toNat, nameP a0 j) (fun again i v hi0 hn hI hag => ?_) (by omega) (fun j hj => by simp at hj)
  dsimp only
  rw [br_dec]
  refine ⟨fun hi => ?_, fun hi => hK _ ?_⟩
  · obtain ⟨hb0, hb1⟩ := byteAt_le a0 i.toNat
    have good : nameP a0 i.toNat → again (IntKind.i64.wrap (i + 1), ()) := fun h => by
      rw [wr (by omega) (by omega)]
      refine hag () hi fun j hj => ?_
      by_cases hji : j = i.toNat
      · rw [hji]; exact h
      · exact hI j (by omega)
    have bad : ¬ nameP a0 i.toNat → K false := fun h => hK _ (by
      symm
      unfold f117 nameOK
      rw [decide_eq_false_iff_not]
      exact fun hh => h (hh.2 i.toNat (by omega)))
    rw [br_false_]
    refine ⟨by simp; omega, ?_⟩
    show br (f39 (IntKind.i64.wrap (byteAt a0 i.toNat), 97, 122)) _ (br (!(f39 (IntKind.i64.wrap (byteAt a0 i.toNat), 65, 90))) (br (i == 0) _ (br (IntKind.i64.wrap (byteAt a0 i.toNat) != 45) (br (!(f39 (IntKind.i64.wrap (byteAt a0 i.toNat), 48, 57))) _ _) _)) _)
    rw [wr (n := byteAt a0 i.toNat) (by omega) (by omega)]
    unfold nameP at good bad
    simp only [f39, br_both, Bool.and_eq_true, Bool.and_eq_false_iff, Bool.not_eq_true', Bool.not_eq_false', decide_eq_true_eq, decide_eq_false_iff_not, beq_iff_eq, beq_eq_false_iff_ne, bne_iff_ne, bne_eq_false_iff_eq, ne_eq]
    refine ⟨fun h1 => good (by omega), fun h1 => ⟨fun h2 => ⟨fun h3 => bad (by omega), fun h3 => ⟨fun h4 => ⟨fun h5 => bad (by omega), fun h5 => good (by omega)⟩, fun h4 => good (by omega)⟩⟩, fun h2 => good (by omega)⟩⟩
  · unfold f117 nameOK
    have hall : ∀ j < a0.size, nameP a0 j := fun j hj => hI j (by omega)
    by_cases h : 1 ≤ a0.size ∧ a0.size ≤ 12
    · rw [decide_eq_true ⟨h, hall⟩]
      simp [f39]
      omega
    · rw [decide_eq_false fun hh => h hh.1]
      simp [f39]
      omega
theorem f117_fn : f117_e.fn = f117 := rfl
theorem f117_ok : EntryOK Tryz.prog 117 f117_e := by
  refine entryF progOK (EnvOK.cons f39_ok (EnvOK.nil)) (A := f117_A) (d := 6) Tryz.func117 rfl rfl rfl rfl (fun h => by cases h) fun x hpre => ?_
  exact f117_t x hpre _ fun _ h => h.trans (congrFun f117_fn.symm _)
end Go.Proofs.YtglokajinehbmaaGreat
end

section
namespace Go.Proofs.YtglokajinehbmaaGreat
open Go Go.Pi Go.RowKit
set_option maxRecDepth 100000
set_option linter.unusedVariables false
set_option linter.unusedSimpArgs false

def f105 (s : ByteArray) : Bool := nameOK s
def f105_e : Entry := { doms := [(false, .str)], cods := [(false, .bool)], pre := fun _ => True, fn := f105, uq := false, total := true }
def f105_E : Env := [(117, f117_e)]
def f105_A : Anns := { loops := [(1048576, { tms := [(0, .keep), (3, .data false (.int .i64))], obs := [], fz := [] })], own := [] }
theorem f105_run (a0 : ByteArray) (K : Bool → Prop) : runF Tryz.prog f105_E f105_A 6 Tryz.f105 f105_e.doms f105_e.cods a0 K =
    (br (decide ((a0.size : Int) < 1))
    (K false)
    (br (decide ((a0.size : Int) > 12))
    (K false)
    (LoopP (V := Int × Unit) (fun again v => (fun (again1 : Int → Prop) (v1_0 : Int) =>
    br (decide (v1_0 < (a0.size : Int)))
    (br (decide (0 ≤ v1_0) && decide (v1_0 < (a0.size : Int)))
    (br (decide (((a0.data.toList.getD v1_0.toNat 0).toNat : Int) ≥ 97))
    (br (decide (((a0.data.toList.getD v1_0.toNat 0).toNat : Int) ≤ 122))
    (again1 (IntKind.i64.wrap (v1_0 + 1)))
    (br (decide (((a0.data.toList.getD v1_0.toNat 0).toNat : Int) ≥ 65))
    (br (!(decide (((a0.data.toList.getD v1_0.toNat 0).toNat : Int) ≤ 90)))
    (br (v1_0 == 0)
    (K false)
    (br (((a0.data.toList.getD v1_0.toNat 0).toNat : Int) != 45)
    (br (decide (((a0.data.toList.getD v1_0.toNat 0).toNat : Int) < 48))
    (K false)
    (br (decide (((a0.data.toList.getD v1_0.toNat 0).toNat : Int) > 57))
    (K false)
    (again1 (IntKind.i64.wrap (v1_0 + 1)))))
    (again1 (IntKind.i64.wrap (v1_0 + 1)))))
    (again1 (IntKind.i64.wrap (v1_0 + 1))))
    (br (v1_0 == 0)
    (K false)
    (br (((a0.data.toList.getD v1_0.toNat 0).toNat : Int) != 45)
    (br (decide (((a0.data.toList.getD v1_0.toNat 0).toNat : Int) < 48))
    (K false)
    (br (decide (((a0.data.toList.getD v1_0.toNat 0).toNat : Int) > 57))
    (K false)
    (again1 (IntKind.i64.wrap (v1_0 + 1)))))
    (again1 (IntKind.i64.wrap (v1_0 + 1)))))))
    (br (decide (((a0.data.toList.getD v1_0.toNat 0).toNat : Int) ≥ 65))
    (br (!(decide (((a0.data.toList.getD v1_0.toNat 0).toNat : Int) ≤ 90)))
    (br (v1_0 == 0)
    (K false)
    (br (((a0.data.toList.getD v1_0.toNat 0).toNat : Int) != 45)
    (br (decide (((a0.data.toList.getD v1_0.toNat 0).toNat : Int) < 48))
    (K false)
    (br (decide (((a0.data.toList.getD v1_0.toNat 0).toNat : Int) > 57))
    (K false)
    (again1 (IntKind.i64.wrap (v1_0 + 1)))))
    (again1 (IntKind.i64.wrap (v1_0 + 1)))))
    (again1 (IntKind.i64.wrap (v1_0 + 1))))
    (br (v1_0 == 0)
    (K false)
    (br (((a0.data.toList.getD v1_0.toNat 0).toNat : Int) != 45)
    (br (decide (((a0.data.toList.getD v1_0.toNat 0).toNat : Int) < 48))
    (K false)
    (br (decide (((a0.data.toList.getD v1_0.toNat 0).toNat : Int) > 57))
    (K false)
    (again1 (IntKind.i64.wrap (v1_0 + 1)))))
    (again1 (IntKind.i64.wrap (v1_0 + 1)))))))
    False)
    (K true))
    (fun v1_0 => again (v1_0, ())) v.1) (0, ())))) := by kernel_rfl
theorem f105_t (a0 : ByteArray) (K : Bool → Prop) (hK : ∀ y : Bool, y = f105 a0 → K y) : RunF Tryz.prog f105_E f105_A 6 Tryz.f105 f105_e.doms f105_e.cods a0 K := by
  refine ⟨?_⟩
  rw [f105_run a0 K]
  rw [br_dec]
  refine ⟨fun h => hK _ ?_, fun h1 => ?_⟩
  · unfold f105 nameOK
    symm
    rw [decide_eq_false_iff_not]
    intro hh
    omega
  rw [br_dec]
  refine ⟨fun h => hK _ ?_, fun h2 => ?_⟩
  · unfold f105 nameOK
    symm
    rw [decide_eq_false_iff_not]
    intro hh
    omega
  refine LoopP.up a0.size (fun i _ => ∀ j < i.toNat, nameP a0 j) (fun again i v hi0 hn hI hag => ?_) (by omega) (fun j hj => by simp at hj)
  dsimp only
  rw [br_dec]
  refine ⟨fun hi => ?_, fun hi => hK _ ?_⟩
  · obtain ⟨hb0, hb1⟩ := byteAt_le a0 i.toNat
    have good : nameP a0 i.toNat → again (IntKind.i64.wrap (i + 1), ()) := fun h => by
      rw [wr (by omega) (by omega)]
      refine hag () hi fun j hj => ?_
      by_cases hji : j = i.toNat
      · rw [hji]; exact h
      · exact hI j (by omega)
    have bad : ¬ nameP a0 i.toNat → K false := fun h => hK _ (by
      symm
      unfold f105 nameOK
      rw [decide_eq_false_iff_not]
      exact fun hh => h (hh.2 i.toNat (by omega)))
    rw [br_false_]
    refine ⟨by simp; omega, ?_⟩
    unfold nameP at good bad
    have hb : ((a0.data.toList.getD i.toNat 0).toNat : Int) = byteAt a0 i.toNat := rfl
    simp only [hb]
    generalize byteAt a0 i.toNat = c at *
    have tail : ¬ ((97 ≤ c ∧ c ≤ 122) ∨ (65 ≤ c ∧ c ≤ 90)) → br (i == 0) (K false) (br (c != 45) (br (decide (c < 48)) (K false) (br (decide (c > 57)) (K false) (again (IntKind.i64.wrap (i + 1), ())))) (again (IntKind.i64.wrap (i + 1), ()))) := fun hc => by
      simp only [br_both, decide_eq_true_eq, decide_eq_false_iff_not, beq_iff_eq, beq_eq_false_iff_ne, bne_iff_ne, bne_eq_false_iff_eq, ne_eq]
      exact ⟨fun h3 => bad (by omega), fun h3 => ⟨fun h4 => ⟨fun h5 => bad (by omega), fun h5 => ⟨fun h6 => bad (by omega), fun h6 => good (by omega)⟩⟩, fun h4 => good (by omega)⟩⟩
    have mid : ¬ (97 ≤ c ∧ c ≤ 122) → br (decide (c ≥ 65)) (br (!(decide (c ≤ 90))) (br (i == 0) (K false) (br (c != 45) (br (decide (c < 48)) (K false) (br (decide (c > 57)) (K false) (again (IntKind.i64.wrap (i + 1), ())))) (again (IntKind.i64.wrap (i + 1), ())))) (again (IntKind.i64.wrap (i + 1), ()))) (br (i == 0) (K false) (br (c != 45) (br (decide (c < 48)) (K false) (br (decide (c > 57)) (K false) (again (IntKind.i64.wrap (i + 1), ())))) (again (IntKind.i64.wrap (i + 1), ())))) := fun hc => by
      rw [br_dec]
      refine ⟨fun h3 => br_both.2 ⟨fun h4 => tail (by simp at h4; omega), fun h4 => good (by simp at h4; omega)⟩, fun h3 => tail (by omega)⟩
    rw [br_dec]
    refine ⟨fun h3 => br_dec.2 ⟨fun h4 => good (by omega), fun h4 => mid (by omega)⟩, fun h3 => mid (by omega)⟩
  · unfold f105 nameOK
    rw [decide_eq_true]
    exact ⟨by omega, fun j hj => hI j (by omega)⟩
theorem f105_fn : f105_e.fn = f105 := rfl
theorem f105_ok : EntryOK Tryz.prog 105 f105_e := by
  refine entryF progOK (EnvOK.cons f117_ok (EnvOK.nil)) (A := f105_A) (d := 6) Tryz.func105 rfl rfl rfl rfl (fun _ _ => trivial) fun x hpre => ?_
  exact f105_t x _ fun _ h => h.trans (congrFun f105_fn.symm _)
end Go.Proofs.YtglokajinehbmaaGreat
end

section
namespace Go.Proofs.YtglokajinehbmaaGreat
open Go Go.Pi Go.RowKit
set_option maxRecDepth 100000
set_option linter.unusedVariables false
set_option linter.unusedSimpArgs false

abbrev Arr := ByteArray × Int × Int × Int × Int
def arrD : Arr := ((⟨#[]⟩ : ByteArray), (0, (0, (0, 0))))
def arrV (a : Arr) : Prop := (0 ≤ a.2.1 ∧ a.2.1 ≤ 3) ∧ (0 ≤ a.2.2.1 ∧ a.2.2.1 ≤ 100000) ∧ (0 ≤ a.2.2.2.1 ∧ a.2.2.2.1 ≤ 100000) ∧ 0 ≤ a.2.2.2.2 ∧ a.2.2.2.2 ≤ 100
instance (a : Arr) : Decidable (arrV a) := by unfold arrV; infer_instance
def knownA (l : List Arr) (i : Nat) : Bool := (List.range i).any fun k => (l.getD k arrD).1.toList == (l.getD i arrD).1.toList
def arrE (l : List Arr) (i : Nat) : Int := if nameOK (l.getD i arrD).1 = false then 4 else if knownA l i = true then 5 else if ¬ arrV (l.getD i arrD) then 2 else if (l.getD i arrD).2.2.1 > (l.getD i arrD).2.2.2.1 then 9 else 0
def arrOf (l : List Arr) : Int × Int := if l.length > 6 then (0, 8) else eachE l.length (arrE l)
def f86 (l : List (ByteArray × Int × Int × Int × Int)) : Int × Int := arrOf l
def f86_e : Entry := { doms := [(false, (.sl (.pair .str (.pair (.int .i64) (.pair (.int .i64) (.pair (.int .i64) (.int .i64)))))))], cods := [(false, (.int .i64)), (false, (.int .i64))], pre := fun _ => True, fn := f86, uq := false, total := true }
def f86_E : Env := [(25, f25_e), (105, f105_e), (117, f117_e)]
def f86_A : Anns := { loops := [(1048576, { tms := [(0, .keep), (4, .data false (.int .i64))], obs := [], fz := [] }),
  (1048578, { tms := [(0, .keep), (4, .keep), (5, .keep), (6, .data false (.int .i64))], obs := [(1054724, .keep)], fz := [] })], own := [] }
theorem f86_run (a0 : List (ByteArray × Int × Int × Int × Int)) (K : (Int × Int) → Prop) : runF Tryz.prog f86_E f86_A 6 Tryz.f86 f86_e.doms f86_e.cods a0 K =
    (br (lenOk (a0.length))
    (br (decide (((a0.length) : Int) > 6))
    (K (0, 8))
    (LoopP (V := Int × Unit) (fun again v => (fun (again1 : Int → Prop) (v1_0 : Int) =>
    br (lenOk (a0.length))
    (br (decide (v1_0 < ((a0.length) : Int)))
    (br (decide (0 ≤ v1_0) && decide (v1_0 < ((a0.length) : Int)))
    (br (!(f105 ((a0.getD v1_0.toNat ((⟨#[]⟩ : ByteArray), (0, (0, (0, 0))))).1)))
    (K (v1_0, 4))
    (LoopP (V := Int × Unit) (fun again v => (fun (again2 : Int → Prop) (v2_0 : Int) =>
    br (decide (v2_0 < v1_0))
    (br (decide (0 ≤ v2_0) && decide (v2_0 < ((a0.length) : Int)))
    (br (((a0.getD v2_0.toNat ((⟨#[]⟩ : ByteArray), (0, (0, (0, 0))))).1).toList == ((a0.getD v1_0.toNat ((⟨#[]⟩ : ByteArray), (0, (0, (0, 0))))).1).toList)
    (K (v1_0, 5))
    (again2 (IntKind.i64.wrap (v2_0 + 1))))
    False)
    (br (!(f25 (((a0.getD v1_0.toNat ((⟨#[]⟩ : ByteArray), (0, (0, (0, 0))))).2).1, (0, 3))))
    (K (v1_0, 2))
    (br (!(f25 ((((a0.getD v1_0.toNat ((⟨#[]⟩ : ByteArray), (0, (0, (0, 0))))).2).2).1, (0, 100000))))
    (K (v1_0, 2))
    (br (!(f25 (((((a0.getD v1_0.toNat ((⟨#[]⟩ : ByteArray), (0, (0, (0, 0))))).2).2).2).1, (0, 100000))))
    (K (v1_0, 2))
    (br (!(f25 (((((a0.getD v1_0.toNat ((⟨#[]⟩ : ByteArray), (0, (0, (0, 0))))).2).2).2).2, (0, 100))))
    (K (v1_0, 2))
    (br (decide ((((a0.getD v1_0.toNat ((⟨#[]⟩ : ByteArray), (0, (0, (0, 0))))).2).2).1 > ((((a0.getD v1_0.toNat ((⟨#[]⟩ : ByteArray), (0, (0, (0, 0))))).2).2).2).1))
    (K (v1_0, 9))
    (again1 (IntKind.i64.wrap (v1_0 + 1)))))))))
    (fun v2_0 => again (v2_0, ())) v.1) (0, ())))
    False)
    (K (0, 0)))
    True)
    (fun v1_0 => again (v1_0, ())) v.1) (0, ())))
    True) := by kernel_rfl
theorem f86_t (a0 : List (ByteArray × Int × Int × Int × Int)) (K : (Int × Int) → Prop) (hK : ∀ y : Int × Int, y = f86 a0 → K y) : RunF Tryz.prog f86_E f86_A 6 Tryz.f86 f86_e.doms f86_e.cods a0 K := by
  refine ⟨?_⟩
  rw [f86_run a0 K]
  have hd : ((⟨#[]⟩ : ByteArray), ((0 : Int), ((0 : Int), ((0 : Int), (0 : Int))))) = arrD := rfl
  simp only [hd]
  rw [br_true_]
  intro _
  rw [br_dec]
  refine ⟨fun h => hK _ ?_, fun h => ?_⟩
  · rw [f86, arrOf, if_pos (by omega)]
  have h6 : ¬ a0.length > 6 := by omega
  refine each_loop (K := K) (n := a0.length) (e := arrE a0) (hK _ (by rw [f86, arrOf, if_neg h6])) (fun again i hi hI good bad fin => ?_)
  dsimp only
  rw [br_true_]
  intro _
  rw [br_dec]
  refine ⟨fun h1 => ?_, fun h1 => fin (by omega)⟩
  have hlt : i < a0.length := by omega
  have b0 : (decide (0 ≤ (i : Int)) && decide ((i : Int) < (a0.length : Int))) = true := inb (by omega) (by omega)
  rw [b0]
  simp only [Int.toNat_natCast, br_t]
  have out : ∀ n : Int, arrE a0 i = n → n ≠ 0 → K ((i : Int), n) := fun n e hn => by
    have := bad hlt (by rw [e]; exact hn)
    rwa [e] at this
  have e81 : f105 (a0.getD i arrD).1 = nameOK (a0.getD i arrD).1 := rfl
  rw [e81, br_both]
  refine ⟨fun hn => out 4 (by rw [arrE, if_pos (not_true.1 hn)]) (by decide), fun hn => ?_⟩
  have hn := not_false_.1 hn
  have hn' : ¬ nameOK (a0.getD i arrD).1 = false := by rw [hn]; decide
  refine LoopP.up i (fun k _ => ∀ j < k.toNat, ((a0.getD j arrD).1.toList == (a0.getD i arrD).1.toList) = false) (fun again2 k v hk0 hk1 hJ hag2 => ?_) (by omega) (fun j hj => by simp at hj)
  dsimp only
  rw [br_dec]
  refine ⟨fun hk => ?_, fun hk => ?_⟩
  · rw [br_false_]
    refine ⟨inb hk0 (by omega), ?_⟩
    rw [br_both]
    refine ⟨fun he => out 5 ?_ (by decide), fun he => ?_⟩
    · have hk5 : knownA a0 i = true := List.any_eq_true.2 ⟨k.toNat, List.mem_range.2 (by omega), he⟩
      rw [arrE, if_neg hn', if_pos hk5]
    · rw [wr (n := k + 1) (by omega) (by omega)]
      refine hag2 () hk fun j hj => ?_
      by_cases hjk : j = k.toNat
      · rw [hjk]; exact he
      · exact hJ j (by omega)
  · have hk5 : ¬ knownA a0 i = true := fun hh => by
      obtain ⟨j, hj, he⟩ := List.any_eq_true.1 hh
      have hj := List.mem_range.1 hj
      rw [hJ j (by omega)] at he
      cases he
    have two : ¬ arrV (a0.getD i arrD) → K ((i : Int), 2) := fun hv => out 2 (by rw [arrE, if_neg hn', if_neg hk5, if_pos hv]) (by decide)
    rw [br_both]
    refine ⟨fun h => two fun hv => f25_f1.1 (not_true.1 h) hv.1, fun h => ?_⟩
    have v1 := f25_t1.1 (not_false_.1 h)
    rw [br_both]
    refine ⟨fun h => two fun hv => f25_f1.1 (not_true.1 h) hv.2.1, fun h => ?_⟩
    have v2 := f25_t1.1 (not_false_.1 h)
    rw [br_both]
    refine ⟨fun h => two fun hv => f25_f1.1 (not_true.1 h) hv.2.2.1, fun h => ?_⟩
    have v3 := f25_t1.1 (not_false_.1 h)
    rw [br_both]
    refine ⟨fun h => two fun hv => f25_f1.1 (not_true.1 h) hv.2.2.2, fun h => ?_⟩
    have v4 := f25_t1.1 (not_false_.1 h)
    have hv : ¬ ¬ arrV (a0.getD i arrD) := fun hh => hh ⟨v1, v2, v3, v4⟩
    rw [br_dec]
    refine ⟨fun h => out 9 (by rw [arrE, if_neg hn', if_neg hk5, if_neg hv, if_pos h]) (by decide), fun h => ?_⟩
    rw [wr (n := (i : Int) + 1) (by omega) (by omega)]
    exact good hlt (by rw [arrE, if_neg hn', if_neg hk5, if_neg hv, if_neg h])
theorem f86_fn : f86_e.fn = f86 := rfl
theorem f86_ok : EntryOK Tryz.prog 86 f86_e := by
  refine entryF progOK (EnvOK.cons f25_ok (EnvOK.cons f105_ok (EnvOK.cons f117_ok (EnvOK.nil)))) (A := f86_A) (d := 6) Tryz.func86 rfl rfl rfl rfl (fun _ _ => trivial) fun x hpre => ?_
  exact f86_t x _ fun _ h => h.trans (congrFun f86_fn.symm _)
end Go.Proofs.YtglokajinehbmaaGreat
end

section
namespace Go.Proofs.YtglokajinehbmaaGreat
open Go Go.Pi Go.RowKit
set_option maxRecDepth 100000
set_option linter.unusedVariables false
set_option linter.unusedSimpArgs false

def f87 (x : (List (List Int) × List (List Int)) × Int) : Bool := decide (0 ≤ x.2 ∧ x.2 < x.1.1.length)
def f87_e : Entry := { doms := [(true, (.pair (.sl (.sl (.int .i64))) (.sl (.sl (.int .i64))))), (false, (.int .i64))], cods := [(false, .bool)], pre := fun _ => True, fn := f87, uq := false, total := true }
def f87_E : Env := [(25, f25_e)]
def f87_A : Anns := { loops := [], own := [] }
theorem f87_run (a0 : List (List Int) × List (List Int)) (a1 : Int) (K : Bool → Prop) : runF Tryz.prog f87_E f87_A 6 Tryz.f87 f87_e.doms f87_e.cods (a0, a1) K =
    (br (lenOk (a0.1.length))
    (K (f25 (a1, (0, (IntKind.i64.wrap (((a0.1.length) : Int) - 1))))))
    True) := by kernel_rfl
theorem f87_t (a0 : List (List Int) × List (List Int)) (a1 : Int) (K : Bool → Prop) (hK : ∀ y : Bool, y = f87 (a0, a1) → K y) : RunF Tryz.prog f87_E f87_A 6 Tryz.f87 f87_e.doms f87_e.cods (a0, a1) K := by
  refine ⟨?_⟩
  rw [f87_run a0 a1 K]
  rw [br_true_, lenOk_iff]
  intro hl
  rw [wr (n := (a0.1.length : Int) - 1) (by omega) (by omega)]
  refine hK _ ?_
  unfold f87
  by_cases h : 0 ≤ a1 ∧ a1 < a0.1.length
  · rw [decide_eq_true h]
    exact f25_t1.2 ⟨h.1, by omega⟩
  · rw [decide_eq_false h]
    exact f25_f1.2 fun hh => h ⟨hh.1, by omega⟩
theorem f87_fn : f87_e.fn = f87 := rfl
theorem f87_ok : EntryOK Tryz.prog 87 f87_e := by
  refine entryF progOK (EnvOK.cons f25_ok (EnvOK.nil)) (A := f87_A) (d := 6) Tryz.func87 rfl rfl rfl rfl (fun _ _ => trivial) fun x hpre => ?_
  obtain ⟨a0, a1⟩ := x
  exact f87_t a0 a1 _ fun _ h => h.trans (congrFun f87_fn.symm _)
end Go.Proofs.YtglokajinehbmaaGreat
end

section
namespace Go.Proofs.YtglokajinehbmaaGreat
open Go Go.Pi Go.RowKit
set_option maxRecDepth 100000
set_option linter.unusedVariables false
set_option linter.unusedSimpArgs false

abbrev Prob := (List (List Int) × List (List Int)) × List (ByteArray × Int × Int × Int × Int) × List Int
def catE (p : Prob) (i : Nat) : Int := if (p.2.1.getD i arrD).2.1 < p.1.1.length then 0 else 6
def freeE (p : Prob) (j : Nat) : Int := if ¬ (0 ≤ p.2.2.getD j 0 ∧ p.2.2.getD j 0 ≤ (p.2.1.length : Int) - 1) then 6 else if 0 < j ∧ p.2.2.getD j 0 ≤ p.2.2.getD (j - 1) 0 then 9 else 0
def probOf (p : Prob) : Int × Int := if (ruleOf p.1).2 ≠ 0 then ruleOf p.1 else if (arrOf p.2.1).2 ≠ 0 then arrOf p.2.1 else
  if (eachE p.2.1.length (catE p)).2 ≠ 0 then eachE p.2.1.length (catE p) else eachE p.2.2.length (freeE p)
theorem arrOf_zero {l : List Arr} (h : (arrOf l).2 = 0) : l.length ≤ 6 ∧ ∀ i, i < l.length → arrE l i = 0 := by
  unfold arrOf at h
  split at h
  · simp at h
  · exact ⟨by omega, eachE_zero h⟩
theorem arrE_zero {l : List Arr} {i : Nat} (h : arrE l i = 0) : nameOK (l.getD i arrD).1 = true ∧ knownA l i = false ∧ arrV (l.getD i arrD) ∧ (l.getD i arrD).2.2.1 ≤ (l.getD i arrD).2.2.2.1 := by
  unfold arrE at h
  split at h
  · simp at h
  · rename_i h1
    split at h
    · simp at h
    · rename_i h2
      split at h
      · simp at h
      · rename_i h3
        split at h
        · simp at h
        · rename_i h4
          exact ⟨by simpa using h1, by simpa using h2, Classical.byContradiction h3, by omega⟩
def f49 (p : (List (List Int) × List (List Int)) × List (ByteArray × Int × Int × Int × Int) × List Int) : Int × Int := probOf p
def f49_e : Entry := { doms := [(true, (.pair (.pair (.sl (.sl (.int .i64))) (.sl (.sl (.int .i64)))) (.pair (.sl (.pair .str (.pair (.int .i64) (.pair (.int .i64) (.pair (.int .i64) (.int .i64)))))) (.sl (.int .i64)))))], cods := [(false, (.int .i64)), (false, (.int .i64))], pre := fun _ => True, fn := f49, uq := false, total := true }
def f49_E : Env := [(25, f25_e), (85, f85_e), (86, f86_e), (87, f87_e)]
def f49_A : Anns := { loops := [(1048576, { tms := [(1, .keep), (8, .data false (.int .i64))], obs := [(1048576, .keep)], fz := [] }),
  (1048578, { tms := [(1, .keep), (9, .data false (.int .i64))], obs := [(1048576, .keep)], fz := [] })], own := [] }
theorem f49_run (a0 : (List (List Int) × List (List Int)) × List (ByteArray × Int × Int × Int × Int) × List Int) (K : (Int × Int) → Prop) : runF Tryz.prog f49_E f49_A 6 Tryz.f49 f49_e.doms f49_e.cods a0 K =
    (br ((f85 a0.1).2 != 0)
    (K (f85 a0.1))
    (br ((f86 a0.2.1).2 != 0)
    (K (f86 a0.2.1))
    (LoopP (V := Int × Unit) (fun again v => (fun (again1 : Int → Prop) (v1_0 : Int) =>
    br (lenOk (a0.2.1.length))
    (br (decide (v1_0 < ((a0.2.1.length) : Int)))
    (br (decide (0 ≤ v1_0) && decide (v1_0 < ((a0.2.1.length) : Int)))
    (br (!(f87 (a0.1, ((a0.2.1.getD v1_0.toNat ((⟨#[]⟩ : ByteArray), (0, (0, (0, 0))))).2).1)))
    (K (v1_0, 6))
    (again1 (IntKind.i64.wrap (v1_0 + 1))))
    False)
    (LoopP (V := Int × Unit) (fun again v => (fun (again2 : Int → Prop) (v2_0 : Int) =>
    br (lenOk (a0.2.2.length))
    (br (decide (v2_0 < ((a0.2.2.length) : Int)))
    (br (decide (0 ≤ v2_0) && decide (v2_0 < ((a0.2.2.length) : Int)))
    (br (lenOk (a0.2.1.length))
    (br (!(f25 ((a0.2.2.getD v2_0.toNat 0), (0, (IntKind.i64.wrap (((a0.2.1.length) : Int) - 1))))))
    (K (v2_0, 6))
    (br (decide (v2_0 > 0))
    (br (decide (0 ≤ v2_0) && decide (v2_0 < ((a0.2.2.length) : Int)))
    (br (decide (0 ≤ (IntKind.i64.wrap (v2_0 - 1))) && decide ((IntKind.i64.wrap (v2_0 - 1)) < ((a0.2.2.length) : Int)))
    (br (decide ((a0.2.2.getD v2_0.toNat 0) ≤ (a0.2.2.getD ((IntKind.i64.wrap (v2_0 - 1)).toNat) 0)))
    (K (v2_0, 9))
    (again2 (IntKind.i64.wrap (v2_0 + 1))))
    False)
    False)
    (again2 (IntKind.i64.wrap (v2_0 + 1)))))
    True)
    False)
    (K (0, 0)))
    True)
    (fun v2_0 => again (v2_0, ())) v.1) (0, ())))
    True)
    (fun v1_0 => again (v1_0, ())) v.1) (0, ())))) := by kernel_rfl
theorem f49_t (a0 : (List (List Int) × List (List Int)) × List (ByteArray × Int × Int × Int × Int) × List Int) (K : (Int × Int) → Prop) (hK : ∀ y : Int × Int, y = f49 a0 → K y) : RunF Tryz.prog f49_E f49_A 6 Tryz.f49 f49_e.doms f49_e.cods a0 K := by
  refine ⟨?_⟩
  rw [f49_run a0 K]
  have hd : ((⟨#[]⟩ : ByteArray), ((0 : Int), ((0 : Int), ((0 : Int), (0 : Int))))) = arrD := rfl
  have e30 : f85 a0.1 = ruleOf a0.1 := rfl
  have e26 : f86 a0.2.1 = arrOf a0.2.1 := rfl
  simp only [hd, e30, e26]
  rw [br_both]
  refine ⟨fun h => hK _ ?_, fun h => ?_⟩
  · rw [f49, probOf, if_pos (by simpa using h)]
  have n1 : ¬ (ruleOf a0.1).2 ≠ 0 := by simpa using h
  rw [br_both]
  refine ⟨fun h => hK _ ?_, fun h => ?_⟩
  · rw [f49, probOf, if_neg n1, if_pos (by simpa using h)]
  have n2 : ¬ (arrOf a0.2.1).2 ≠ 0 := by simpa using h
  obtain ⟨a6, aV⟩ := arrOf_zero (show (arrOf a0.2.1).2 = 0 by omega)
  refine each_walk (n := a0.2.1.length) (e := catE a0) (fun again i hi hI good => ?_)
  dsimp only
  rw [br_true_, lenOk_iff]
  intro hlen
  rw [br_dec]
  refine ⟨fun h1 => ?_, fun h1 => ?_⟩
  · have hlt : i < a0.2.1.length := by omega
    rw [br_false_]
    refine ⟨inb (by omega) h1, ?_⟩
    simp only [Int.toNat_natCast]
    have hcat := (arrE_zero (aV i hlt)).2.2.1.1
    rw [br_both]
    refine ⟨fun h => hK _ ?_, fun h => ?_⟩
    · have hc : ¬ ((a0.2.1.getD i arrD).2.1 < a0.1.1.length) := fun hh => by
        rw [f87, decide_eq_true ⟨hcat.1, hh⟩] at h
        cases h
      have he : catE a0 i = 6 := by rw [catE, if_neg hc]
      have := eachE_some hlt hI (show catE a0 i ≠ 0 by rw [he]; decide)
      rw [f49, probOf, if_neg n1, if_neg n2, this, he]
      rfl
    · have h := of_decide_eq_true (not_false_.1 h)
      rw [wr (n := (i : Int) + 1) (by omega) (by omega)]
      exact good hlt (by rw [catE, if_pos h.2])
  · have hz := eachE_none (n := a0.2.1.length) fun j hj => hI j (by omega)
    have n3 : ¬ (eachE a0.2.1.length (catE a0)).2 ≠ 0 := by rw [hz]; simp
    refine each_loop (K := K) (n := a0.2.2.length) (e := freeE a0) (hK _ (by rw [f49, probOf, if_neg n1, if_neg n2, if_neg n3])) (fun again2 j hj hJ good bad fin => ?_)
    dsimp only
    rw [br_true_, lenOk_iff]
    intro hlf
    rw [br_dec]
    refine ⟨fun h2 => ?_, fun h2 => fin (by omega)⟩
    have hlt : j < a0.2.2.length := by omega
    rw [br_false_]
    refine ⟨inb (by omega) h2, ?_⟩
    simp only [Int.toNat_natCast]
    rw [br_true_]
    intro _
    rw [wr (n := (a0.2.1.length : Int) - 1) (by omega) (by omega), br_both]
    refine ⟨fun h => ?_, fun h => ?_⟩
    · have he : freeE a0 j = 6 := by rw [freeE, if_pos (f25_f1.1 (not_true.1 h))]
      have := bad hlt (by rw [he]; decide)
      rwa [he] at this
    · have h := f25_t1.1 (not_false_.1 h)
      rw [wr (n := (j : Int) + 1) (by omega) (by omega), br_dec]
      have hnn : ¬ ¬ (0 ≤ a0.2.2.getD j 0 ∧ a0.2.2.getD j 0 ≤ (a0.2.1.length : Int) - 1) := fun hh => hh h
      refine ⟨fun h3 => ?_, fun h3 => good hlt (by rw [freeE, if_neg hnn, if_neg (by omega)])⟩
      rw [br_false_]
      refine ⟨inb (by omega) h2, ?_⟩
      rw [wr (n := (j : Int) - 1) (by omega) (by omega), br_false_]
      refine ⟨inb (by omega) (by omega), ?_⟩
      rw [show ((j : Int) - 1).toNat = j - 1 by omega, br_dec]
      refine ⟨fun h4 => ?_, fun h4 => good hlt (by rw [freeE, if_neg hnn, if_neg (by omega)])⟩
      have he : freeE a0 j = 9 := by rw [freeE, if_neg hnn, if_pos ⟨by omega, h4⟩]
      have := bad hlt (by rw [he]; decide)
      rwa [he] at this
theorem f49_fn : f49_e.fn = f49 := rfl
theorem f49_ok : EntryOK Tryz.prog 49 f49_e := by
  refine entryF progOK (EnvOK.cons f25_ok (EnvOK.cons f85_ok (EnvOK.cons f86_ok (EnvOK.cons f87_ok (EnvOK.nil))))) (A := f49_A) (d := 6) Tryz.func49 rfl rfl rfl rfl (fun _ _ => trivial) fun x hpre => ?_
  exact f49_t x _ fun _ h => h.trans (congrFun f49_fn.symm _)
end Go.Proofs.YtglokajinehbmaaGreat
end
