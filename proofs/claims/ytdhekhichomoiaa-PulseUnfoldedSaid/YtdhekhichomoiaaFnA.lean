/- What functions of the program compute, each proved once, part 1. -/
import Derived.Test.YtdhekhichomoiaaPiC
import Derived.Test.YtdhekhichomoiaaProg

section
namespace Go.Proofs.Ytdhekhichomoiaa
set_option linter.unusedVariables false
set_option linter.unusedSimpArgs false
open Go Go.Pi
set_option maxRecDepth 100000
theorem progOK : ProgOK Try.prog := ⟨by kernel_rfl, by kernel_rfl⟩
end Go.Proofs.Ytdhekhichomoiaa
end

section
namespace Go.Proofs.Ytdhekhichomoiaa
open Go Go.Pi Go.RowKit
set_option maxRecDepth 100000
set_option linter.unusedVariables false
set_option linter.unusedSimpArgs false

def f96 (l : List Int) : List Int := l
def f96_pre (l : List Int) : Prop := 0 < l.length ∧ l.length ≤ 1073741824
def f96_e : Entry := { doms := [(false, (.sl (.int .i64)))], cods := [(false, (.sl (.int .i64)))], pre := f96_pre, fn := f96, uq := true, total := false }
def f96_E : Env := []
def f96_A : Anns := { loops := [], own := [1051648] }
theorem f96_run (a0 : List Int) (K : (List Int) → Prop) : runU Try.prog f96_E f96_A 6 Try.f96 f96_e.doms f96_e.cods a0 K =
    (br (decide (0 < (a0.length)))
    (br (roomOk (0 + (a0.length)) 8)
    (K (([] : List Int) ++ a0))
    False)
    False) := by kernel_rfl
theorem f96_t (a0 : List Int) (hpre : f96_pre a0) (K : (List Int) → Prop) (hK : ∀ y : List Int, y = f96 a0 → K y) : RunU Try.prog f96_E f96_A 6 Try.f96 f96_e.doms f96_e.cods a0 K := by
  refine ⟨?_⟩
  rw [f96_run a0 K]
  simp only [br_false_, decide_eq_true_eq, roomOk_iff]
  exact ⟨hpre.1, by have := hpre.2; omega, hK _ (by simp [f96])⟩
theorem f96_fn : f96_e.fn = f96 := rfl
theorem f96_ok : EntryOK Try.prog 96 f96_e := by
  refine entryFU progOK (EnvOK.nil) (A := f96_A) (d := 6) Try.func96 rfl rfl (fun h => by cases h) fun x hpre => ?_
  exact f96_t x hpre _ fun _ h => h.trans (congrFun f96_fn.symm _)
end Go.Proofs.Ytdhekhichomoiaa
end

section
namespace Go.Proofs.Ytdhekhichomoiaa
open Go Go.Pi Go.RowKit
set_option maxRecDepth 100000
set_option linter.unusedVariables false
set_option linter.unusedSimpArgs false

def f148 (n : Int) : Int := minmax true n (IntKind.i64.wrap (0 - n))
def f148_e : Entry := { doms := [(false, (.int .i64))], cods := [(false, (.int .i64))], pre := fun _ => True, fn := f148, uq := false, total := true }
def f148_E : Env := []
def f148_A : Anns := { loops := [], own := [] }
theorem f148_run (a0 : Int) (K : Int → Prop) : runF Try.prog f148_E f148_A 6 Try.f148 f148_e.doms f148_e.cods a0 K =
    (K (minmax true a0 (IntKind.i64.wrap (0 - a0)))) := by kernel_rfl
theorem f148_t (a0 : Int) (K : Int → Prop) (hK : ∀ y : Int, y = f148 a0 → K y) : RunF Try.prog f148_E f148_A 6 Try.f148 f148_e.doms f148_e.cods a0 K := by
  refine ⟨?_⟩
  rw [f148_run a0 K]
  exact hK _ (by simp only [f148])
theorem f148_fn : f148_e.fn = f148 := rfl
theorem f148_ok : EntryOK Try.prog 148 f148_e := by
  refine entryF progOK (EnvOK.nil) (A := f148_A) (d := 6) Try.func148 rfl rfl rfl (fun _ _ => trivial) fun x hpre => ?_
  exact f148_t x _ fun _ h => h.trans (congrFun f148_fn.symm _)
end Go.Proofs.Ytdhekhichomoiaa
end

section
namespace Go.Proofs.Ytdhekhichomoiaa
open Go Go.Pi Go.RowKit
set_option maxRecDepth 100000
set_option linter.unusedVariables false
set_option linter.unusedSimpArgs false

def stopRow (r : List Int) : Bool := r.length == 1 || decide (f148 (r.getD (r.length - 1) 0) ≤ f148 (r.getD 0 0))
def nextAt (r : List Int) (k : Nat) : Int :=
  IntKind.i64.wrap (IntKind.i64.wrap (r.getD (r.length - 1) 0 * r.getD (k + 1) 0) - IntKind.i64.wrap (r.getD 0 0 * r.getD (r.length - 2 - k) 0))
def nextRow (r : List Int) : List Int := (List.range (r.length - 1)).map (nextAt r)
def lastRow : Nat → List Int → List Int
  | 0, r => r
  | k + 1, r => if stopRow r then r else lastRow k (nextRow r)
theorem lastRow_stop {k : Nat} {row : List Int} (hk : 0 < k) (h : stopRow row = true) : lastRow k row = row := by
  cases k with
  | zero => omega
  | succ k => simp [lastRow, h]
theorem lastRow_next {k : Nat} {row : List Int} (hk : 0 < k) (h : stopRow row = false) : lastRow k row = lastRow (k - 1) (nextRow row) := by
  cases k with
  | zero => omega
  | succ k => simp [lastRow, h]
theorem nextRow_length {row : List Int} : (nextRow row).length = row.length - 1 := by simp [nextRow]
theorem stop_one {row : List Int} (h : stopRow row = false) : row.length ≠ 1 := fun e => by simp [stopRow, e] at h
/-- What follows a row: the end, or the next one. -/
def rowStep (a3 : List Int) (S : Prop) (N : List Int → Prop) : Prop :=
  (br (lenOk (a3.length))
  (br ((IntKind.i64.wrap (((a3.length) : Int) - 1)) == 0)
  S
  (br (decide (0 ≤ (IntKind.i64.wrap (((a3.length) : Int) - 1))) && decide ((IntKind.i64.wrap (((a3.length) : Int) - 1)) < ((a3.length) : Int)))
  (br (decide (0 ≤ 0) && decide (0 < ((a3.length) : Int)))
  (br (decide ((f148 (a3.getD ((IntKind.i64.wrap (((a3.length) : Int) - 1)).toNat) 0)) ≤ (f148 (a3.getD 0 0))))
  S
  (br (decide (0 ≤ (IntKind.i64.wrap (((a3.length) : Int) - 1))) && decide ((IntKind.i64.wrap (((a3.length) : Int) - 1)) = (IntKind.i64.wrap (((a3.length) : Int) - 1))) && roomOk ((IntKind.i64.wrap (((a3.length) : Int) - 1)).toNat) 8)
  (br (lenOk ((List.replicate ((IntKind.i64.wrap (((a3.length) : Int) - 1)).toNat) (0 : Int)).length))
  (LoopP (V := Int × List Int × Unit) (fun again v => (fun (again1 : Int → List Int → Prop) (v1_0 : Int) (v1_1 : List Int) =>
  br (decide (v1_0 < (((List.replicate ((IntKind.i64.wrap (((a3.length) : Int) - 1)).toNat) (0 : Int)).length) : Int)))
  (br (decide (0 ≤ (IntKind.i64.wrap (((a3.length) : Int) - 1))) && decide ((IntKind.i64.wrap (((a3.length) : Int) - 1)) < ((a3.length) : Int)))
  (br (decide (0 ≤ (IntKind.i64.wrap (v1_0 + 1))) && decide ((IntKind.i64.wrap (v1_0 + 1)) < ((a3.length) : Int)))
  (br (decide (0 ≤ 0) && decide (0 < ((a3.length) : Int)))
  (br (decide (0 ≤ (IntKind.i64.wrap ((IntKind.i64.wrap ((IntKind.i64.wrap (((a3.length) : Int) - 1)) - 1)) - v1_0))) && decide ((IntKind.i64.wrap ((IntKind.i64.wrap ((IntKind.i64.wrap (((a3.length) : Int) - 1)) - 1)) - v1_0)) < ((a3.length) : Int)))
  (br (decide (0 ≤ v1_0) && decide (v1_0 < ((v1_1.length) : Int)))
  (again1 (IntKind.i64.wrap (v1_0 + 1)) (v1_1.set v1_0.toNat (IntKind.i64.wrap ((IntKind.i64.wrap ((a3.getD ((IntKind.i64.wrap (((a3.length) : Int) - 1)).toNat) 0) * (a3.getD ((IntKind.i64.wrap (v1_0 + 1)).toNat) 0))) - (IntKind.i64.wrap ((a3.getD 0 0) * (a3.getD ((IntKind.i64.wrap ((IntKind.i64.wrap ((IntKind.i64.wrap (((a3.length) : Int) - 1)) - 1)) - v1_0)).toNat) 0)))))))
  False)
  False)
  False)
  False)
  False)
  (N v1_1))
  (fun v1_0 v1_1 => again (v1_0, v1_1, ())) v.1 v.2.1) (0, (List.replicate ((IntKind.i64.wrap (((a3.length) : Int) - 1)).toNat) (0 : Int)), ()))
  True)
  False))
  False)
  False))
  True)
theorem rowStep_intro (a3 : List Int) {S : Prop} {N : List Int → Prop} (h0 : 0 < a3.length) (hb : a3.length ≤ 1048576) (hs : stopRow a3 = true → S) (hn : stopRow a3 = false → N (nextRow a3)) : rowStep a3 S N := by
  unfold rowStep
  have hw : IntKind.i64.wrap ((a3.length : Int) - 1) = ((a3.length - 1 : Nat) : Int) := by rw [wr (by omega) (by omega)]; omega
  simp only [hw, Int.toNat_natCast, List.length_replicate]
  rw [br_true_]
  intro _
  rw [br_both]
  refine ⟨fun h1 => hs ?_, fun h1 => ?_⟩
  · simp only [beq_iff_eq] at h1
    simp [stopRow, show a3.length = 1 by omega]
  have h2 : a3.length ≠ 1 := fun e => by simp [e] at h1
  rw [br_false_]
  refine ⟨by simp; omega, ?_⟩
  rw [br_false_]
  refine ⟨by simp; omega, ?_⟩
  rw [br_both]
  refine ⟨fun h3 => hs (by simp only [stopRow, h3, Bool.or_true]), fun h3 => ?_⟩
  have hstop : stopRow a3 = false := by simp only [stopRow, h3, Bool.or_false, beq_eq_false_iff_ne]; exact h2
  rw [br_false_]
  refine ⟨by simp [roomOk]; omega, ?_⟩
  rw [br_true_]
  intro _
  refine LoopP.up (a3.length - 1 : Nat) (fun i v => v.1 = fillTo (a3.length - 1) (nextAt a3) 0 i.toNat) (fun again i v hi0 hin hI hag => ?_) (by omega) fillTo_zero.symm
  obtain ⟨v, u⟩ := v
  simp only at hI hag ⊢
  subst hI
  rw [br_both]
  refine ⟨fun hi => ?_, fun hi => ?_⟩
  · simp only [decide_eq_true_eq] at hi
    have e1 : IntKind.i64.wrap (i + 1) = i + 1 := wr (by omega) (by omega)
    have e2 : IntKind.i64.wrap (((a3.length - 1 : Nat) : Int) - 1) = ((a3.length - 1 : Nat) : Int) - 1 := wr (by omega) (by omega)
    have e3 : IntKind.i64.wrap (((a3.length - 1 : Nat) : Int) - 1 - i) = ((a3.length - 1 : Nat) : Int) - 1 - i := wr (by omega) (by omega)
    rw [e1, e2, e3, fillTo_length]
    simp only [br_false_]
    refine ⟨by simp; omega, by simp; omega, by simp; omega, by simp; omega, by simp; omega, ?_⟩
    refine hag _ hi ?_
    show _ = fillTo (a3.length - 1) (nextAt a3) 0 (i + 1).toNat
    rw [show (i + 1).toNat = i.toNat + 1 by omega, ← fillTo_step (by omega)]
    congr 1
    unfold nextAt
    rw [show (((a3.length - 1 : Nat) : Int) - 1 - i).toNat = a3.length - 2 - i.toNat by omega]
  · have hi : ¬ i < ((a3.length - 1 : Nat) : Int) := by simpa using hi
    rw [show i.toNat = a3.length - 1 by omega, fillTo_all]
    exact hn hstop
def f92 (l : List Int) : Bool := (lastRow l.length l).length == 1 && (lastRow l.length l).getD 0 0 != 0
def f92_pre (l : List Int) : Prop := 0 < l.length ∧ l.length ≤ 1048576
def f92_e : Entry := { doms := [(false, (.sl (.int .i64)))], cods := [(false, .bool)], pre := f92_pre, fn := f92, uq := false, total := false }
def f92_E : Env := [(96, f96_e), (148, f148_e)]
def f92_A : Anns := { loops := [(1924149542912, { tms := [(0, .keep), (3, .data false (.sl (.int .i64)))], obs := [(1049600, .cells [.data (.sl (.int .i64))]), (1101660160000, .keep)], fz := [] }),
  (1924149542914, { tms := [(0, .keep), (3, .keep), (4, .keep), (5, .ref 1924149547009), (32, .keep), (33, .data false (.int .i64))], obs := [(1049600, .keep), (1101660160000, .keep), (1924149547009, .arr (.uniq) (.int .i64))], fz := [] })], own := [] }
theorem f92_run (a0 : List Int) (K : Bool → Prop) : runF Try.prog f92_E f92_A 6 Try.f92 f92_e.doms f92_e.cods a0 K =
    (f96_pre a0 ∧
    LoopP (V := List Int × List Int × Unit) (fun again v => (fun (again1 : List Int → List Int → Prop) (v1_0 : List Int) (v1_1 : List Int) =>
    br (lenOk (v1_0.length))
    (br ((IntKind.i64.wrap (((v1_0.length) : Int) - 1)) == 0)
    (br (lenOk (v1_0.length))
    (br (((v1_0.length) : Int) == 1)
    (br (decide (0 ≤ 0) && decide (0 < ((v1_0.length) : Int)))
    (K ((v1_0.getD 0 0) != 0))
    False)
    (K false))
    True)
    (br (decide (0 ≤ (IntKind.i64.wrap (((v1_0.length) : Int) - 1))) && decide ((IntKind.i64.wrap (((v1_0.length) : Int) - 1)) < ((v1_0.length) : Int)))
    (br (decide (0 ≤ 0) && decide (0 < ((v1_0.length) : Int)))
    (br (decide ((f148 (v1_0.getD ((IntKind.i64.wrap (((v1_0.length) : Int) - 1)).toNat) 0)) ≤ (f148 (v1_0.getD 0 0))))
    (br (lenOk (v1_0.length))
    (br (((v1_0.length) : Int) == 1)
    (br (decide (0 ≤ 0) && decide (0 < ((v1_0.length) : Int)))
    (K ((v1_0.getD 0 0) != 0))
    False)
    (K false))
    True)
    (br (decide (0 ≤ (IntKind.i64.wrap (((v1_0.length) : Int) - 1))) && decide ((IntKind.i64.wrap (((v1_0.length) : Int) - 1)) = (IntKind.i64.wrap (((v1_0.length) : Int) - 1))) && roomOk ((IntKind.i64.wrap (((v1_0.length) : Int) - 1)).toNat) 8)
    (br (lenOk ((List.replicate ((IntKind.i64.wrap (((v1_0.length) : Int) - 1)).toNat) (0 : Int)).length))
    (LoopP (V := Int × List Int × Unit) (fun again v => (fun (again2 : Int → List Int → Prop) (v2_0 : Int) (v2_1 : List Int) =>
    br (decide (v2_0 < (((List.replicate ((IntKind.i64.wrap (((v1_0.length) : Int) - 1)).toNat) (0 : Int)).length) : Int)))
    (br (decide (0 ≤ (IntKind.i64.wrap (((v1_0.length) : Int) - 1))) && decide ((IntKind.i64.wrap (((v1_0.length) : Int) - 1)) < ((v1_0.length) : Int)))
    (br (decide (0 ≤ (IntKind.i64.wrap (v2_0 + 1))) && decide ((IntKind.i64.wrap (v2_0 + 1)) < ((v1_0.length) : Int)))
    (br (decide (0 ≤ 0) && decide (0 < ((v1_0.length) : Int)))
    (br (decide (0 ≤ (IntKind.i64.wrap ((IntKind.i64.wrap ((IntKind.i64.wrap (((v1_0.length) : Int) - 1)) - 1)) - v2_0))) && decide ((IntKind.i64.wrap ((IntKind.i64.wrap ((IntKind.i64.wrap (((v1_0.length) : Int) - 1)) - 1)) - v2_0)) < ((v1_0.length) : Int)))
    (br (decide (0 ≤ v2_0) && decide (v2_0 < ((v2_1.length) : Int)))
    (again2 (IntKind.i64.wrap (v2_0 + 1)) (v2_1.set v2_0.toNat (IntKind.i64.wrap ((IntKind.i64.wrap ((v1_0.getD ((IntKind.i64.wrap (((v1_0.length) : Int) - 1)).toNat) 0) * (v1_0.getD ((IntKind.i64.wrap (v2_0 + 1)).toNat) 0))) - (IntKind.i64.wrap ((v1_0.getD 0 0) * (v1_0.getD ((IntKind.i64.wrap ((IntKind.i64.wrap ((IntKind.i64.wrap (((v1_0.length) : Int) - 1)) - 1)) - v2_0)).toNat) 0)))))))
    False)
    False)
    False)
    False)
    False)
    (again1 v2_1 v1_0))
    (fun v2_0 v2_1 => again (v2_0, v2_1, ())) v.1 v.2.1) (0, (List.replicate ((IntKind.i64.wrap (((v1_0.length) : Int) - 1)).toNat) (0 : Int)), ()))
    True)
    False))
    False)
    False))
    True)
    (fun v1_0 v1_1 => again (v1_0, v1_1, ())) v.1 v.2.1) ((f96 a0), ([] : List Int), ())) := by kernel_rfl
theorem f92_t (a0 : List Int) (hpre : f92_pre a0) (K : Bool → Prop) (hK : ∀ y : Bool, y = f92 a0 → K y) : RunF Try.prog f92_E f92_A 6 Try.f92 f92_e.doms f92_e.cods a0 K := by
  refine ⟨?_⟩
  rw [f92_run a0 K]
  obtain ⟨h0, hb⟩ := hpre
  refine ⟨⟨h0, by omega⟩, ?_⟩
  refine LoopP.of (fun v => 0 < v.1.length ∧ v.1.length ≤ 1048576 ∧ lastRow a0.length a0 = lastRow v.1.length v.1) (fun v => v.1.length) (fun again v hv hag => ?_) ⟨h0, hb, rfl⟩
  obtain ⟨row, old, u⟩ := v
  obtain ⟨h1, h2, h3⟩ := hv
  simp only at h1 h2 h3 hag
  have stop : stopRow row = true → (br (lenOk (row.length)) (br (((row.length) : Int) == 1) (br (decide (0 ≤ (0 : Int)) && decide ((0 : Int) < ((row.length) : Int))) (K ((row.getD 0 0) != 0)) False) (K false)) True) := fun hs => by
    have e : f92 a0 = (row.length == 1 && row.getD 0 0 != 0) := by unfold f92; rw [h3, lastRow_stop h1 hs]
    rw [br_true_]
    intro _
    rw [br_both]
    refine ⟨fun hl => ?_, fun hl => hK _ ?_⟩
    · simp only [beq_iff_eq] at hl
      rw [br_false_]
      refine ⟨by simp; omega, hK _ ?_⟩
      rw [e, show row.length = 1 by omega]
      simp
    · rw [e]
      have : (row.length == 1) = false := by
        simp only [beq_eq_false_iff_ne, ne_eq] at hl ⊢
        omega
      rw [this, Bool.false_and]
  exact rowStep_intro (N := fun r => again (r, row, ())) row h1 h2 stop fun hs => hag (nextRow row, row, ()) ⟨by simp only [nextRow_length]; have := stop_one hs; omega, by simp only [nextRow_length]; omega, by simp only [nextRow_length]; rw [h3, lastRow_next h1 hs]⟩ (by simp only [nextRow_length]; omega)
theorem f92_fn : f92_e.fn = f92 := rfl
theorem f92_ok : EntryOK Try.prog 92 f92_e := by
  refine entryF progOK (EnvOK.cons f96_ok (EnvOK.cons f148_ok (EnvOK.nil))) (A := f92_A) (d := 6) Try.func92 rfl rfl rfl (fun h => by cases h) fun x hpre => ?_
  exact f92_t x hpre _ fun _ h => h.trans (congrFun f92_fn.symm _)
end Go.Proofs.Ytdhekhichomoiaa
end

section
namespace Go.Proofs.Ytdhekhichomoiaa
open Go Go.Pi Go.RowKit
set_option maxRecDepth 100000
set_option linter.unusedVariables false
set_option linter.unusedSimpArgs false

def f93 (l : List Int) : Int := match l.find? (· != 0) with
  | some n => n
  | none => 0
def f93_e : Entry := { doms := [(false, (.sl (.int .i64)))], cods := [(false, (.int .i64))], pre := fun _ => True, fn := f93, uq := false, total := true }
def f93_E : Env := []
def f93_A : Anns := { loops := [(1048576, { tms := [(5, .keep), (6, .keep), (7, .data false (.int .i64))], obs := [], fz := [] })], own := [] }
theorem f93_run (a0 : List Int) (K : Int → Prop) : runF Try.prog f93_E f93_A 6 Try.f93 f93_e.doms f93_e.cods a0 K =
    (br (lenOk (a0.length))
    (LoopP (V := Int × Unit) (fun again v => (fun (again1 : Int → Prop) (v1_0 : Int) =>
    br (decide (v1_0 < ((a0.length) : Int)))
    (br (decide (0 ≤ v1_0) && decide (v1_0 < ((a0.length) : Int)))
    (br ((a0.getD v1_0.toNat 0) != 0)
    (K (a0.getD v1_0.toNat 0))
    (again1 (IntKind.i64.wrap (v1_0 + 1))))
    False)
    (K 0))
    (fun v1_0 => again (v1_0, ())) v.1) (0, ()))
    True) := by kernel_rfl
theorem f93_t (a0 : List Int) (K : Int → Prop) (hK : ∀ y : Int, y = f93 a0 → K y) : RunF Try.prog f93_E f93_A 6 Try.f93 f93_e.doms f93_e.cods a0 K := by
  refine ⟨?_⟩
  rw [f93_run a0 K]
  rw [br_true_, lenOk_iff]
  intro hl
  refine LoopP.up a0.length (fun i _ => ∀ x ∈ a0.take i.toNat, (x != 0) = false) (fun again i v h0 hn hI hag => ?_) (by omega) all_zero
  simp only [br_both, decide_eq_true_eq, decide_eq_false_iff_not, Bool.and_eq_true]
  refine ⟨fun hi => ⟨fun _ => ⟨fun hne => ?_, fun he => ?_⟩, fun hf => ?_⟩, fun hi => ?_⟩
  · exact hK _ (by rw [f93, find_at h0 hi hI hne])
  · rw [wr (by omega) (by omega)]
    exact hag () hi (all_step h0 hi hI he)
  · simp at hf; omega
  · exact hK _ (by rw [f93, find_none (all_done hi hI)])
theorem f93_fn : f93_e.fn = f93 := rfl
theorem f93_ok : EntryOK Try.prog 93 f93_e := by
  refine entryF progOK (EnvOK.nil) (A := f93_A) (d := 6) Try.func93 rfl rfl rfl (fun _ _ => trivial) fun x hpre => ?_
  exact f93_t x _ fun _ h => h.trans (congrFun f93_fn.symm _)
theorem f93_nil : f93 [] = 0 := rfl
theorem f93_cons (a : Int) (l : List Int) : f93 (a :: l) = if a = 0 then f93 l else a := by
  by_cases h : a = 0 <;> simp [f93, h]
end Go.Proofs.Ytdhekhichomoiaa
end

section
namespace Go.Proofs.Ytdhekhichomoiaa
open Go Go.Pi Go.RowKit
set_option maxRecDepth 100000
set_option linter.unusedVariables false
set_option linter.unusedSimpArgs false

def f94 (x : Bool × Int) : Int := if x.1 then 0 else x.2
def f94_e : Entry := { doms := [(false, .bool), (false, (.int .i64))], cods := [(false, (.int .i64))], pre := fun _ => True, fn := f94, uq := false, total := true }
def f94_E : Env := []
def f94_A : Anns := { loops := [], own := [] }
theorem f94_run (a0 : Bool) (a1 : Int) (K : Int → Prop) : runF Try.prog f94_E f94_A 6 Try.f94 f94_e.doms f94_e.cods (a0, a1) K =
    (br a0
    (K 0)
    (K a1)) := by kernel_rfl
theorem f94_t (a0 : Bool) (a1 : Int) (K : Int → Prop) (hK : ∀ y : Int, y = f94 (a0, a1) → K y) : RunF Try.prog f94_E f94_A 6 Try.f94 f94_e.doms f94_e.cods (a0, a1) K := by
  refine ⟨?_⟩
  rw [f94_run a0 a1 K]
  cases a0 <;> exact hK _ rfl
theorem f94_fn : f94_e.fn = f94 := rfl
theorem f94_ok : EntryOK Try.prog 94 f94_e := by
  refine entryF progOK (EnvOK.nil) (A := f94_A) (d := 6) Try.func94 rfl rfl rfl (fun _ _ => trivial) fun x hpre => ?_
  obtain ⟨a0, a1⟩ := x
  exact f94_t a0 a1 _ fun _ h => h.trans (congrFun f94_fn.symm _)
end Go.Proofs.Ytdhekhichomoiaa
end

section
namespace Go.Proofs.Ytdhekhichomoiaa
open Go Go.Pi Go.RowKit
set_option maxRecDepth 100000
set_option linter.unusedVariables false
set_option linter.unusedSimpArgs false

def f95 (x : Int × Int × Int) : Bool := decide (x.2.1 ≤ x.1) && decide (x.1 ≤ x.2.2)
def f95_e : Entry := { doms := [(false, (.int .i64)), (false, (.int .i64)), (false, (.int .i64))], cods := [(false, .bool)], pre := fun _ => True, fn := f95, uq := false, total := true }
def f95_E : Env := []
def f95_A : Anns := { loops := [], own := [] }
theorem f95_run (a0 : Int) (a1 : Int) (a2 : Int) (K : Bool → Prop) : runF Try.prog f95_E f95_A 6 Try.f95 f95_e.doms f95_e.cods (a0, a1, a2) K =
    (br (decide (a1 ≤ a0))
    (K (decide (a0 ≤ a2)))
    (K false)) := by kernel_rfl
theorem f95_t (a0 : Int) (a1 : Int) (a2 : Int) (K : Bool → Prop) (hK : ∀ y : Bool, y = f95 (a0, a1, a2) → K y) : RunF Try.prog f95_E f95_A 6 Try.f95 f95_e.doms f95_e.cods (a0, a1, a2) K := by
  refine ⟨?_⟩
  rw [f95_run a0 a1 a2 K]
  rw [br_dec]
  exact ⟨fun h => hK _ (by simp [f95, h]), fun h => hK _ (by simp [f95, h])⟩
theorem f95_fn : f95_e.fn = f95 := rfl
theorem f95_ok : EntryOK Try.prog 95 f95_e := by
  refine entryF progOK (EnvOK.nil) (A := f95_A) (d := 6) Try.func95 rfl rfl rfl (fun _ _ => trivial) fun x hpre => ?_
  obtain ⟨a0, a1, a2⟩ := x
  exact f95_t a0 a1 a2 _ fun _ h => h.trans (congrFun f95_fn.symm _)
end Go.Proofs.Ytdhekhichomoiaa
end

section
namespace Go.Proofs.Ytdhekhichomoiaa
open Go Go.Pi Go.RowKit
set_option maxRecDepth 100000
set_option linter.unusedVariables false
set_option linter.unusedSimpArgs false

def szd (n most : Int) : Bool := decide (-most ≤ n) && decide (n ≤ most)
def f103 (x : Int × Int) : Bool := szd x.1 1000 && szd x.2 1000
def f103_e : Entry := { doms := [(true, (.pair (.int .i64) (.int .i64)))], cods := [(false, .bool)], pre := fun _ => True, fn := f103, uq := false, total := true }
def f103_E : Env := [(95, f95_e)]
def f103_A : Anns := { loops := [], own := [] }
theorem f103_run (a0 : Int × Int) (K : Bool → Prop) : runF Try.prog f103_E f103_A 6 Try.f103 f103_e.doms f103_e.cods a0 K =
    (br (f95 (a0.1, ((-1000), 1000)))
    (K (f95 (a0.2, ((-1000), 1000))))
    (K false)) := by kernel_rfl
theorem f103_t (a0 : Int × Int) (K : Bool → Prop) (hK : ∀ y : Bool, y = f103 a0 → K y) : RunF Try.prog f103_E f103_A 6 Try.f103 f103_e.doms f103_e.cods a0 K := by
  refine ⟨?_⟩
  rw [f103_run a0 K]
  rw [br_both]
  exact ⟨fun h => hK _ (by simp [f103, szd, f95] at h ⊢; simp [h]), fun h => hK _ (by simp [f103, szd, f95] at h ⊢; omega)⟩
theorem f103_fn : f103_e.fn = f103 := rfl
theorem f103_ok : EntryOK Try.prog 103 f103_e := by
  refine entryF progOK (EnvOK.cons f95_ok (EnvOK.nil)) (A := f103_A) (d := 6) Try.func103 rfl rfl rfl (fun _ _ => trivial) fun x hpre => ?_
  exact f103_t x _ fun _ h => h.trans (congrFun f103_fn.symm _)
end Go.Proofs.Ytdhekhichomoiaa
end

section
namespace Go.Proofs.Ytdhekhichomoiaa
open Go Go.Pi Go.RowKit
set_option maxRecDepth 100000
set_option linter.unusedVariables false
set_option linter.unusedSimpArgs false

def f33 (l : List (Int × Int)) : Int × Int := if l.length = 0 then (0, 10) else if 48 < l.length then (0, 8) else match l.findIdx? (fun g => !f103 g) with
  | some i => ((i : Int), 2)
  | none => (0, 0)
def f33_e : Entry := { doms := [(false, (.sl (.pair (.int .i64) (.int .i64))))], cods := [(false, (.int .i64)), (false, (.int .i64))], pre := fun _ => True, fn := f33, uq := false, total := true }
def f33_E : Env := [(93, f93_e), (94, f94_e), (103, f103_e)]
def f33_A : Anns := { loops := [(1157426204821684224, { tms := [(0, .keep), (1, .keep), (7, .keep), (8, .data false (.int .i64))], obs := [(1103807643648, .keep)], fz := [] })], own := [] }
theorem f33_run (a0 : List (Int × Int)) (K : (Int × Int) → Prop) : runF Try.prog f33_E f33_A 6 Try.f33 f33_e.doms f33_e.cods a0 K =
    (br (lenOk (a0.length))
    (br (lenOk (a0.length))
    (br ((f93 ([(f94 ((decide (((a0.length) : Int) > 0)), 10)), (f94 ((decide (((a0.length) : Int) ≤ 48)), 8))] : List Int)) != 0)
    (K (0, (f93 ([(f94 ((decide (((a0.length) : Int) > 0)), 10)), (f94 ((decide (((a0.length) : Int) ≤ 48)), 8))] : List Int))))
    (br (lenOk (a0.length))
    (LoopP (V := Int × Unit) (fun again v => (fun (again1 : Int → Prop) (v1_0 : Int) =>
    br (decide (v1_0 < ((a0.length) : Int)))
    (br (decide (0 ≤ v1_0) && decide (v1_0 < ((a0.length) : Int)))
    (br (!(f103 (a0.getD v1_0.toNat (0, 0))))
    (br (decide (v1_0 ≥ 0))
    (K (v1_0, 2))
    (K (0, 0)))
    (again1 (IntKind.i64.wrap (v1_0 + 1))))
    False)
    (K (0, 0)))
    (fun v1_0 => again (v1_0, ())) v.1) (0, ()))
    True))
    True)
    True) := by kernel_rfl
theorem f33_t (a0 : List (Int × Int)) (K : (Int × Int) → Prop) (hK : ∀ y : Int × Int, y = f33 a0 → K y) : RunF Try.prog f33_E f33_A 6 Try.f33 f33_e.doms f33_e.cods a0 K := by
  refine ⟨?_⟩
  rw [f33_run a0 K]
  simp only [br_true_, lenOk_iff]
  simp only [br_both]
  intro hl _
  by_cases h0 : a0.length = 0
  · have e : f93 [f94 (decide ((a0.length : Int) > 0), 10), f94 (decide ((a0.length : Int) ≤ 48), 8)] = 10 := by simp [h0, f94, f93_cons]
    rw [e]
    exact ⟨fun _ => hK _ (by simp [f33, h0]), fun h => by simp at h⟩
  by_cases h1 : 48 < a0.length
  · have e : f93 [f94 (decide ((a0.length : Int) > 0), 10), f94 (decide ((a0.length : Int) ≤ 48), 8)] = 8 := by
      have : ¬ (a0.length : Int) ≤ 48 := by omega
      have h2 : 0 < a0.length := by omega
      simp [this, h2, f94, f93_cons, f93_nil]
    rw [e]
    exact ⟨fun _ => hK _ (by simp [f33, h0, h1]), fun h => by simp at h⟩
  have e : f93 [f94 (decide ((a0.length : Int) > 0), 10), f94 (decide ((a0.length : Int) ≤ 48), 8)] = 0 := by
    have : (a0.length : Int) ≤ 48 := by omega
    have h2 : 0 < a0.length := by omega
    simp [this, h2, f94, f93_cons, f93_nil]
  rw [e]
  refine ⟨fun h => by simp at h, fun _ _ => ?_⟩
  refine LoopP.up a0.length (fun i _ => ∀ x ∈ a0.take i.toNat, (!f103 x) = false) (fun again i v hi0 hn hI hag => ?_) (by omega) all_zero
  simp only [br_both, decide_eq_true_eq, decide_eq_false_iff_not, Bool.and_eq_true]
  refine ⟨fun hi => ⟨fun _ => ⟨fun hne => ⟨fun _ => ?_, fun hf => ?_⟩, fun he => ?_⟩, fun hf => ?_⟩, fun hi => ?_⟩
  · refine hK _ ?_
    rw [f33, if_neg h0, if_neg h1, findIdx_at hi0 hi hI hne]
    simp only
    rw [Int.toNat_of_nonneg hi0]
  · omega
  · rw [wr (by omega) (by omega)]
    exact hag () hi (all_step hi0 hi hI he)
  · simp at hf; omega
  · refine hK _ ?_
    rw [f33, if_neg h0, if_neg h1, findIdx_none (all_done hi hI)]
theorem f33_fn : f33_e.fn = f33 := rfl
theorem f33_ok : EntryOK Try.prog 33 f33_e := by
  refine entryF progOK (EnvOK.cons f93_ok (EnvOK.cons f94_ok (EnvOK.cons f103_ok (EnvOK.nil)))) (A := f33_A) (d := 6) Try.func33 rfl rfl rfl (fun _ _ => trivial) fun x hpre => ?_
  exact f33_t x _ fun _ h => h.trans (congrFun f33_fn.symm _)
/-- A valid block. -/
theorem blk_ok {l : List (Int × Int)} (h : (f33 l).2 = 0) : 0 < l.length ∧ l.length ≤ 48 ∧ ∀ x ∈ l, -1000 ≤ x.1 ∧ x.1 ≤ 1000 ∧ -1000 ≤ x.2 ∧ x.2 ≤ 1000 := by
  unfold f33 at h
  split at h
  · simp at h
  · split at h
    · simp at h
    · split at h
      · simp at h
      · rename_i h0 h1 hf
        refine ⟨by omega, by omega, fun x hx => ?_⟩
        rw [List.findIdx?_eq_none_iff] at hf
        have := hf x hx
        simp only [Bool.not_eq_false', f103, szd, Bool.and_eq_true, decide_eq_true_eq] at this
        omega
end Go.Proofs.Ytdhekhichomoiaa
end

section
namespace Go.Proofs.Ytdhekhichomoiaa
open Go Go.Pi Go.RowKit
set_option maxRecDepth 100000
set_option linter.unusedVariables false
set_option linter.unusedSimpArgs false

def f97 (l : List (Int × Int)) : Int := (f33 l).2
def f97_e : Entry := { doms := [(false, (.sl (.pair (.int .i64) (.int .i64))))], cods := [(false, (.int .i64))], pre := fun _ => True, fn := f97, uq := false, total := true }
def f97_E : Env := [(33, f33_e)]
def f97_A : Anns := { loops := [], own := [] }
theorem f97_run (a0 : List (Int × Int)) (K : Int → Prop) : runF Try.prog f97_E f97_A 6 Try.f97 f97_e.doms f97_e.cods a0 K =
    (K ((f33 a0).2)) := by kernel_rfl
theorem f97_t (a0 : List (Int × Int)) (K : Int → Prop) (hK : ∀ y : Int, y = f97 a0 → K y) : RunF Try.prog f97_E f97_A 6 Try.f97 f97_e.doms f97_e.cods a0 K := by
  refine ⟨?_⟩
  rw [f97_run a0 K]
  exact hK _ (by rw [f97])
theorem f97_fn : f97_e.fn = f97 := rfl
theorem f97_ok : EntryOK Try.prog 97 f97_e := by
  refine entryF progOK (EnvOK.cons f33_ok (EnvOK.nil)) (A := f97_A) (d := 6) Try.func97 rfl rfl rfl (fun _ _ => trivial) fun x hpre => ?_
  exact f97_t x _ fun _ h => h.trans (congrFun f97_fn.symm _)
end Go.Proofs.Ytdhekhichomoiaa
end

section
namespace Go.Proofs.Ytdhekhichomoiaa
open Go Go.Pi Go.RowKit
set_option maxRecDepth 100000
set_option linter.unusedVariables false
set_option linter.unusedSimpArgs false

def f98 (x : (Int × Int) × Int) : Int × Int := match (x.2.tmod 4).toNat with
  | 0 => x.1
  | 1 => (x.1.2, IntKind.i64.wrap (0 - x.1.1))
  | 2 => (IntKind.i64.wrap (0 - x.1.1), IntKind.i64.wrap (0 - x.1.2))
  | _ => (IntKind.i64.wrap (0 - x.1.2), x.1.1)
def f98_pre (x : (Int × Int) × Int) : Prop := 0 ≤ x.2
def f98_e : Entry := { doms := [(true, (.pair (.int .i64) (.int .i64))), (false, (.int .i64))], cods := [(true, (.pair (.int .i64) (.int .i64)))], pre := f98_pre, fn := f98, uq := false, total := false }
def f98_E : Env := []
def f98_A : Anns := { loops := [], own := [] }
theorem f98_run (a0 : Int × Int) (a1 : Int) (K : (Int × Int) → Prop) : runF Try.prog f98_E f98_A 6 Try.f98 f98_e.doms f98_e.cods (a0, a1) K =
    (br (decide (0 ≤ (a1.tmod 4)) && decide ((a1.tmod 4) < 4))
    (K (([a0, (a0.2, (IntKind.i64.wrap (0 - a0.1))), ((IntKind.i64.wrap (0 - a0.1)), (IntKind.i64.wrap (0 - a0.2))), ((IntKind.i64.wrap (0 - a0.2)), a0.1)] : List (Int × Int)).getD ((a1.tmod 4).toNat) (0, 0)))
    False) := by kernel_rfl
theorem f98_t (a0 : Int × Int) (a1 : Int) (hpre : f98_pre (a0, a1)) (K : (Int × Int) → Prop) (hK : ∀ y : Int × Int, y = f98 (a0, a1) → K y) : RunF Try.prog f98_E f98_A 6 Try.f98 f98_e.doms f98_e.cods (a0, a1) K := by
  refine ⟨?_⟩
  rw [f98_run a0 a1 K]
  have h0 : 0 ≤ a1 := hpre
  have h1 : 0 ≤ a1.tmod 4 := Int.tmod_nonneg 4 h0
  have h2 : a1.tmod 4 < 4 := Int.tmod_lt_of_pos a1 (by omega)
  simp only [br_false_, Bool.and_eq_true, decide_eq_true_eq]
  refine ⟨⟨h1, h2⟩, ?_⟩
  refine hK _ ?_
  unfold f98
  simp only
  generalize h : (a1.tmod 4).toNat = n
  have : n < 4 := by omega
  match n, this with
  | 0, _ => rfl
  | 1, _ => rfl
  | 2, _ => rfl
  | 3, _ => rfl
theorem f98_fn : f98_e.fn = f98 := rfl
theorem f98_ok : EntryOK Try.prog 98 f98_e := by
  refine entryF progOK (EnvOK.nil) (A := f98_A) (d := 6) Try.func98 rfl rfl rfl (fun h => by cases h) fun x hpre => ?_
  obtain ⟨a0, a1⟩ := x
  exact f98_t a0 a1 hpre _ fun _ h => h.trans (congrFun f98_fn.symm _)
end Go.Proofs.Ytdhekhichomoiaa
end

section
namespace Go.Proofs.Ytdhekhichomoiaa
open Go Go.Pi Go.RowKit
set_option maxRecDepth 100000
set_option linter.unusedVariables false
set_option linter.unusedSimpArgs false

def f105 (n : Int) : Bool := decide (0 ≤ n) && decide (n ≤ 100)
def f105_e : Entry := { doms := [(false, (.int .i64))], cods := [(false, .bool)], pre := fun _ => True, fn := f105, uq := false, total := true }
def f105_E : Env := [(95, f95_e)]
def f105_A : Anns := { loops := [], own := [] }
theorem f105_run (a0 : Int) (K : Bool → Prop) : runF Try.prog f105_E f105_A 6 Try.f105 f105_e.doms f105_e.cods a0 K =
    (K (f95 (a0, (0, 100)))) := by kernel_rfl
theorem f105_t (a0 : Int) (K : Bool → Prop) (hK : ∀ y : Bool, y = f105 a0 → K y) : RunF Try.prog f105_E f105_A 6 Try.f105 f105_e.doms f105_e.cods a0 K := by
  refine ⟨?_⟩
  rw [f105_run a0 K]
  exact hK _ (by simp [f105, f95])
theorem f105_fn : f105_e.fn = f105 := rfl
theorem f105_ok : EntryOK Try.prog 105 f105_e := by
  refine entryF progOK (EnvOK.cons f95_ok (EnvOK.nil)) (A := f105_A) (d := 6) Try.func105 rfl rfl rfl (fun _ _ => trivial) fun x hpre => ?_
  exact f105_t x _ fun _ h => h.trans (congrFun f105_fn.symm _)
end Go.Proofs.Ytdhekhichomoiaa
end

section
namespace Go.Proofs.Ytdhekhichomoiaa
open Go Go.Pi Go.RowKit
set_option maxRecDepth 100000
set_option linter.unusedVariables false
set_option linter.unusedSimpArgs false

def f34 (g : Int × Int × Int × List Int) : Int × Int :=
  if ¬ ((0 ≤ g.1 ∧ g.1 ≤ 48) ∧ (1 ≤ g.2.1 ∧ g.2.1 ≤ 48) ∧ (1 ≤ g.2.2.1 ∧ g.2.2.1 ≤ 20)) then (0, 2)
  else if g.2.2.2.length = 0 then (0, 10) else if 16 < g.2.2.2.length then (0, 8) else match g.2.2.2.findIdx? (fun n => !f105 n) with
  | some i => ((i : Int), 2)
  | none => (0, 0)
def f34_e : Entry := { doms := [(true, (.pair (.int .i64) (.pair (.int .i64) (.pair (.int .i64) (.sl (.int .i64))))))], cods := [(false, (.int .i64)), (false, (.int .i64))], pre := fun _ => True, fn := f34, uq := false, total := true }
def f34_E : Env := [(93, f93_e), (94, f94_e), (95, f95_e), (105, f105_e)]
def f34_A : Anns := { loops := [(1157427304333312000, { tms := [(0, .keep), (1, .keep), (7, .keep), (8, .data false (.int .i64))], obs := [(1048576, .keep), (1103808692224, .keep)], fz := [] })], own := [] }
theorem f34_run (a0 : Int × Int × Int × List Int) (K : (Int × Int) → Prop) : runF Try.prog f34_E f34_A 6 Try.f34 f34_e.doms f34_e.cods a0 K =
    (br (f95 (a0.1, (0, 48)))
    (br (f95 (a0.2.1, (1, 48)))
    (br (lenOk (a0.2.2.2.length))
    (br (lenOk (a0.2.2.2.length))
    (br ((f93 ([(f94 ((f95 (a0.2.2.1, (1, 20))), 2)), (f94 ((decide (((a0.2.2.2.length) : Int) > 0)), 10)), (f94 ((decide (((a0.2.2.2.length) : Int) ≤ 16)), 8))] : List Int)) != 0)
    (K (0, (f93 ([(f94 ((f95 (a0.2.2.1, (1, 20))), 2)), (f94 ((decide (((a0.2.2.2.length) : Int) > 0)), 10)), (f94 ((decide (((a0.2.2.2.length) : Int) ≤ 16)), 8))] : List Int))))
    (br (lenOk (a0.2.2.2.length))
    (LoopP (V := Int × Unit) (fun again v => (fun (again1 : Int → Prop) (v1_0 : Int) =>
    br (decide (v1_0 < ((a0.2.2.2.length) : Int)))
    (br (decide (0 ≤ v1_0) && decide (v1_0 < ((a0.2.2.2.length) : Int)))
    (br (!(f105 (a0.2.2.2.getD v1_0.toNat 0)))
    (br (decide (v1_0 ≥ 0))
    (K (v1_0, 2))
    (K (0, 0)))
    (again1 (IntKind.i64.wrap (v1_0 + 1))))
    False)
    (K (0, 0)))
    (fun v1_0 => again (v1_0, ())) v.1) (0, ()))
    True))
    True)
    True)
    (br (lenOk (a0.2.2.2.length))
    (br (lenOk (a0.2.2.2.length))
    (br ((f93 ([(f94 (false, 2)), (f94 ((decide (((a0.2.2.2.length) : Int) > 0)), 10)), (f94 ((decide (((a0.2.2.2.length) : Int) ≤ 16)), 8))] : List Int)) != 0)
    (K (0, (f93 ([(f94 (false, 2)), (f94 ((decide (((a0.2.2.2.length) : Int) > 0)), 10)), (f94 ((decide (((a0.2.2.2.length) : Int) ≤ 16)), 8))] : List Int))))
    (br (lenOk (a0.2.2.2.length))
    (LoopP (V := Int × Unit) (fun again v => (fun (again2 : Int → Prop) (v2_0 : Int) =>
    br (decide (v2_0 < ((a0.2.2.2.length) : Int)))
    (br (decide (0 ≤ v2_0) && decide (v2_0 < ((a0.2.2.2.length) : Int)))
    (br (!(f105 (a0.2.2.2.getD v2_0.toNat 0)))
    (br (decide (v2_0 ≥ 0))
    (K (v2_0, 2))
    (K (0, 0)))
    (again2 (IntKind.i64.wrap (v2_0 + 1))))
    False)
    (K (0, 0)))
    (fun v2_0 => again (v2_0, ())) v.1) (0, ()))
    True))
    True)
    True))
    (br (lenOk (a0.2.2.2.length))
    (br (lenOk (a0.2.2.2.length))
    (br ((f93 ([(f94 (false, 2)), (f94 ((decide (((a0.2.2.2.length) : Int) > 0)), 10)), (f94 ((decide (((a0.2.2.2.length) : Int) ≤ 16)), 8))] : List Int)) != 0)
    (K (0, (f93 ([(f94 (false, 2)), (f94 ((decide (((a0.2.2.2.length) : Int) > 0)), 10)), (f94 ((decide (((a0.2.2.2.length) : Int) ≤ 16)), 8))] : List Int))))
    (br (lenOk (a0.2.2.2.length))
    (LoopP (V := Int × Unit) (fun again v => (fun (again3 : Int → Prop) (v3_0 : Int) =>
    br (decide (v3_0 < ((a0.2.2.2.length) : Int)))
    (br (decide (0 ≤ v3_0) && decide (v3_0 < ((a0.2.2.2.length) : Int)))
    (br (!(f105 (a0.2.2.2.getD v3_0.toNat 0)))
    (br (decide (v3_0 ≥ 0))
    (K (v3_0, 2))
    (K (0, 0)))
    (again3 (IntKind.i64.wrap (v3_0 + 1))))
    False)
    (K (0, 0)))
    (fun v3_0 => again (v3_0, ())) v.1) (0, ()))
    True))
    True)
    True)) := by kernel_rfl
theorem f34_t (a0 : Int × Int × Int × List Int) (K : (Int × Int) → Prop) (hK : ∀ y : Int × Int, y = f34 a0 → K y) : RunF Try.prog f34_E f34_A 6 Try.f34 f34_e.doms f34_e.cods a0 K := by
  refine ⟨?_⟩
  rw [f34_run a0 K]
  simp only [br_true_, lenOk_iff]
  simp only [br_both]
  have bad : ∀ a b, f93 [f94 (false, 2), a, b] = 2 := fun a b => by simp [f94, f93_cons]
  simp only [bad]
  refine ⟨fun h1 => ⟨fun h2 => fun hl _ => ?_, fun h2 => fun hl _ => ⟨fun _ => ?_, fun h => by simp at h⟩⟩, fun h1 => fun hl _ => ⟨fun _ => ?_, fun h => by simp at h⟩⟩
  · simp only [f95, Bool.and_eq_true, decide_eq_true_eq] at h1 h2
    by_cases h3 : 1 ≤ a0.2.2.1 ∧ a0.2.2.1 ≤ 20
    · by_cases h4 : a0.2.2.2.length = 0
      · have e : f93 [f94 (f95 (a0.2.2.1, 1, 20), 2), f94 (decide ((a0.2.2.2.length : Int) > 0), 10), f94 (decide ((a0.2.2.2.length : Int) ≤ 16), 8)] = 10 := by simp [h3, h4, f95, f94, f93_cons]
        rw [e]
        exact ⟨fun _ => hK _ (by simp [f34, h1, h2, h3, h4]), fun h => by simp at h⟩
      by_cases h5 : 16 < a0.2.2.2.length
      · have e : f93 [f94 (f95 (a0.2.2.1, 1, 20), 2), f94 (decide ((a0.2.2.2.length : Int) > 0), 10), f94 (decide ((a0.2.2.2.length : Int) ≤ 16), 8)] = 8 := by
          have : ¬ (a0.2.2.2.length : Int) ≤ 16 := by omega
          have h6 : 0 < a0.2.2.2.length := by omega
          simp [h3, this, h6, f95, f94, f93_cons]
        rw [e]
        exact ⟨fun _ => hK _ (by simp [f34, h1, h2, h3, h4, h5]), fun h => by simp at h⟩
      have e : f93 [f94 (f95 (a0.2.2.1, 1, 20), 2), f94 (decide ((a0.2.2.2.length : Int) > 0), 10), f94 (decide ((a0.2.2.2.length : Int) ≤ 16), 8)] = 0 := by
        have : (a0.2.2.2.length : Int) ≤ 16 := by omega
        have h6 : 0 < a0.2.2.2.length := by omega
        simp [h3, this, h6, f95, f94, f93_cons, f93_nil]
      rw [e]
      refine ⟨fun h => by simp at h, fun _ _ => ?_⟩
      have hc : ¬ ¬ ((0 ≤ a0.1 ∧ a0.1 ≤ 48) ∧ (1 ≤ a0.2.1 ∧ a0.2.1 ≤ 48) ∧ (1 ≤ a0.2.2.1 ∧ a0.2.2.1 ≤ 20)) := not_not_intro ⟨h1, h2, h3⟩
      refine LoopP.up a0.2.2.2.length (fun i _ => ∀ x ∈ a0.2.2.2.take i.toNat, (!f105 x) = false) (fun again i v hi0 hn hI hag => ?_) (by omega) all_zero
      simp only [br_both, decide_eq_true_eq, decide_eq_false_iff_not, Bool.and_eq_true]
      refine ⟨fun hi => ⟨fun _ => ⟨fun hne => ⟨fun _ => ?_, fun hf => ?_⟩, fun he => ?_⟩, fun hf => ?_⟩, fun hi => ?_⟩
      · refine hK _ ?_
        rw [f34, if_neg hc, if_neg h4, if_neg h5, findIdx_at hi0 hi hI hne]
        simp only
        rw [Int.toNat_of_nonneg hi0]
      · omega
      · rw [wr (by omega) (by omega)]
        exact hag () hi (all_step hi0 hi hI he)
      · simp at hf; omega
      · refine hK _ ?_
        rw [f34, if_neg hc, if_neg h4, if_neg h5, findIdx_none (all_done hi hI)]
    · have e : ∀ a b, f93 [f94 (f95 (a0.2.2.1, 1, 20), 2), a, b] = 2 := fun a b => by
        have : f95 (a0.2.2.1, 1, 20) = false := by simp [f95]; omega
        rw [this, bad]
      rw [e]
      exact ⟨fun _ => hK _ (by rw [f34, if_pos fun h => h3 h.2.2]), fun h => by simp at h⟩
  · exact hK _ (by rw [f34, if_pos fun h => by simp [f95, h.2.1] at h2])
  · exact hK _ (by rw [f34, if_pos fun h => by simp [f95, h.1] at h1])
theorem f34_fn : f34_e.fn = f34 := rfl
theorem f34_ok : EntryOK Try.prog 34 f34_e := by
  refine entryF progOK (EnvOK.cons f93_ok (EnvOK.cons f94_ok (EnvOK.cons f95_ok (EnvOK.cons f105_ok (EnvOK.nil))))) (A := f34_A) (d := 6) Try.func34 rfl rfl rfl (fun _ _ => trivial) fun x hpre => ?_
  exact f34_t x _ fun _ h => h.trans (congrFun f34_fn.symm _)
/-- Valid gates. -/
structure GatesOK (g : Int × Int × Int × List Int) : Prop where
  first : 0 ≤ g.1 ∧ g.1 ≤ 48
  hop : 1 ≤ g.2.1 ∧ g.2.1 ≤ 48
  count : 1 ≤ g.2.2.1 ∧ g.2.2.1 ≤ 20
  len : 0 < g.2.2.2.length ∧ g.2.2.2.length ≤ 16
  weights : ∀ n ∈ g.2.2.2, 0 ≤ n ∧ n ≤ 100
theorem gates_ok {g : Int × Int × Int × List Int} (h : (f34 g).2 = 0) : GatesOK g := by
  unfold f34 at h
  split at h
  · simp at h
  · rename_i hc
    have hc := Classical.not_not.1 hc
    split at h
    · simp at h
    · split at h
      · simp at h
      · split at h
        · simp at h
        · rename_i h0 h1 hf
          rw [List.findIdx?_eq_none_iff] at hf
          refine ⟨hc.1, hc.2.1, hc.2.2, ⟨by omega, by omega⟩, fun n hn => ?_⟩
          have := hf n hn
          simpa [f105] using this
end Go.Proofs.Ytdhekhichomoiaa
end

section
namespace Go.Proofs.Ytdhekhichomoiaa
open Go Go.Pi Go.RowKit
set_option maxRecDepth 100000
set_option linter.unusedVariables false
set_option linter.unusedSimpArgs false

def f106 (g : Int × Int × Int × List Int) : Int := (f34 g).2
def f106_e : Entry := { doms := [(true, (.pair (.int .i64) (.pair (.int .i64) (.pair (.int .i64) (.sl (.int .i64))))))], cods := [(false, (.int .i64))], pre := fun _ => True, fn := f106, uq := false, total := true }
def f106_E : Env := [(34, f34_e)]
def f106_A : Anns := { loops := [], own := [] }
theorem f106_run (a0 : Int × Int × Int × List Int) (K : Int → Prop) : runF Try.prog f106_E f106_A 6 Try.f106 f106_e.doms f106_e.cods a0 K =
    (K ((f34 a0).2)) := by kernel_rfl
theorem f106_t (a0 : Int × Int × Int × List Int) (K : Int → Prop) (hK : ∀ y : Int, y = f106 a0 → K y) : RunF Try.prog f106_E f106_A 6 Try.f106 f106_e.doms f106_e.cods a0 K := by
  refine ⟨?_⟩
  rw [f106_run a0 K]
  exact hK _ (by rw [f106])
theorem f106_fn : f106_e.fn = f106 := rfl
theorem f106_ok : EntryOK Try.prog 106 f106_e := by
  refine entryF progOK (EnvOK.cons f34_ok (EnvOK.nil)) (A := f106_A) (d := 6) Try.func106 rfl rfl rfl (fun _ _ => trivial) fun x hpre => ?_
  exact f106_t x _ fun _ h => h.trans (congrFun f106_fn.symm _)
end Go.Proofs.Ytdhekhichomoiaa
end

section
namespace Go.Proofs.Ytdhekhichomoiaa
open Go Go.Pi Go.RowKit
set_option maxRecDepth 100000
set_option linter.unusedVariables false
set_option linter.unusedSimpArgs false

def f107 (x : (Int × Int × Int × List Int) × Int) : Int := f94 (f95 (x.2, 0, IntKind.i64.wrap (x.1.2.2.1 - 1)), 6)
def f107_e : Entry := { doms := [(true, (.pair (.int .i64) (.pair (.int .i64) (.pair (.int .i64) (.sl (.int .i64)))))), (false, (.int .i64))], cods := [(false, (.int .i64))], pre := fun _ => True, fn := f107, uq := false, total := true }
def f107_E : Env := [(94, f94_e), (95, f95_e)]
def f107_A : Anns := { loops := [], own := [] }
theorem f107_run (a0 : Int × Int × Int × List Int) (a1 : Int) (K : Int → Prop) : runF Try.prog f107_E f107_A 6 Try.f107 f107_e.doms f107_e.cods (a0, a1) K =
    (K (f94 ((f95 (a1, (0, (IntKind.i64.wrap (a0.2.2.1 - 1))))), 6))) := by kernel_rfl
theorem f107_t (a0 : Int × Int × Int × List Int) (a1 : Int) (K : Int → Prop) (hK : ∀ y : Int, y = f107 (a0, a1) → K y) : RunF Try.prog f107_E f107_A 6 Try.f107 f107_e.doms f107_e.cods (a0, a1) K := by
  refine ⟨?_⟩
  rw [f107_run a0 a1 K]
  exact hK _ (by simp only [f107])
theorem f107_fn : f107_e.fn = f107 := rfl
theorem f107_ok : EntryOK Try.prog 107 f107_e := by
  refine entryF progOK (EnvOK.cons f94_ok (EnvOK.cons f95_ok (EnvOK.nil))) (A := f107_A) (d := 6) Try.func107 rfl rfl rfl (fun _ _ => trivial) fun x hpre => ?_
  obtain ⟨a0, a1⟩ := x
  exact f107_t a0 a1 _ fun _ h => h.trans (congrFun f107_fn.symm _)
end Go.Proofs.Ytdhekhichomoiaa
end

section
namespace Go.Proofs.Ytdhekhichomoiaa
open Go Go.Pi Go.RowKit
set_option maxRecDepth 100000
set_option linter.unusedVariables false
set_option linter.unusedSimpArgs false

def f110 (x : (Int × Int × Int × List Int) × Int) : Int := IntKind.i64.wrap (x.1.1 + IntKind.i64.wrap (x.2 * x.1.2.1))
def f110_e : Entry := { doms := [(true, (.pair (.int .i64) (.pair (.int .i64) (.pair (.int .i64) (.sl (.int .i64)))))), (false, (.int .i64))], cods := [(false, (.int .i64))], pre := fun _ => True, fn := f110, uq := false, total := true }
def f110_E : Env := []
def f110_A : Anns := { loops := [], own := [] }
theorem f110_run (a0 : Int × Int × Int × List Int) (a1 : Int) (K : Int → Prop) : runF Try.prog f110_E f110_A 6 Try.f110 f110_e.doms f110_e.cods (a0, a1) K =
    (K (IntKind.i64.wrap (a0.1 + (IntKind.i64.wrap (a1 * a0.2.1))))) := by kernel_rfl
theorem f110_t (a0 : Int × Int × Int × List Int) (a1 : Int) (K : Int → Prop) (hK : ∀ y : Int, y = f110 (a0, a1) → K y) : RunF Try.prog f110_E f110_A 6 Try.f110 f110_e.doms f110_e.cods (a0, a1) K := by
  refine ⟨?_⟩
  rw [f110_run a0 a1 K]
  exact hK _ (by simp only [f110])
theorem f110_fn : f110_e.fn = f110 := rfl
theorem f110_ok : EntryOK Try.prog 110 f110_e := by
  refine entryF progOK (EnvOK.nil) (A := f110_A) (d := 6) Try.func110 rfl rfl rfl (fun _ _ => trivial) fun x hpre => ?_
  obtain ⟨a0, a1⟩ := x
  exact f110_t a0 a1 _ fun _ h => h.trans (congrFun f110_fn.symm _)
end Go.Proofs.Ytdhekhichomoiaa
end

section
namespace Go.Proofs.Ytdhekhichomoiaa
open Go Go.Pi Go.RowKit
set_option maxRecDepth 100000
set_option linter.unusedVariables false
set_option linter.unusedSimpArgs false

def f108 (x : (Int × Int × Int × List Int) × List (Int × Int) × Int) : Bool := decide (IntKind.i64.wrap (f110 (x.1, x.2.2) + (x.1.2.2.2.length : Int)) ≤ (x.2.1.length : Int))
def f108_e : Entry := { doms := [(true, (.pair (.int .i64) (.pair (.int .i64) (.pair (.int .i64) (.sl (.int .i64)))))), (false, (.sl (.pair (.int .i64) (.int .i64)))), (false, (.int .i64))], cods := [(false, .bool)], pre := fun _ => True, fn := f108, uq := false, total := true }
def f108_E : Env := [(110, f110_e)]
def f108_A : Anns := { loops := [], own := [] }
theorem f108_run (a0 : Int × Int × Int × List Int) (a1 : List (Int × Int)) (a2 : Int) (K : Bool → Prop) : runF Try.prog f108_E f108_A 6 Try.f108 f108_e.doms f108_e.cods (a0, a1, a2) K =
    (br (lenOk (a0.2.2.2.length))
    (br (lenOk (a1.length))
    (K (decide ((IntKind.i64.wrap ((f110 (a0, a2)) + ((a0.2.2.2.length) : Int))) ≤ ((a1.length) : Int))))
    True)
    True) := by kernel_rfl
theorem f108_t (a0 : Int × Int × Int × List Int) (a1 : List (Int × Int)) (a2 : Int) (K : Bool → Prop) (hK : ∀ y : Bool, y = f108 (a0, a1, a2) → K y) : RunF Try.prog f108_E f108_A 6 Try.f108 f108_e.doms f108_e.cods (a0, a1, a2) K := by
  refine ⟨?_⟩
  rw [f108_run a0 a1 a2 K]
  rw [br_true_]
  intro _
  rw [br_true_]
  intro _
  exact hK _ (by simp only [f108])
theorem f108_fn : f108_e.fn = f108 := rfl
theorem f108_ok : EntryOK Try.prog 108 f108_e := by
  refine entryF progOK (EnvOK.cons f110_ok (EnvOK.nil)) (A := f108_A) (d := 6) Try.func108 rfl rfl rfl (fun _ _ => trivial) fun x hpre => ?_
  obtain ⟨a0, a1, a2⟩ := x
  exact f108_t a0 a1 a2 _ fun _ h => h.trans (congrFun f108_fn.symm _)
end Go.Proofs.Ytdhekhichomoiaa
end

section
namespace Go.Proofs.Ytdhekhichomoiaa
open Go Go.Pi Go.RowKit
set_option maxRecDepth 100000
set_option linter.unusedVariables false
set_option linter.unusedSimpArgs false

def f126 (x : (Int × Int) × (Int × Int)) : Int × Int := (IntKind.i64.wrap (x.1.1 + x.2.1), IntKind.i64.wrap (x.1.2 + x.2.2))
def f126_e : Entry := { doms := [(true, (.pair (.int .i64) (.int .i64))), (true, (.pair (.int .i64) (.int .i64)))], cods := [(true, (.pair (.int .i64) (.int .i64)))], pre := fun _ => True, fn := f126, uq := false, total := true }
def f126_E : Env := []
def f126_A : Anns := { loops := [], own := [] }
theorem f126_run (a0 : Int × Int) (a1 : Int × Int) (K : (Int × Int) → Prop) : runF Try.prog f126_E f126_A 6 Try.f126 f126_e.doms f126_e.cods (a0, a1) K =
    (K ((IntKind.i64.wrap (a0.1 + a1.1)), (IntKind.i64.wrap (a0.2 + a1.2)))) := by kernel_rfl
theorem f126_t (a0 : Int × Int) (a1 : Int × Int) (K : (Int × Int) → Prop) (hK : ∀ y : Int × Int, y = f126 (a0, a1) → K y) : RunF Try.prog f126_E f126_A 6 Try.f126 f126_e.doms f126_e.cods (a0, a1) K := by
  refine ⟨?_⟩
  rw [f126_run a0 a1 K]
  exact hK _ (by simp only [f126])
theorem f126_fn : f126_e.fn = f126 := rfl
theorem f126_ok : EntryOK Try.prog 126 f126_e := by
  refine entryF progOK (EnvOK.nil) (A := f126_A) (d := 6) Try.func126 rfl rfl rfl (fun _ _ => trivial) fun x hpre => ?_
  obtain ⟨a0, a1⟩ := x
  exact f126_t a0 a1 _ fun _ h => h.trans (congrFun f126_fn.symm _)
end Go.Proofs.Ytdhekhichomoiaa
end

section
namespace Go.Proofs.Ytdhekhichomoiaa
open Go Go.Pi Go.RowKit
set_option maxRecDepth 100000
set_option linter.unusedVariables false
set_option linter.unusedSimpArgs false

def f127 (x : (Int × Int) × (Int × Int)) : Int × Int := (IntKind.i64.wrap (IntKind.i64.wrap (x.1.1 * x.2.1) + IntKind.i64.wrap (x.1.2 * x.2.2)), IntKind.i64.wrap (IntKind.i64.wrap (x.1.1 * x.2.2) - IntKind.i64.wrap (x.1.2 * x.2.1)))
def f127_e : Entry := { doms := [(true, (.pair (.int .i64) (.int .i64))), (true, (.pair (.int .i64) (.int .i64)))], cods := [(true, (.pair (.int .i64) (.int .i64)))], pre := fun _ => True, fn := f127, uq := false, total := true }
def f127_E : Env := []
def f127_A : Anns := { loops := [], own := [] }
theorem f127_run (a0 : Int × Int) (a1 : Int × Int) (K : (Int × Int) → Prop) : runF Try.prog f127_E f127_A 6 Try.f127 f127_e.doms f127_e.cods (a0, a1) K =
    (K ((IntKind.i64.wrap ((IntKind.i64.wrap (a0.1 * a1.1)) + (IntKind.i64.wrap (a0.2 * a1.2)))), (IntKind.i64.wrap ((IntKind.i64.wrap (a0.1 * a1.2)) - (IntKind.i64.wrap (a0.2 * a1.1)))))) := by kernel_rfl
theorem f127_t (a0 : Int × Int) (a1 : Int × Int) (K : (Int × Int) → Prop) (hK : ∀ y : Int × Int, y = f127 (a0, a1) → K y) : RunF Try.prog f127_E f127_A 6 Try.f127 f127_e.doms f127_e.cods (a0, a1) K := by
  refine ⟨?_⟩
  rw [f127_run a0 a1 K]
  exact hK _ (by simp only [f127])
theorem f127_fn : f127_e.fn = f127 := rfl
theorem f127_ok : EntryOK Try.prog 127 f127_e := by
  refine entryF progOK (EnvOK.nil) (A := f127_A) (d := 6) Try.func127 rfl rfl rfl (fun _ _ => trivial) fun x hpre => ?_
  obtain ⟨a0, a1⟩ := x
  exact f127_t a0 a1 _ fun _ h => h.trans (congrFun f127_fn.symm _)
end Go.Proofs.Ytdhekhichomoiaa
end

section
namespace Go.Proofs.Ytdhekhichomoiaa
open Go Go.Pi Go.RowKit
set_option maxRecDepth 100000
set_option linter.unusedVariables false
set_option linter.unusedSimpArgs false

def f118 (x : Int × Int) : Int := IntKind.i64.wrap (IntKind.i64.wrap (x.1 * x.1) + IntKind.i64.wrap (x.2 * x.2))
def f118_e : Entry := { doms := [(true, (.pair (.int .i64) (.int .i64)))], cods := [(false, (.int .i64))], pre := fun _ => True, fn := f118, uq := false, total := true }
def f118_E : Env := []
def f118_A : Anns := { loops := [], own := [] }
theorem f118_run (a0 : Int × Int) (K : Int → Prop) : runF Try.prog f118_E f118_A 6 Try.f118 f118_e.doms f118_e.cods a0 K =
    (K (IntKind.i64.wrap ((IntKind.i64.wrap (a0.1 * a0.1)) + (IntKind.i64.wrap (a0.2 * a0.2))))) := by kernel_rfl
theorem f118_t (a0 : Int × Int) (K : Int → Prop) (hK : ∀ y : Int, y = f118 a0 → K y) : RunF Try.prog f118_E f118_A 6 Try.f118 f118_e.doms f118_e.cods a0 K := by
  refine ⟨?_⟩
  rw [f118_run a0 K]
  exact hK _ (by simp only [f118])
theorem f118_fn : f118_e.fn = f118 := rfl
theorem f118_ok : EntryOK Try.prog 118 f118_e := by
  refine entryF progOK (EnvOK.nil) (A := f118_A) (d := 6) Try.func118 rfl rfl rfl (fun _ _ => trivial) fun x hpre => ?_
  exact f118_t x _ fun _ h => h.trans (congrFun f118_fn.symm _)
end Go.Proofs.Ytdhekhichomoiaa
end
