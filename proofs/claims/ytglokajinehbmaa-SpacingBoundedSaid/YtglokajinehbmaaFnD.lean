/- What functions of the program compute, each proved once, part 4. -/
import Derived.Test.YtglokajinehbmaaPiD
import Derived.Test.YtglokajinehbmaaFnA

section
namespace Go.Proofs.Ytglokajinehbmaa
open Go Go.Pi Go.RowKit
set_option maxRecDepth 100000
set_option linter.unusedVariables false
set_option linter.unusedSimpArgs false

def f14 (r : List (List Int) × List (List Int)) : Bool := decide ((r.1.length ≤ 6 ∧ r.2.length ≤ 6) ∧ (∀ x ∈ r.1, x.length ≤ 6) ∧ ∀ x ∈ r.2, x.length ≤ 6)
def f14_e : Entry := { doms := [(true, (.pair (.sl (.sl (.int .i64))) (.sl (.sl (.int .i64)))))], cods := [(false, .bool)], pre := fun _ => True, fn := f14, uq := false, total := true }
def f14_E : Env := []
def f14_A : Anns := { loops := [(1048576, { tms := [(1, .keep), (3, .data false (.int .i64))], obs := [(1048576, .keep)], fz := [] }),
  (1048578, { tms := [(1, .keep), (4, .data false (.int .i64))], obs := [(1048576, .keep)], fz := [] })], own := [] }
theorem f14_run (a0 : List (List Int) × List (List Int)) (K : Bool → Prop) : runF Try.prog f14_E f14_A 6 Try.f14 f14_e.doms f14_e.cods a0 K =
    (br (lenOk (a0.1.length))
    (br (decide (((a0.1.length) : Int) > 6))
    (K false)
    (br (lenOk (a0.2.length))
    (br (decide (((a0.2.length) : Int) > 6))
    (K false)
    (LoopP (V := Int × Unit) (fun again v => (fun (again1 : Int → Prop) (v1_0 : Int) =>
    br (lenOk (a0.1.length))
    (br (decide (v1_0 < ((a0.1.length) : Int)))
    (br (decide (0 ≤ v1_0) && decide (v1_0 < ((a0.1.length) : Int)))
    (br (lenOk ((a0.1.getD v1_0.toNat []).length))
    (br (decide ((((a0.1.getD v1_0.toNat []).length) : Int) > 6))
    (K false)
    (again1 (IntKind.i64.wrap (v1_0 + 1))))
    True)
    False)
    (LoopP (V := Int × Unit) (fun again v => (fun (again2 : Int → Prop) (v2_0 : Int) =>
    br (lenOk (a0.2.length))
    (br (decide (v2_0 < ((a0.2.length) : Int)))
    (br (decide (0 ≤ v2_0) && decide (v2_0 < ((a0.2.length) : Int)))
    (br (lenOk ((a0.2.getD v2_0.toNat []).length))
    (br (decide ((((a0.2.getD v2_0.toNat []).length) : Int) > 6))
    (K false)
    (again2 (IntKind.i64.wrap (v2_0 + 1))))
    True)
    False)
    (K true))
    True)
    (fun v2_0 => again (v2_0, ())) v.1) (0, ())))
    True)
    (fun v1_0 => again (v1_0, ())) v.1) (0, ())))
    True))
    True) := by kernel_rfl
theorem f14_t (a0 : List (List Int) × List (List Int)) (K : Bool → Prop) (hK : ∀ y : Bool, y = f14 a0 → K y) : RunF Try.prog f14_E f14_A 6 Try.f14 f14_e.doms f14_e.cods a0 K := by
  refine ⟨?_⟩
  rw [f14_run a0 K]
  have no : ¬ ((a0.1.length ≤ 6 ∧ a0.2.length ≤ 6) ∧ (∀ x ∈ a0.1, x.length ≤ 6) ∧ ∀ x ∈ a0.2, x.length ≤ 6) → K false := fun h => hK _ (decide_eq_false h).symm
  rw [br_true_]
  intro _
  rw [br_dec]
  refine ⟨fun h => no fun hh => by omega, fun h1 => ?_⟩
  rw [br_true_]
  intro _
  rw [br_dec]
  refine ⟨fun h => no fun hh => by omega, fun h2 => ?_⟩
  refine LoopP.up a0.1.length (fun i _ => ∀ x ∈ a0.1.take i.toNat, x.length ≤ 6) (fun again i v h0 hn hI hag => ?_) (by omega) all_zero
  dsimp only
  rw [br_true_]
  intro _
  rw [br_dec]
  refine ⟨fun hi => ?_, fun hi => ?_⟩
  · rw [br_false_]
    refine ⟨by simp; omega, ?_⟩
    rw [br_true_]
    intro _
    rw [br_dec]
    refine ⟨fun h => no fun hh => ?_, fun h => ?_⟩
    · have := hh.2.1 (a0.1.getD i.toNat []) (by rw [getD_lt (by omega)]; exact List.getElem_mem _)
      omega
    · rw [wr (n := i + 1) (by omega) (by omega)]
      exact hag () hi (all_step (d := []) h0 hi hI (by omega))
  · have hall := all_done hi hI
    refine LoopP.up a0.2.length (fun i _ => ∀ x ∈ a0.2.take i.toNat, x.length ≤ 6) (fun again i v h0 hn hI hag => ?_) (by omega) all_zero
    dsimp only
    rw [br_true_]
    intro _
    rw [br_dec]
    refine ⟨fun hi => ?_, fun hi => hK _ ?_⟩
    · rw [br_false_]
      refine ⟨by simp; omega, ?_⟩
      rw [br_true_]
      intro _
      rw [br_dec]
      refine ⟨fun h => no fun hh => ?_, fun h => ?_⟩
      · have := hh.2.2 (a0.2.getD i.toNat []) (by rw [getD_lt (by omega)]; exact List.getElem_mem _)
        omega
      · rw [wr (n := i + 1) (by omega) (by omega)]
        exact hag () hi (all_step (d := []) h0 hi hI (by omega))
    · unfold f14
      rw [decide_eq_true]
      exact ⟨⟨by omega, by omega⟩, hall, all_done hi hI⟩
theorem f14_fn : f14_e.fn = f14 := rfl
theorem f14_ok : EntryOK Try.prog 14 f14_e := by
  refine entryF progOK (EnvOK.nil) (A := f14_A) (d := 6) Try.func14 rfl rfl rfl rfl (fun _ _ => trivial) fun x hpre => ?_
  exact f14_t x _ fun _ h => h.trans (congrFun f14_fn.symm _)
end Go.Proofs.Ytglokajinehbmaa
end

section
namespace Go.Proofs.Ytglokajinehbmaa
open Go Go.Pi Go.RowKit
set_option maxRecDepth 100000
set_option linter.unusedVariables false
set_option linter.unusedSimpArgs false

def f71 (l : List (ByteArray × Int × Int × Int × Int)) : Bool := decide (l.length ≤ 8 ∧ ∀ a ∈ l, a.1.size ≤ 30)
def f71_e : Entry := { doms := [(false, (.sl (.pair .str (.pair (.int .i64) (.pair (.int .i64) (.pair (.int .i64) (.int .i64)))))))], cods := [(false, .bool)], pre := fun _ => True, fn := f71, uq := false, total := true }
def f71_E : Env := []
def f71_A : Anns := { loops := [(1048576, { tms := [(0, .keep), (3, .data false (.int .i64))], obs := [], fz := [] })], own := [] }
theorem f71_run (a0 : List (ByteArray × Int × Int × Int × Int)) (K : Bool → Prop) : runF Try.prog f71_E f71_A 6 Try.f71 f71_e.doms f71_e.cods a0 K =
    (br (lenOk (a0.length))
    (br (decide (((a0.length) : Int) > 8))
    (K false)
    (LoopP (V := Int × Unit) (fun again v => (fun (again1 : Int → Prop) (v1_0 : Int) =>
    br (lenOk (a0.length))
    (br (decide (v1_0 < ((a0.length) : Int)))
    (br (decide (0 ≤ v1_0) && decide (v1_0 < ((a0.length) : Int)))
    (br (decide ((((a0.getD v1_0.toNat ((⟨#[]⟩ : ByteArray), (0, (0, (0, 0))))).1).size : Int) > 30))
    (K false)
    (again1 (IntKind.i64.wrap (v1_0 + 1))))
    False)
    (K true))
    True)
    (fun v1_0 => again (v1_0, ())) v.1) (0, ())))
    True) := by kernel_rfl
theorem f71_t (a0 : List (ByteArray × Int × Int × Int × Int)) (K : Bool → Prop) (hK : ∀ y : Bool, y = f71 a0 → K y) : RunF Try.prog f71_E f71_A 6 Try.f71 f71_e.doms f71_e.cods a0 K := by
  refine ⟨?_⟩
  rw [f71_run a0 K]
  have no : ¬ (a0.length ≤ 8 ∧ ∀ a ∈ a0, a.1.size ≤ 30) → K false := fun h => hK _ (decide_eq_false h).symm
  rw [br_true_]
  intro _
  rw [br_dec]
  refine ⟨fun h => no fun hh => by omega, fun h1 => ?_⟩
  refine LoopP.up a0.length (fun i _ => ∀ x ∈ a0.take i.toNat, x.1.size ≤ 30) (fun again i v h0 hn hI hag => ?_) (by omega) all_zero
  dsimp only
  rw [br_true_]
  intro _
  rw [br_dec]
  refine ⟨fun hi => ?_, fun hi => hK _ ?_⟩
  · rw [br_false_]
    refine ⟨by simp; omega, ?_⟩
    rw [br_dec]
    refine ⟨fun h => no fun hh => ?_, fun h => ?_⟩
    · have := hh.2 (a0.getD i.toNat ((⟨#[]⟩ : ByteArray), (0, (0, (0, 0))))) (by rw [getD_lt (by omega)]; exact List.getElem_mem _)
      omega
    · rw [wr (n := i + 1) (by omega) (by omega)]
      exact hag () hi (all_step (d := ((⟨#[]⟩ : ByteArray), (0, (0, (0, 0))))) h0 hi hI (by omega))
  · unfold f71
    rw [decide_eq_true]
    exact ⟨by omega, all_done hi hI⟩
theorem f71_fn : f71_e.fn = f71 := rfl
theorem f71_ok : EntryOK Try.prog 71 f71_e := by
  refine entryF progOK (EnvOK.nil) (A := f71_A) (d := 6) Try.func71 rfl rfl rfl rfl (fun _ _ => trivial) fun x hpre => ?_
  exact f71_t x _ fun _ h => h.trans (congrFun f71_fn.symm _)
end Go.Proofs.Ytglokajinehbmaa
end

section
namespace Go.Proofs.Ytglokajinehbmaa
open Go Go.Pi Go.RowKit
set_option maxRecDepth 100000
set_option linter.unusedVariables false
set_option linter.unusedSimpArgs false

def f21 (p : (List (List Int) × List (List Int)) × List (ByteArray × Int × Int × Int × Int) × List Int) : Bool := f14 p.1 && (f71 p.2.1 && decide (p.2.2.length ≤ 8))
def f21_e : Entry := { doms := [(true, (.pair (.pair (.sl (.sl (.int .i64))) (.sl (.sl (.int .i64)))) (.pair (.sl (.pair .str (.pair (.int .i64) (.pair (.int .i64) (.pair (.int .i64) (.int .i64)))))) (.sl (.int .i64)))))], cods := [(false, .bool)], pre := fun _ => True, fn := f21, uq := false, total := true }
def f21_E : Env := [(14, f14_e), (71, f71_e)]
def f21_A : Anns := { loops := [], own := [] }
theorem f21_run (a0 : (List (List Int) × List (List Int)) × List (ByteArray × Int × Int × Int × Int) × List Int) (K : Bool → Prop) : runF Try.prog f21_E f21_A 6 Try.f21 f21_e.doms f21_e.cods a0 K =
    (br (f14 a0.1)
    (br (f71 a0.2.1)
    (br (lenOk (a0.2.2.length))
    (K (decide (((a0.2.2.length) : Int) ≤ 8)))
    True)
    (K false))
    (K false)) := by kernel_rfl
theorem f21_t (a0 : (List (List Int) × List (List Int)) × List (ByteArray × Int × Int × Int × Int) × List Int) (K : Bool → Prop) (hK : ∀ y : Bool, y = f21 a0 → K y) : RunF Try.prog f21_E f21_A 6 Try.f21 f21_e.doms f21_e.cods a0 K := by
  refine ⟨?_⟩
  rw [f21_run a0 K]
  rw [br_both]
  refine ⟨fun h1 => br_both.2 ⟨fun h2 => br_true_.2 fun _ => hK _ ?_, fun h2 => hK _ ?_⟩, fun h1 => hK _ ?_⟩
  · unfold f21
    rw [h1, h2, Bool.true_and, Bool.true_and]
    congr 1
    simp only [eq_iff_iff]
    omega
  · unfold f21
    rw [h1, h2]
    rfl
  · unfold f21
    rw [h1]
    rfl
theorem f21_fn : f21_e.fn = f21 := rfl
theorem f21_ok : EntryOK Try.prog 21 f21_e := by
  refine entryF progOK (EnvOK.cons f14_ok (EnvOK.cons f71_ok (EnvOK.nil))) (A := f21_A) (d := 6) Try.func21 rfl rfl rfl rfl (fun _ _ => trivial) fun x hpre => ?_
  exact f21_t x _ fun _ h => h.trans (congrFun f21_fn.symm _)
end Go.Proofs.Ytglokajinehbmaa
end

section
namespace Go.Proofs.Ytglokajinehbmaa
open Go Go.Pi Go.RowKit
set_option maxRecDepth 100000
set_option linter.unusedVariables false
set_option linter.unusedSimpArgs false

def f20 (l : List Int) : List Int := l
def f20_pre (l : List Int) : Prop := l.length ≤ 1048576
def f20_e : Entry := { doms := [(false, (.sl (.int .i64)))], cods := [(false, (.sl (.int .i64)))], pre := f20_pre, fn := f20, uq := true, total := false }
def f20_E : Env := []
def f20_A : Anns := { loops := [], own := [1049600] }
theorem f20_run (a0 : List Int) (K : (List Int) → Prop) : runU Try.prog f20_E f20_A 6 Try.f20 f20_e.doms f20_e.cods a0 K =
    (br (roomOk (0 + (a0.length)) 8)
    (K (([] : List Int) ++ a0))
    False) := by kernel_rfl
theorem f20_t (a0 : List Int) (hpre : f20_pre a0) (K : (List Int) → Prop) (hK : ∀ y : List Int, y = f20 a0 → K y) : RunU Try.prog f20_E f20_A 6 Try.f20 f20_e.doms f20_e.cods a0 K := by
  refine ⟨?_⟩
  rw [f20_run a0 K]
  simp only [br_false_, roomOk_iff]
  have : a0.length ≤ 1048576 := hpre
  exact ⟨by omega, hK _ (by simp [f20])⟩
theorem f20_fn : f20_e.fn = f20 := rfl
theorem f20_ok : EntryOK Try.prog 20 f20_e := by
  refine entryFU progOK (EnvOK.nil) (A := f20_A) (d := 6) Try.func20 rfl rfl rfl (fun h => by cases h) fun x hpre => ?_
  exact f20_t x hpre _ fun _ h => h.trans (congrFun f20_fn.symm _)
end Go.Proofs.Ytglokajinehbmaa
end

section
namespace Go.Proofs.Ytglokajinehbmaa
open Go Go.Pi Go.RowKit
set_option maxRecDepth 100000
set_option linter.unusedVariables false
set_option linter.unusedSimpArgs false

def f70 (l : List (List Int)) : List (List Int) := l
def f70_pre (l : List (List Int)) : Prop := l.length ≤ 1000 ∧ ∀ x ∈ l, x.length ≤ 1000
def f70_e : Entry := { doms := [(false, (.sl (.sl (.int .i64))))], cods := [(false, (.sl (.sl (.int .i64))))], pre := f70_pre, fn := f70, uq := false, total := false }
def f70_E : Env := [(20, f20_e)]
def f70_A : Anns := { loops := [(1048576, { tms := [(0, .keep), (3, .ref 1053703), (4, .data false (.int .i64))], obs := [(1053703, .arr (.uniq) (.sl (.int .i64)))], fz := [] })], own := [] }
theorem f70_run (a0 : List (List Int)) (K : (List (List Int)) → Prop) : runF Try.prog f70_E f70_A 6 Try.f70 f70_e.doms f70_e.cods a0 K =
    (LoopP (V := Int × List (List Int) × Unit) (fun again v => (fun (again1 : Int → List (List Int) → Prop) (v1_0 : Int) (v1_1 : List (List Int)) =>
    br (lenOk (a0.length))
    (br (decide (v1_0 < ((a0.length) : Int)))
    (br (decide (0 ≤ v1_0) && decide (v1_0 < ((a0.length) : Int)))
    (f20_pre (a0.getD v1_0.toNat []) ∧
    br (roomOk ((v1_1.length) + 1) 24)
    (again1 (IntKind.i64.wrap (v1_0 + 1)) (v1_1 ++ ([(f20 (a0.getD v1_0.toNat []))] : List (List Int))))
    False)
    False)
    (K v1_1))
    True)
    (fun v1_0 v1_1 => again (v1_0, v1_1, ())) v.1 v.2.1) (0, ([] : List (List Int)), ())) := by kernel_rfl
theorem f70_t (a0 : List (List Int)) (hpre : f70_pre a0) (K : (List (List Int)) → Prop) (hK : ∀ y : List (List Int), y = f70 a0 → K y) : RunF Try.prog f70_E f70_A 6 Try.f70 f70_e.doms f70_e.cods a0 K := by
  refine ⟨?_⟩
  rw [f70_run a0 K]
  obtain ⟨h1, h2⟩ := hpre
  refine LoopP.up a0.length (fun i v => v.1 = a0.take i.toNat) (fun again i v hi0 hn hI hag => ?_) (by omega) rfl
  obtain ⟨xs, u⟩ := v
  have hI : xs = a0.take i.toNat := hI
  subst hI
  dsimp only
  rw [br_true_]
  intro _
  rw [br_dec]
  refine ⟨fun hi => ?_, fun hi => hK _ ?_⟩
  · have hil : i.toNat < a0.length := by omega
    have hlen : (a0.take i.toNat).length ≤ 1000 := by rw [List.length_take]; omega
    rw [br_false_, getD_lt hil]
    refine ⟨by simp; omega, ?_, ?_⟩
    · have := h2 _ (List.getElem_mem hil)
      show (a0[i.toNat]).length ≤ 1048576
      omega
    · rw [br_false_, roomOk_iff, wr (n := i + 1) (by omega) (by omega)]
      refine ⟨by omega, hag (_, ()) hi ?_⟩
      show a0.take i.toNat ++ [f20 a0[i.toNat]] = a0.take (i + 1).toNat
      rw [show (i + 1).toNat = i.toNat + 1 by omega, List.take_add_one, List.getElem?_eq_getElem hil]
      rfl
  · rw [f70, List.take_of_length_le (by omega)]
theorem f70_fn : f70_e.fn = f70 := rfl
theorem f70_ok : EntryOK Try.prog 70 f70_e := by
  refine entryF progOK (EnvOK.cons f20_ok (EnvOK.nil)) (A := f70_A) (d := 6) Try.func70 rfl rfl rfl rfl (fun h => by cases h) fun x hpre => ?_
  exact f70_t x hpre _ fun _ h => h.trans (congrFun f70_fn.symm _)
end Go.Proofs.Ytglokajinehbmaa
end

section
namespace Go.Proofs.Ytglokajinehbmaa
open Go Go.Pi Go.RowKit
set_option maxRecDepth 100000
set_option linter.unusedVariables false
set_option linter.unusedSimpArgs false

def f19 (r : List (List Int) × List (List Int)) : List (List Int) × List (List Int) := r
def f19_pre (r : List (List Int) × List (List Int)) : Prop := f70_pre r.1 ∧ f70_pre r.2
def f19_e : Entry := { doms := [(true, (.pair (.sl (.sl (.int .i64))) (.sl (.sl (.int .i64)))))], cods := [(true, (.pair (.sl (.sl (.int .i64))) (.sl (.sl (.int .i64)))))], pre := f19_pre, fn := f19, uq := false, total := false }
def f19_E : Env := [(70, f70_e)]
def f19_A : Anns := { loops := [], own := [] }
theorem f19_run (a0 : List (List Int) × List (List Int)) (K : (List (List Int) × List (List Int)) → Prop) : runF Try.prog f19_E f19_A 6 Try.f19 f19_e.doms f19_e.cods a0 K =
    (f70_pre a0.1 ∧
    f70_pre a0.2 ∧
    K ((f70 a0.1), (f70 a0.2))) := by kernel_rfl
theorem f19_t (a0 : List (List Int) × List (List Int)) (hpre : f19_pre a0) (K : (List (List Int) × List (List Int)) → Prop) (hK : ∀ y : List (List Int) × List (List Int), y = f19 a0 → K y) : RunF Try.prog f19_E f19_A 6 Try.f19 f19_e.doms f19_e.cods a0 K := by
  refine ⟨?_⟩
  rw [f19_run a0 K]
  exact ⟨hpre.1, hpre.2, hK _ rfl⟩
theorem f19_fn : f19_e.fn = f19 := rfl
theorem f19_ok : EntryOK Try.prog 19 f19_e := by
  refine entryF progOK (EnvOK.cons f70_ok (EnvOK.nil)) (A := f19_A) (d := 6) Try.func19 rfl rfl rfl rfl (fun h => by cases h) fun x hpre => ?_
  exact f19_t x hpre _ fun _ h => h.trans (congrFun f19_fn.symm _)
end Go.Proofs.Ytglokajinehbmaa
end

section
namespace Go.Proofs.Ytglokajinehbmaa
open Go Go.Pi Go.RowKit
set_option maxRecDepth 100000
set_option linter.unusedVariables false
set_option linter.unusedSimpArgs false

def f23 (l : List (ByteArray × Int × Int × Int × Int)) : List (ByteArray × Int × Int × Int × Int) := l
def f23_pre (l : List (ByteArray × Int × Int × Int × Int)) : Prop := l.length ≤ 1000
def f23_e : Entry := { doms := [(false, (.sl (.pair .str (.pair (.int .i64) (.pair (.int .i64) (.pair (.int .i64) (.int .i64)))))))], cods := [(false, (.sl (.pair .str (.pair (.int .i64) (.pair (.int .i64) (.pair (.int .i64) (.int .i64)))))))], pre := f23_pre, fn := f23, uq := false, total := false }
def f23_E : Env := []
def f23_A : Anns := { loops := [], own := [] }
theorem f23_run (a0 : List (ByteArray × Int × Int × Int × Int)) (K : (List (ByteArray × Int × Int × Int × Int)) → Prop) : runF Try.prog f23_E f23_A 6 Try.f23 f23_e.doms f23_e.cods a0 K =
    (br (roomOk (0 + (a0.length)) 48)
    (K (([] : List (ByteArray × Int × Int × Int × Int)) ++ a0))
    False) := by kernel_rfl
theorem f23_t (a0 : List (ByteArray × Int × Int × Int × Int)) (hpre : f23_pre a0) (K : (List (ByteArray × Int × Int × Int × Int)) → Prop) (hK : ∀ y : List (ByteArray × Int × Int × Int × Int), y = f23 a0 → K y) : RunF Try.prog f23_E f23_A 6 Try.f23 f23_e.doms f23_e.cods a0 K := by
  refine ⟨?_⟩
  rw [f23_run a0 K]
  have h : a0.length ≤ 1000 := hpre
  rw [br_false_, roomOk_iff]
  exact ⟨by omega, hK _ rfl⟩
theorem f23_fn : f23_e.fn = f23 := rfl
theorem f23_ok : EntryOK Try.prog 23 f23_e := by
  refine entryF progOK (EnvOK.nil) (A := f23_A) (d := 6) Try.func23 rfl rfl rfl rfl (fun h => by cases h) fun x hpre => ?_
  exact f23_t x hpre _ fun _ h => h.trans (congrFun f23_fn.symm _)
end Go.Proofs.Ytglokajinehbmaa
end

section
namespace Go.Proofs.Ytglokajinehbmaa
open Go Go.Pi Go.RowKit
set_option maxRecDepth 100000
set_option linter.unusedVariables false
set_option linter.unusedSimpArgs false

def f22 (l : List (ByteArray × Int × Int × Int × Int)) : Int × Int := arrOf l
def f22_pre (l : List (ByteArray × Int × Int × Int × Int)) : Prop := ∀ a ∈ l, a.1.size ≤ 1000
theorem four_errs (n k v o : Bool) : f66 [f68 (n, 4), f68 (!k, 5), f68 (v, 2), f68 (o, 9)] = if n = false then 4 else if k = true then 5 else if v = false then 2 else if o = false then 9 else 0 := by
  cases n <;> cases k <;> cases v <;> cases o <;> rfl
def f22_e : Entry := { doms := [(false, (.sl (.pair .str (.pair (.int .i64) (.pair (.int .i64) (.pair (.int .i64) (.int .i64)))))))], cods := [(false, (.int .i64)), (false, (.int .i64))], pre := f22_pre, fn := f22, uq := false, total := false }
def f22_E : Env := [(65, f65_e), (66, f66_e), (68, f68_e), (76, f76_e), (77, f77_e), (26, f26_e)]
def f22_A : Anns := { loops := [(1102734950400, { tms := [(1, .keep), (9, .keep), (10, .keep), (11, .data false (.int .i64))], obs := [(1048576, .keep)], fz := [] }),
  (1271366842923551149262244937728, { tms := [(0, .keep), (1, .keep), (7, .keep), (8, .data false (.int .i64))], obs := [(1048576, .keep), (1102734953475, .keep), (1156301407648743424, .keep)], fz := [] })], own := [] }
theorem f22_run (a0 : List (ByteArray × Int × Int × Int × Int)) (K : (Int × Int) → Prop) : runF Try.prog f22_E f22_A 6 Try.f22 f22_e.doms f22_e.cods a0 K =
    (br (lenOk (a0.length))
    (br (decide (((a0.length) : Int) > 6))
    (K (0, 8))
    (br (lenOk (a0.length))
    (LoopP (V := Int × Unit) (fun again v => (fun (again1 : Int → Prop) (v1_0 : Int) =>
    br (decide (v1_0 < ((a0.length) : Int)))
    (br (decide (0 ≤ v1_0) && decide (v1_0 < ((a0.length) : Int)))
    (br (decide ((0 : Int) ≤ 0 ∧ 0 ≤ v1_0 ∧ v1_0 ≤ ((a0.length) : Int)))
    (br (lenOk (((a0.take v1_0.toNat).drop 0).length))
    (LoopP (V := Int × Unit) (fun again v => (fun (again2 : Int → Prop) (v2_0 : Int) =>
    br (decide (v2_0 < ((((a0.take v1_0.toNat).drop 0).length) : Int)))
    (br (decide (0 ≤ v2_0) && decide (v2_0 < ((((a0.take v1_0.toNat).drop 0).length) : Int)))
    (br (((((a0.take v1_0.toNat).drop 0).getD v2_0.toNat ((⟨#[]⟩ : ByteArray), (0, (0, (0, 0))))).1).toList == ((a0.getD v1_0.toNat ((⟨#[]⟩ : ByteArray), (0, (0, (0, 0))))).1).toList)
    (br (f65 (((a0.getD v1_0.toNat ((⟨#[]⟩ : ByteArray), (0, (0, (0, 0))))).2).1, (0, 3)))
    (br (f76 ((((a0.getD v1_0.toNat ((⟨#[]⟩ : ByteArray), (0, (0, (0, 0))))).2).2).1))
    (br (f76 (((((a0.getD v1_0.toNat ((⟨#[]⟩ : ByteArray), (0, (0, (0, 0))))).2).2).2).1))
    (f77_pre ((a0.getD v1_0.toNat ((⟨#[]⟩ : ByteArray), (0, (0, (0, 0))))).1) ∧
    br ((f66 ([(f68 ((f77 ((a0.getD v1_0.toNat ((⟨#[]⟩ : ByteArray), (0, (0, (0, 0))))).1)), 4)), (f68 ((!(decide (v2_0 ≥ 0))), 5)), (f68 ((f65 (((((a0.getD v1_0.toNat ((⟨#[]⟩ : ByteArray), (0, (0, (0, 0))))).2).2).2).2, (0, 100))), 2)), (f68 ((decide ((((a0.getD v1_0.toNat ((⟨#[]⟩ : ByteArray), (0, (0, (0, 0))))).2).2).1 ≤ ((((a0.getD v1_0.toNat ((⟨#[]⟩ : ByteArray), (0, (0, (0, 0))))).2).2).2).1)), 9))] : List Int)) != 0)
    (K (v1_0, (f66 ([(f68 ((f77 ((a0.getD v1_0.toNat ((⟨#[]⟩ : ByteArray), (0, (0, (0, 0))))).1)), 4)), (f68 ((!(decide (v2_0 ≥ 0))), 5)), (f68 ((f65 (((((a0.getD v1_0.toNat ((⟨#[]⟩ : ByteArray), (0, (0, (0, 0))))).2).2).2).2, (0, 100))), 2)), (f68 ((decide ((((a0.getD v1_0.toNat ((⟨#[]⟩ : ByteArray), (0, (0, (0, 0))))).2).2).1 ≤ ((((a0.getD v1_0.toNat ((⟨#[]⟩ : ByteArray), (0, (0, (0, 0))))).2).2).2).1)), 9))] : List Int))))
    (again1 (IntKind.i64.wrap (v1_0 + 1))))
    (f77_pre ((a0.getD v1_0.toNat ((⟨#[]⟩ : ByteArray), (0, (0, (0, 0))))).1) ∧
    br ((f66 ([(f68 ((f77 ((a0.getD v1_0.toNat ((⟨#[]⟩ : ByteArray), (0, (0, (0, 0))))).1)), 4)), (f68 ((!(decide (v2_0 ≥ 0))), 5)), (f68 (false, 2)), (f68 ((decide ((((a0.getD v1_0.toNat ((⟨#[]⟩ : ByteArray), (0, (0, (0, 0))))).2).2).1 ≤ ((((a0.getD v1_0.toNat ((⟨#[]⟩ : ByteArray), (0, (0, (0, 0))))).2).2).2).1)), 9))] : List Int)) != 0)
    (K (v1_0, (f66 ([(f68 ((f77 ((a0.getD v1_0.toNat ((⟨#[]⟩ : ByteArray), (0, (0, (0, 0))))).1)), 4)), (f68 ((!(decide (v2_0 ≥ 0))), 5)), (f68 (false, 2)), (f68 ((decide ((((a0.getD v1_0.toNat ((⟨#[]⟩ : ByteArray), (0, (0, (0, 0))))).2).2).1 ≤ ((((a0.getD v1_0.toNat ((⟨#[]⟩ : ByteArray), (0, (0, (0, 0))))).2).2).2).1)), 9))] : List Int))))
    (again1 (IntKind.i64.wrap (v1_0 + 1)))))
    (f77_pre ((a0.getD v1_0.toNat ((⟨#[]⟩ : ByteArray), (0, (0, (0, 0))))).1) ∧
    br ((f66 ([(f68 ((f77 ((a0.getD v1_0.toNat ((⟨#[]⟩ : ByteArray), (0, (0, (0, 0))))).1)), 4)), (f68 ((!(decide (v2_0 ≥ 0))), 5)), (f68 (false, 2)), (f68 ((decide ((((a0.getD v1_0.toNat ((⟨#[]⟩ : ByteArray), (0, (0, (0, 0))))).2).2).1 ≤ ((((a0.getD v1_0.toNat ((⟨#[]⟩ : ByteArray), (0, (0, (0, 0))))).2).2).2).1)), 9))] : List Int)) != 0)
    (K (v1_0, (f66 ([(f68 ((f77 ((a0.getD v1_0.toNat ((⟨#[]⟩ : ByteArray), (0, (0, (0, 0))))).1)), 4)), (f68 ((!(decide (v2_0 ≥ 0))), 5)), (f68 (false, 2)), (f68 ((decide ((((a0.getD v1_0.toNat ((⟨#[]⟩ : ByteArray), (0, (0, (0, 0))))).2).2).1 ≤ ((((a0.getD v1_0.toNat ((⟨#[]⟩ : ByteArray), (0, (0, (0, 0))))).2).2).2).1)), 9))] : List Int))))
    (again1 (IntKind.i64.wrap (v1_0 + 1)))))
    (f77_pre ((a0.getD v1_0.toNat ((⟨#[]⟩ : ByteArray), (0, (0, (0, 0))))).1) ∧
    br ((f66 ([(f68 ((f77 ((a0.getD v1_0.toNat ((⟨#[]⟩ : ByteArray), (0, (0, (0, 0))))).1)), 4)), (f68 ((!(decide (v2_0 ≥ 0))), 5)), (f68 (false, 2)), (f68 ((decide ((((a0.getD v1_0.toNat ((⟨#[]⟩ : ByteArray), (0, (0, (0, 0))))).2).2).1 ≤ ((((a0.getD v1_0.toNat ((⟨#[]⟩ : ByteArray), (0, (0, (0, 0))))).2).2).2).1)), 9))] : List Int)) != 0)
    (K (v1_0, (f66 ([(f68 ((f77 ((a0.getD v1_0.toNat ((⟨#[]⟩ : ByteArray), (0, (0, (0, 0))))).1)), 4)), (f68 ((!(decide (v2_0 ≥ 0))), 5)), (f68 (false, 2)), (f68 ((decide ((((a0.getD v1_0.toNat ((⟨#[]⟩ : ByteArray), (0, (0, (0, 0))))).2).2).1 ≤ ((((a0.getD v1_0.toNat ((⟨#[]⟩ : ByteArray), (0, (0, (0, 0))))).2).2).2).1)), 9))] : List Int))))
    (again1 (IntKind.i64.wrap (v1_0 + 1)))))
    (again2 (IntKind.i64.wrap (v2_0 + 1))))
    False)
    (br (f65 (((a0.getD v1_0.toNat ((⟨#[]⟩ : ByteArray), (0, (0, (0, 0))))).2).1, (0, 3)))
    (br (f76 ((((a0.getD v1_0.toNat ((⟨#[]⟩ : ByteArray), (0, (0, (0, 0))))).2).2).1))
    (br (f76 (((((a0.getD v1_0.toNat ((⟨#[]⟩ : ByteArray), (0, (0, (0, 0))))).2).2).2).1))
    (f77_pre ((a0.getD v1_0.toNat ((⟨#[]⟩ : ByteArray), (0, (0, (0, 0))))).1) ∧
    br ((f66 ([(f68 ((f77 ((a0.getD v1_0.toNat ((⟨#[]⟩ : ByteArray), (0, (0, (0, 0))))).1)), 4)), (f68 (true, 5)), (f68 ((f65 (((((a0.getD v1_0.toNat ((⟨#[]⟩ : ByteArray), (0, (0, (0, 0))))).2).2).2).2, (0, 100))), 2)), (f68 ((decide ((((a0.getD v1_0.toNat ((⟨#[]⟩ : ByteArray), (0, (0, (0, 0))))).2).2).1 ≤ ((((a0.getD v1_0.toNat ((⟨#[]⟩ : ByteArray), (0, (0, (0, 0))))).2).2).2).1)), 9))] : List Int)) != 0)
    (K (v1_0, (f66 ([(f68 ((f77 ((a0.getD v1_0.toNat ((⟨#[]⟩ : ByteArray), (0, (0, (0, 0))))).1)), 4)), (f68 (true, 5)), (f68 ((f65 (((((a0.getD v1_0.toNat ((⟨#[]⟩ : ByteArray), (0, (0, (0, 0))))).2).2).2).2, (0, 100))), 2)), (f68 ((decide ((((a0.getD v1_0.toNat ((⟨#[]⟩ : ByteArray), (0, (0, (0, 0))))).2).2).1 ≤ ((((a0.getD v1_0.toNat ((⟨#[]⟩ : ByteArray), (0, (0, (0, 0))))).2).2).2).1)), 9))] : List Int))))
    (again1 (IntKind.i64.wrap (v1_0 + 1))))
    (f77_pre ((a0.getD v1_0.toNat ((⟨#[]⟩ : ByteArray), (0, (0, (0, 0))))).1) ∧
    br ((f66 ([(f68 ((f77 ((a0.getD v1_0.toNat ((⟨#[]⟩ : ByteArray), (0, (0, (0, 0))))).1)), 4)), (f68 (true, 5)), (f68 (false, 2)), (f68 ((decide ((((a0.getD v1_0.toNat ((⟨#[]⟩ : ByteArray), (0, (0, (0, 0))))).2).2).1 ≤ ((((a0.getD v1_0.toNat ((⟨#[]⟩ : ByteArray), (0, (0, (0, 0))))).2).2).2).1)), 9))] : List Int)) != 0)
    (K (v1_0, (f66 ([(f68 ((f77 ((a0.getD v1_0.toNat ((⟨#[]⟩ : ByteArray), (0, (0, (0, 0))))).1)), 4)), (f68 (true, 5)), (f68 (false, 2)), (f68 ((decide ((((a0.getD v1_0.toNat ((⟨#[]⟩ : ByteArray), (0, (0, (0, 0))))).2).2).1 ≤ ((((a0.getD v1_0.toNat ((⟨#[]⟩ : ByteArray), (0, (0, (0, 0))))).2).2).2).1)), 9))] : List Int))))
    (again1 (IntKind.i64.wrap (v1_0 + 1)))))
    (f77_pre ((a0.getD v1_0.toNat ((⟨#[]⟩ : ByteArray), (0, (0, (0, 0))))).1) ∧
    br ((f66 ([(f68 ((f77 ((a0.getD v1_0.toNat ((⟨#[]⟩ : ByteArray), (0, (0, (0, 0))))).1)), 4)), (f68 (true, 5)), (f68 (false, 2)), (f68 ((decide ((((a0.getD v1_0.toNat ((⟨#[]⟩ : ByteArray), (0, (0, (0, 0))))).2).2).1 ≤ ((((a0.getD v1_0.toNat ((⟨#[]⟩ : ByteArray), (0, (0, (0, 0))))).2).2).2).1)), 9))] : List Int)) != 0)
    (K (v1_0, (f66 ([(f68 ((f77 ((a0.getD v1_0.toNat ((⟨#[]⟩ : ByteArray), (0, (0, (0, 0))))).1)), 4)), (f68 (true, 5)), (f68 (false, 2)), (f68 ((decide ((((a0.getD v1_0.toNat ((⟨#[]⟩ : ByteArray), (0, (0, (0, 0))))).2).2).1 ≤ ((((a0.getD v1_0.toNat ((⟨#[]⟩ : ByteArray), (0, (0, (0, 0))))).2).2).2).1)), 9))] : List Int))))
    (again1 (IntKind.i64.wrap (v1_0 + 1)))))
    (f77_pre ((a0.getD v1_0.toNat ((⟨#[]⟩ : ByteArray), (0, (0, (0, 0))))).1) ∧
    br ((f66 ([(f68 ((f77 ((a0.getD v1_0.toNat ((⟨#[]⟩ : ByteArray), (0, (0, (0, 0))))).1)), 4)), (f68 (true, 5)), (f68 (false, 2)), (f68 ((decide ((((a0.getD v1_0.toNat ((⟨#[]⟩ : ByteArray), (0, (0, (0, 0))))).2).2).1 ≤ ((((a0.getD v1_0.toNat ((⟨#[]⟩ : ByteArray), (0, (0, (0, 0))))).2).2).2).1)), 9))] : List Int)) != 0)
    (K (v1_0, (f66 ([(f68 ((f77 ((a0.getD v1_0.toNat ((⟨#[]⟩ : ByteArray), (0, (0, (0, 0))))).1)), 4)), (f68 (true, 5)), (f68 (false, 2)), (f68 ((decide ((((a0.getD v1_0.toNat ((⟨#[]⟩ : ByteArray), (0, (0, (0, 0))))).2).2).1 ≤ ((((a0.getD v1_0.toNat ((⟨#[]⟩ : ByteArray), (0, (0, (0, 0))))).2).2).2).1)), 9))] : List Int))))
    (again1 (IntKind.i64.wrap (v1_0 + 1))))))
    (fun v2_0 => again (v2_0, ())) v.1) (0, ()))
    True)
    False)
    False)
    (K (0, 0)))
    (fun v1_0 => again (v1_0, ())) v.1) (0, ()))
    True))
    True) := by kernel_rfl
theorem f22_t (a0 : List (ByteArray × Int × Int × Int × Int)) (hpre : f22_pre a0) (K : (Int × Int) → Prop) (hK : ∀ y : Int × Int, y = f22 a0 → K y) : RunF Try.prog f22_E f22_A 6 Try.f22 f22_e.doms f22_e.cods a0 K := by
  refine ⟨?_⟩
  rw [f22_run a0 K]
  have hd : ((⟨#[]⟩ : ByteArray), ((0 : Int), ((0 : Int), ((0 : Int), (0 : Int))))) = arrD := rfl
  simp only [hd]
  rw [br_true_]
  intro _
  rw [br_dec]
  refine ⟨fun h => hK _ ?_, fun h => ?_⟩
  · rw [f22, arrOf, if_pos (by omega)]
  have h6 : ¬ a0.length > 6 := by omega
  rw [br_true_]
  intro _
  refine each_loop (K := K) (n := a0.length) (e := arrE a0) (hK _ (by rw [f22, arrOf, if_neg h6])) (fun again i hi hI good bad fin => ?_)
  dsimp only
  rw [br_dec]
  refine ⟨fun h1 => ?_, fun h1 => fin (by omega)⟩
  have hlt : i < a0.length := by omega
  have b0 : (decide (0 ≤ (i : Int)) && decide ((i : Int) < (a0.length : Int))) = true := inb (by omega) (by omega)
  rw [b0, br_t, br_false_]
  refine ⟨by simp; omega, ?_⟩
  simp only [Int.toNat_natCast, List.drop_zero]
  have hpre77 : f77_pre (a0.getD i arrD).1 := by
    rw [getD_lt hlt]
    exact hpre _ (List.getElem_mem _)
  have htl : (a0.take i).length = i := by rw [List.length_take]; omega
  have leaf : ∀ X : Int, X = arrE a0 i → br (X != 0) (K ((i : Int), X)) (again (IntKind.i64.wrap ((i : Int) + 1), ())) := fun X hX => by
    rw [wr (n := (i : Int) + 1) (by omega) (by omega), br_both]
    subst hX
    exact ⟨fun h => bad hlt (by simpa using h), fun h => good hlt (by simpa using h)⟩
  have e77 : f77 (a0.getD i arrD).1 = nameOK (a0.getD i arrD).1 := rfl
  have e76 : ∀ n : Int, f76 n = true ↔ 0 ≤ n ∧ n ≤ 100000 := fun n => by simp [f76]
  -- what follows, known or not
  have tail : ∀ kb : Bool, kb = knownA a0 i → ∀ nk : Bool, nk = (!kb) →
      br (f65 ((a0.getD i arrD).2.1, 0, 3))
        (br (f76 (a0.getD i arrD).2.2.1)
          (br (f76 (a0.getD i arrD).2.2.2.1)
            (f77_pre (a0.getD i arrD).1 ∧ br (f66 [f68 (f77 (a0.getD i arrD).1, 4), f68 (nk, 5), f68 (f65 ((a0.getD i arrD).2.2.2.2, 0, 100), 2), f68 (decide ((a0.getD i arrD).2.2.1 ≤ (a0.getD i arrD).2.2.2.1), 9)] != 0)
              (K ((i : Int), f66 [f68 (f77 (a0.getD i arrD).1, 4), f68 (nk, 5), f68 (f65 ((a0.getD i arrD).2.2.2.2, 0, 100), 2), f68 (decide ((a0.getD i arrD).2.2.1 ≤ (a0.getD i arrD).2.2.2.1), 9)]))
              (again (IntKind.i64.wrap ((i : Int) + 1), ())))
            (f77_pre (a0.getD i arrD).1 ∧ br (f66 [f68 (f77 (a0.getD i arrD).1, 4), f68 (nk, 5), f68 (false, 2), f68 (decide ((a0.getD i arrD).2.2.1 ≤ (a0.getD i arrD).2.2.2.1), 9)] != 0)
              (K ((i : Int), f66 [f68 (f77 (a0.getD i arrD).1, 4), f68 (nk, 5), f68 (false, 2), f68 (decide ((a0.getD i arrD).2.2.1 ≤ (a0.getD i arrD).2.2.2.1), 9)]))
              (again (IntKind.i64.wrap ((i : Int) + 1), ()))))
          (f77_pre (a0.getD i arrD).1 ∧ br (f66 [f68 (f77 (a0.getD i arrD).1, 4), f68 (nk, 5), f68 (false, 2), f68 (decide ((a0.getD i arrD).2.2.1 ≤ (a0.getD i arrD).2.2.2.1), 9)] != 0)
              (K ((i : Int), f66 [f68 (f77 (a0.getD i arrD).1, 4), f68 (nk, 5), f68 (false, 2), f68 (decide ((a0.getD i arrD).2.2.1 ≤ (a0.getD i arrD).2.2.2.1), 9)]))
              (again (IntKind.i64.wrap ((i : Int) + 1), ()))))
        (f77_pre (a0.getD i arrD).1 ∧ br (f66 [f68 (f77 (a0.getD i arrD).1, 4), f68 (nk, 5), f68 (false, 2), f68 (decide ((a0.getD i arrD).2.2.1 ≤ (a0.getD i arrD).2.2.2.1), 9)] != 0)
              (K ((i : Int), f66 [f68 (f77 (a0.getD i arrD).1, 4), f68 (nk, 5), f68 (false, 2), f68 (decide ((a0.getD i arrD).2.2.1 ≤ (a0.getD i arrD).2.2.2.1), 9)]))
              (again (IntKind.i64.wrap ((i : Int) + 1), ()))) := by
    intro kb hkb nk hnk
    subst hnk
    have key : ∀ vb : Bool, (vb = true ↔ arrV (a0.getD i arrD)) → f66 [f68 (f77 (a0.getD i arrD).1, 4), f68 (!kb, 5), f68 (vb, 2), f68 (decide ((a0.getD i arrD).2.2.1 ≤ (a0.getD i arrD).2.2.2.1), 9)] = arrE a0 i := fun vb hvb => by
      rw [four_errs, e77, arrE, hkb]
      by_cases hN : nameOK (a0.getD i arrD).1 = false
      · rw [if_pos hN, if_pos hN]
      rw [if_neg hN, if_neg hN]
      by_cases hk : knownA a0 i = true
      · rw [if_pos hk, if_pos hk]
      rw [if_neg hk, if_neg hk]
      by_cases hv : arrV (a0.getD i arrD)
      · rw [hvb.2 hv, if_neg (show ¬ (true = false) by decide), if_neg (fun hh : ¬ arrV (a0.getD i arrD) => hh hv)]
        by_cases ho : (a0.getD i arrD).2.2.1 ≤ (a0.getD i arrD).2.2.2.1
        · rw [decide_eq_true ho, if_neg (show ¬ (true = false) by decide), if_neg (by omega)]
        · rw [decide_eq_false ho, if_pos rfl, if_pos (by omega)]
      · rw [if_pos (show vb = false by rw [← Bool.not_eq_true, hvb]; exact hv), if_pos hv]
    have no : ¬ arrV (a0.getD i arrD) → (false = true ↔ arrV (a0.getD i arrD)) := fun hv => ⟨fun h => (by cases h), fun h => (hv h).elim⟩
    rw [br_both]
    refine ⟨fun h1 => br_both.2 ⟨fun h2 => br_both.2 ⟨fun h3 => ⟨hpre77, leaf _ (key _ ⟨fun h4 => ⟨f65_t1.1 h1, (e76 _).1 h2, (e76 _).1 h3, f65_t1.1 h4⟩, fun hv => f65_t1.2 hv.2.2.2⟩)⟩, fun h3 => ⟨hpre77, leaf _ (key _ (no fun hv => ?_))⟩⟩, fun h2 => ⟨hpre77, leaf _ (key _ (no fun hv => ?_))⟩⟩, fun h1 => ⟨hpre77, leaf _ (key _ (no fun hv => f65_f1.1 h1 hv.1))⟩⟩
    · rw [(e76 _).2 hv.2.2.1] at h3; cases h3
    · rw [(e76 _).2 hv.2.1] at h2; cases h2
  rw [br_true_]
  intro _
  refine LoopP.up i (fun k _ => ∀ j < k.toNat, ((a0.getD j arrD).1.toList == (a0.getD i arrD).1.toList) = false) (fun again2 k v hk0 hk1 hJ hag2 => ?_) (by omega) (fun j hj => by simp at hj)
  dsimp only
  rw [htl, br_dec]
  refine ⟨fun hk => ?_, fun hk => ?_⟩
  · have hget : (a0.take i).getD k.toNat arrD = a0.getD k.toNat arrD := by
      rw [getD_lt (by omega), getD_lt (by omega), List.getElem_take]
    rw [br_false_, hget]
    refine ⟨inb hk0 hk, ?_⟩
    rw [br_both]
    refine ⟨fun he => ?_, fun he => ?_⟩
    · have hk5 : knownA a0 i = true := List.any_eq_true.2 ⟨k.toNat, List.mem_range.2 (by omega), he⟩
      have hge : (!(decide (k ≥ 0))) = false := by simp [hk0]
      rw [hge]
      exact tail true hk5.symm false rfl
    · rw [wr (n := k + 1) (by omega) (by omega)]
      refine hag2 () hk fun j hj => ?_
      by_cases hjk : j = k.toNat
      · rw [hjk]; exact he
      · exact hJ j (by omega)
  · have hk5 : knownA a0 i = false := by
      rw [← Bool.not_eq_true]
      intro hh
      obtain ⟨j, hj, he⟩ := List.any_eq_true.1 hh
      have hj := List.mem_range.1 hj
      rw [hJ j (by omega)] at he
      cases he
    exact tail false hk5.symm true rfl
theorem f22_fn : f22_e.fn = f22 := rfl
theorem f22_ok : EntryOK Try.prog 22 f22_e := by
  refine entryF progOK (EnvOK.cons f65_ok (EnvOK.cons f66_ok (EnvOK.cons f68_ok (EnvOK.cons f76_ok (EnvOK.cons f77_ok (EnvOK.cons f26_ok (EnvOK.nil))))))) (A := f22_A) (d := 6) Try.func22 rfl rfl rfl rfl (fun h => by cases h) fun x hpre => ?_
  exact f22_t x hpre _ fun _ h => h.trans (congrFun f22_fn.symm _)
end Go.Proofs.Ytglokajinehbmaa
end

section
namespace Go.Proofs.Ytglokajinehbmaa
open Go Go.Pi Go.RowKit
set_option maxRecDepth 100000
set_option linter.unusedVariables false
set_option linter.unusedSimpArgs false

def f25 (p : (List (List Int) × List (List Int)) × List (ByteArray × Int × Int × Int × Int) × List Int) : (List (List Int) × List (List Int)) × List (ByteArray × Int × Int × Int × Int) × List Int := p
def f25_pre (p : (List (List Int) × List (List Int)) × List (ByteArray × Int × Int × Int × Int) × List Int) : Prop := f19_pre p.1 ∧ f23_pre p.2.1 ∧ p.2.2.length ≤ 1000
theorem few_pre {r : List (List Int) × List (List Int)} (h : f14 r = true) : f19_pre r := by
  unfold f14 at h
  obtain ⟨⟨h1, h2⟩, h3, h4⟩ := of_decide_eq_true h
  exact ⟨⟨by omega, fun x hx => by have := h3 x hx; omega⟩, ⟨by omega, fun x hx => by have := h4 x hx; omega⟩⟩
theorem small_pre {p : (List (List Int) × List (List Int)) × List (ByteArray × Int × Int × Int × Int) × List Int} (h : f21 p = true) : f25_pre p ∧ f23_pre p.2.1 ∧ f22_pre p.2.1 := by
  unfold f21 at h
  simp only [Bool.and_eq_true, decide_eq_true_eq] at h
  obtain ⟨h1, h2, h3⟩ := h
  unfold f71 at h2
  obtain ⟨h4, h5⟩ := of_decide_eq_true h2
  have e23 : f23_pre p.2.1 := by show p.2.1.length ≤ 1000; omega
  exact ⟨⟨few_pre h1, e23, by omega⟩, e23, fun a ha => by have := h5 a ha; omega⟩
def f25_e : Entry := { doms := [(true, (.pair (.pair (.sl (.sl (.int .i64))) (.sl (.sl (.int .i64)))) (.pair (.sl (.pair .str (.pair (.int .i64) (.pair (.int .i64) (.pair (.int .i64) (.int .i64)))))) (.sl (.int .i64)))))], cods := [(true, (.pair (.pair (.sl (.sl (.int .i64))) (.sl (.sl (.int .i64)))) (.pair (.sl (.pair .str (.pair (.int .i64) (.pair (.int .i64) (.pair (.int .i64) (.int .i64)))))) (.sl (.int .i64)))))], pre := f25_pre, fn := f25, uq := false, total := false }
def f25_E : Env := [(19, f19_e), (20, f20_e), (23, f23_e), (21, f21_e), (14, f14_e), (71, f71_e), (22, f22_e)]
def f25_A : Anns := { loops := [], own := [] }
theorem f25_run (a0 : (List (List Int) × List (List Int)) × List (ByteArray × Int × Int × Int × Int) × List Int) (K : ((List (List Int) × List (List Int)) × List (ByteArray × Int × Int × Int × Int) × List Int) → Prop) : runF Try.prog f25_E f25_A 6 Try.f25 f25_e.doms f25_e.cods a0 K =
    (f19_pre a0.1 ∧
    f23_pre a0.2.1 ∧
    f20_pre a0.2.2 ∧
    K ((f19 a0.1), ((f23 a0.2.1), (f20 a0.2.2)))) := by kernel_rfl
theorem f25_t (a0 : (List (List Int) × List (List Int)) × List (ByteArray × Int × Int × Int × Int) × List Int) (hpre : f25_pre a0) (K : ((List (List Int) × List (List Int)) × List (ByteArray × Int × Int × Int × Int) × List Int) → Prop) (hK : ∀ y : (List (List Int) × List (List Int)) × List (ByteArray × Int × Int × Int × Int) × List Int, y = f25 a0 → K y) : RunF Try.prog f25_E f25_A 6 Try.f25 f25_e.doms f25_e.cods a0 K := by
  refine ⟨?_⟩
  rw [f25_run a0 K]
  obtain ⟨h1, h2, h3⟩ := hpre
  exact ⟨h1, h2, show a0.2.2.length ≤ 1048576 from Nat.le_trans h3 (by omega), hK _ rfl⟩
theorem f25_fn : f25_e.fn = f25 := rfl
theorem f25_ok : EntryOK Try.prog 25 f25_e := by
  refine entryF progOK (EnvOK.cons f19_ok (EnvOK.cons f20_ok (EnvOK.cons f23_ok (EnvOK.cons f21_ok (EnvOK.cons f14_ok (EnvOK.cons f71_ok (EnvOK.cons f22_ok (EnvOK.nil)))))))) (A := f25_A) (d := 6) Try.func25 rfl rfl rfl rfl (fun h => by cases h) fun x hpre => ?_
  exact f25_t x hpre _ fun _ h => h.trans (congrFun f25_fn.symm _)
end Go.Proofs.Ytglokajinehbmaa
end

section
namespace Go.Proofs.Ytglokajinehbmaa
open Go Go.Pi Go.RowKit
set_option maxRecDepth 100000
set_option linter.unusedVariables false
set_option linter.unusedSimpArgs false

def f28 (r : List (List Int) × List (List Int)) : Int × Int := ruleOf r
def f28_e : Entry := { doms := [(true, (.pair (.sl (.sl (.int .i64))) (.sl (.sl (.int .i64)))))], cods := [(false, (.int .i64)), (false, (.int .i64))], pre := fun _ => True, fn := f28, uq := false, total := true }
def f28_E : Env := [(65, f65_e), (66, f66_e), (68, f68_e), (30, f30_e), (17, f17_e)]
def f28_A : Anns := { loops := [(1104883482624, { tms := [(1, .keep), (9, .keep), (10, .keep), (11, .data false (.int .i64))], obs := [(1048576, .keep), (1049603, .keep)], fz := [] }),
  (1214832240989632511082496, { tms := [(1, .keep), (9, .keep), (10, .keep), (11, .data false (.int .i64))], obs := [(1048576, .keep), (1049603, .keep), (1158554306974057477, .keep)], fz := [] })], own := [] }
theorem f28_run (a0 : List (List Int) × List (List Int)) (K : (Int × Int) → Prop) : runF Try.prog f28_E f28_A 6 Try.f28 f28_e.doms f28_e.cods a0 K =
    (br (lenOk (a0.1.length))
    (br (decide (((a0.1.length) : Int) > 0))
    (br (lenOk (a0.2.length))
    (br ((f66 ([(f68 ((((a0.2.length) : Int) == ((a0.1.length) : Int)), 10)), (f68 ((decide (((a0.1.length) : Int) ≤ 4)), 8))] : List Int)) != 0)
    (K (0, (f66 ([(f68 ((((a0.2.length) : Int) == ((a0.1.length) : Int)), 10)), (f68 ((decide (((a0.1.length) : Int) ≤ 4)), 8))] : List Int))))
    (br (lenOk (a0.1.length))
    (LoopP (V := Int × Unit) (fun again v => (fun (again1 : Int → Prop) (v1_0 : Int) =>
    br (decide (v1_0 < ((a0.1.length) : Int)))
    (br (decide (0 ≤ v1_0) && decide (v1_0 < ((a0.1.length) : Int)))
    (br (decide (0 ≤ v1_0) && decide (v1_0 < ((a0.2.length) : Int)))
    (br (lenOk ((a0.1.getD v1_0.toNat []).length))
    (br ((((a0.1.getD v1_0.toNat []).length) : Int) != ((a0.1.length) : Int))
    (K (v1_0, 10))
    (br (lenOk ((a0.2.getD v1_0.toNat []).length))
    (br ((((a0.2.getD v1_0.toNat []).length) : Int) != ((a0.1.length) : Int))
    (K (v1_0, 10))
    (br (lenOk ((a0.1.getD v1_0.toNat []).length))
    (LoopP (V := Int × Unit) (fun again v => (fun (again2 : Int → Prop) (v2_0 : Int) =>
    br (decide (v2_0 < (((a0.1.getD v1_0.toNat []).length) : Int)))
    (br (decide (0 ≤ v2_0) && decide (v2_0 < (((a0.1.getD v1_0.toNat []).length) : Int)))
    (br (f65 (((a0.1.getD v1_0.toNat []).getD v2_0.toNat 0), (0, 600)))
    (br (decide (0 ≤ v2_0) && decide (v2_0 < (((a0.2.getD v1_0.toNat []).length) : Int)))
    (br ((f68 ((f65 (((a0.2.getD v1_0.toNat []).getD v2_0.toNat 0), (0, ((a0.1.getD v1_0.toNat []).getD v2_0.toNat 0)))), 2)) != 0)
    (br ((f68 ((f65 (((a0.2.getD v1_0.toNat []).getD v2_0.toNat 0), (0, ((a0.1.getD v1_0.toNat []).getD v2_0.toNat 0)))), 2)) != 0)
    (K (v1_0, (f68 ((f65 (((a0.2.getD v1_0.toNat []).getD v2_0.toNat 0), (0, ((a0.1.getD v1_0.toNat []).getD v2_0.toNat 0)))), 2))))
    (again1 (IntKind.i64.wrap (v1_0 + 1))))
    (again2 (IntKind.i64.wrap (v2_0 + 1))))
    False)
    (br ((f68 (false, 2)) != 0)
    (br ((f68 (false, 2)) != 0)
    (K (v1_0, (f68 (false, 2))))
    (again1 (IntKind.i64.wrap (v1_0 + 1))))
    (again2 (IntKind.i64.wrap (v2_0 + 1)))))
    False)
    (again1 (IntKind.i64.wrap (v1_0 + 1))))
    (fun v2_0 => again (v2_0, ())) v.1) (0, ()))
    True))
    True))
    True)
    False)
    False)
    (K (0, 0)))
    (fun v1_0 => again (v1_0, ())) v.1) (0, ()))
    True))
    True)
    (br ((f66 ([(f68 (false, 10)), (f68 ((decide (((a0.1.length) : Int) ≤ 4)), 8))] : List Int)) != 0)
    (K (0, (f66 ([(f68 (false, 10)), (f68 ((decide (((a0.1.length) : Int) ≤ 4)), 8))] : List Int))))
    (br (lenOk (a0.1.length))
    (LoopP (V := Int × Unit) (fun again v => (fun (again3 : Int → Prop) (v3_0 : Int) =>
    br (decide (v3_0 < ((a0.1.length) : Int)))
    (br (decide (0 ≤ v3_0) && decide (v3_0 < ((a0.1.length) : Int)))
    (br (decide (0 ≤ v3_0) && decide (v3_0 < ((a0.2.length) : Int)))
    (br (lenOk ((a0.1.getD v3_0.toNat []).length))
    (br ((((a0.1.getD v3_0.toNat []).length) : Int) != ((a0.1.length) : Int))
    (K (v3_0, 10))
    (br (lenOk ((a0.2.getD v3_0.toNat []).length))
    (br ((((a0.2.getD v3_0.toNat []).length) : Int) != ((a0.1.length) : Int))
    (K (v3_0, 10))
    (br (lenOk ((a0.1.getD v3_0.toNat []).length))
    (LoopP (V := Int × Unit) (fun again v => (fun (again4 : Int → Prop) (v4_0 : Int) =>
    br (decide (v4_0 < (((a0.1.getD v3_0.toNat []).length) : Int)))
    (br (decide (0 ≤ v4_0) && decide (v4_0 < (((a0.1.getD v3_0.toNat []).length) : Int)))
    (br (f65 (((a0.1.getD v3_0.toNat []).getD v4_0.toNat 0), (0, 600)))
    (br (decide (0 ≤ v4_0) && decide (v4_0 < (((a0.2.getD v3_0.toNat []).length) : Int)))
    (br ((f68 ((f65 (((a0.2.getD v3_0.toNat []).getD v4_0.toNat 0), (0, ((a0.1.getD v3_0.toNat []).getD v4_0.toNat 0)))), 2)) != 0)
    (br ((f68 ((f65 (((a0.2.getD v3_0.toNat []).getD v4_0.toNat 0), (0, ((a0.1.getD v3_0.toNat []).getD v4_0.toNat 0)))), 2)) != 0)
    (K (v3_0, (f68 ((f65 (((a0.2.getD v3_0.toNat []).getD v4_0.toNat 0), (0, ((a0.1.getD v3_0.toNat []).getD v4_0.toNat 0)))), 2))))
    (again3 (IntKind.i64.wrap (v3_0 + 1))))
    (again4 (IntKind.i64.wrap (v4_0 + 1))))
    False)
    (br ((f68 (false, 2)) != 0)
    (br ((f68 (false, 2)) != 0)
    (K (v3_0, (f68 (false, 2))))
    (again3 (IntKind.i64.wrap (v3_0 + 1))))
    (again4 (IntKind.i64.wrap (v4_0 + 1)))))
    False)
    (again3 (IntKind.i64.wrap (v3_0 + 1))))
    (fun v4_0 => again (v4_0, ())) v.1) (0, ()))
    True))
    True))
    True)
    False)
    False)
    (K (0, 0)))
    (fun v3_0 => again (v3_0, ())) v.1) (0, ()))
    True)))
    True) := by kernel_rfl
theorem f28_t (a0 : List (List Int) × List (List Int)) (K : (Int × Int) → Prop) (hK : ∀ y : Int × Int, y = f28 a0 → K y) : RunF Try.prog f28_E f28_A 6 Try.f28 f28_e.doms f28_e.cods a0 K := by
  refine ⟨?_⟩
  rw [f28_run a0 K]
  have e68 : f68 (false, 2) = 2 := rfl
  have e68' : f68 (false, 10) = 10 := rfl
  -- the rows
  have rows : ¬ (a0.1.length = 0 ∨ a0.2.length ≠ a0.1.length) → ¬ a0.1.length > 4 → LoopP (V := Int × Unit) (fun again v => (fun (again1 : Int → Prop) (v1_0 : Int) =>
    br (decide (v1_0 < ((a0.1.length) : Int)))
    (br (decide (0 ≤ v1_0) && decide (v1_0 < ((a0.1.length) : Int)))
    (br (decide (0 ≤ v1_0) && decide (v1_0 < ((a0.2.length) : Int)))
    (br (lenOk ((a0.1.getD v1_0.toNat []).length))
    (br ((((a0.1.getD v1_0.toNat []).length) : Int) != ((a0.1.length) : Int))
    (K (v1_0, 10))
    (br (lenOk ((a0.2.getD v1_0.toNat []).length))
    (br ((((a0.2.getD v1_0.toNat []).length) : Int) != ((a0.1.length) : Int))
    (K (v1_0, 10))
    (br (lenOk ((a0.1.getD v1_0.toNat []).length))
    (LoopP (V := Int × Unit) (fun again v => (fun (again2 : Int → Prop) (v2_0 : Int) =>
    br (decide (v2_0 < (((a0.1.getD v1_0.toNat []).length) : Int)))
    (br (decide (0 ≤ v2_0) && decide (v2_0 < (((a0.1.getD v1_0.toNat []).length) : Int)))
    (br (f65 (((a0.1.getD v1_0.toNat []).getD v2_0.toNat 0), (0, 600)))
    (br (decide (0 ≤ v2_0) && decide (v2_0 < (((a0.2.getD v1_0.toNat []).length) : Int)))
    (br ((f68 ((f65 (((a0.2.getD v1_0.toNat []).getD v2_0.toNat 0), (0, ((a0.1.getD v1_0.toNat []).getD v2_0.toNat 0)))), 2)) != 0)
    (br ((f68 ((f65 (((a0.2.getD v1_0.toNat []).getD v2_0.toNat 0), (0, ((a0.1.getD v1_0.toNat []).getD v2_0.toNat 0)))), 2)) != 0)
    (K (v1_0, (f68 ((f65 (((a0.2.getD v1_0.toNat []).getD v2_0.toNat 0), (0, ((a0.1.getD v1_0.toNat []).getD v2_0.toNat 0)))), 2))))
    (again1 (IntKind.i64.wrap (v1_0 + 1))))
    (again2 (IntKind.i64.wrap (v2_0 + 1))))
    False)
    (br ((f68 (false, 2)) != 0)
    (br ((f68 (false, 2)) != 0)
    (K (v1_0, (f68 (false, 2))))
    (again1 (IntKind.i64.wrap (v1_0 + 1))))
    (again2 (IntKind.i64.wrap (v2_0 + 1)))))
    False)
    (again1 (IntKind.i64.wrap (v1_0 + 1))))
    (fun v2_0 => again (v2_0, ())) v.1) (0, ()))
    True))
    True))
    True)
    False)
    False)
    (K (0, 0)))
    (fun v1_0 => again (v1_0, ())) v.1) (0, ()) := by
    intro hn h4
    refine each_loop (K := K) (n := a0.1.length) (e := rowE a0) (hK _ (by rw [f28, ruleOf, if_neg hn, if_neg h4])) (fun again i hi hI good bad fin => ?_)
    dsimp only
    rw [br_dec]
    refine ⟨fun h1 => ?_, fun h1 => fin (by omega)⟩
    have hlt : i < a0.1.length := by omega
    have b0 : (decide (0 ≤ (i : Int)) && decide ((i : Int) < (a0.1.length : Int))) = true := inb (by omega) (by omega)
    have b1 : (decide (0 ≤ (i : Int)) && decide ((i : Int) < (a0.2.length : Int))) = true := inb (by omega) (by omega)
    rw [b0, b1]
    simp only [Int.toNat_natCast, br_t]
    have ten : ((a0.1.getD i []).length ≠ a0.1.length ∨ (a0.2.getD i []).length ≠ a0.1.length) → K ((i : Int), 10) := fun hc => by
      have e : rowE a0 i = 10 := if_pos hc
      have := bad hlt (by rw [e]; decide)
      rwa [e] at this
    rw [br_true_]
    intro _
    rw [br_both]
    refine ⟨fun h => ten (.inl (cast_ne.1 h)), fun h => ?_⟩
    have hA := cast_ne_f.1 h
    rw [br_true_]
    intro _
    rw [br_both]
    refine ⟨fun h => ten (.inr (cast_ne.1 h)), fun h => ?_⟩
    have hB := cast_ne_f.1 h
    rw [br_true_]
    intro _
    have hne : ¬ ((a0.1.getD i []).length ≠ a0.1.length ∨ (a0.2.getD i []).length ≠ a0.1.length) := by omega
    refine LoopP.up a0.1.length (fun k _ => ∀ j < k.toNat, rowP a0 i j) (fun again2 k v hk0 hk1 hJ hag2 => ?_) (by omega) (fun j hj => by simp at hj)
    dsimp only
    rw [br_dec]
    refine ⟨fun hk => ?_, fun hk => ?_⟩
    · have c0 : (decide (0 ≤ k) && decide (k < ((a0.1.getD i []).length : Int))) = true := inb hk0 (by omega)
      have c1 : (decide (0 ≤ k) && decide (k < ((a0.2.getD i []).length : Int))) = true := inb hk0 (by omega)
      rw [c0, c1]
      simp only [br_t, e68]
      have two : ¬ rowP a0 i k.toNat → K ((i : Int), 2) := fun hr => by
        have e : rowE a0 i = 2 := by rw [rowE, if_neg hne, if_neg fun hh => hr (hh k.toNat (by omega))]
        have := bad hlt (by rw [e]; decide)
        rwa [e] at this
      rw [br_both]
      refine ⟨fun h => ?_, fun h => ?_⟩
      · have h3 := f65_t1.1 h
        cases h5 : f65 ((a0.2.getD i []).getD k.toNat 0, 0, (a0.1.getD i []).getD k.toNat 0) with
        | false => exact two fun hr => f65_f1.1 h5 hr.2
        | true =>
          show again2 _
          rw [wr (n := k + 1) (by omega) (by omega)]
          refine hag2 () (by omega) fun j hj => ?_
          by_cases hjk : j = k.toNat
          · rw [hjk]; exact ⟨h3, f65_t1.1 h5⟩
          · exact hJ j (by omega)
      · exact two fun hr => f65_f1.1 h hr.1
    · rw [wr (n := (i : Int) + 1) (by omega) (by omega)]
      refine good hlt ?_
      rw [rowE, if_neg hne, if_pos fun j hj => hJ j (by omega)]
  simp only [e68']
  rw [br_true_]
  intro _
  rw [br_dec]
  refine ⟨fun h0 => ?_, fun h0 => hK _ ?_⟩
  · rw [br_true_]
    intro _
    have hf : f66 [f68 ((a0.2.length : Int) == (a0.1.length : Int), 10), f68 (decide ((a0.1.length : Int) ≤ 4), 8)] = if a0.2.length ≠ a0.1.length then 10 else if a0.1.length > 4 then 8 else 0 := by
      simp only [f66_cons, f66_nil, f68]
      by_cases h1 : a0.2.length = a0.1.length
      · rw [cast_eq.2 h1]
        by_cases h2 : a0.1.length > 4
        · have : ¬ ((a0.1.length : Int) ≤ 4) := by omega
          simp [h1, h2, this]
        · have : ((a0.1.length : Int) ≤ 4) := by omega
          simp [h1, h2, this]
      · rw [cast_eq_f.2 h1]
        simp [h1]
    rw [hf]
    by_cases h1 : a0.2.length ≠ a0.1.length
    · rw [if_pos h1]
      exact hK _ (by rw [f28, ruleOf, if_pos (.inr h1)])
    · rw [if_neg h1]
      by_cases h2 : a0.1.length > 4
      · rw [if_pos h2]
        exact hK _ (by rw [f28, ruleOf, if_neg (by omega), if_pos h2])
      · rw [if_neg h2]
        show br (lenOk a0.1.length) _ True
        rw [br_true_]
        intro _
        exact rows (by omega) h2
  · have : a0.1.length = 0 := by omega
    rw [f28, ruleOf, if_pos (.inl this)]
    simp only [f66_cons, f66_nil]
    simp
theorem f28_fn : f28_e.fn = f28 := rfl
theorem f28_ok : EntryOK Try.prog 28 f28_e := by
  refine entryF progOK (EnvOK.cons f65_ok (EnvOK.cons f66_ok (EnvOK.cons f68_ok (EnvOK.cons f30_ok (EnvOK.cons f17_ok (EnvOK.nil)))))) (A := f28_A) (d := 6) Try.func28 rfl rfl rfl rfl (fun _ _ => trivial) fun x hpre => ?_
  exact f28_t x _ fun _ h => h.trans (congrFun f28_fn.symm _)
end Go.Proofs.Ytglokajinehbmaa
end
