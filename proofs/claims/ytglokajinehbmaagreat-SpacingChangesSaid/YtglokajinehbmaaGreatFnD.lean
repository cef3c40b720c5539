/- What functions of the program compute, each proved once, part 4. -/
import Derived.Test.YtglokajinehbmaaGreatPiD
import Derived.Test.YtglokajinehbmaaGreatFnA

section
namespace Go.Proofs.YtglokajinehbmaaGreat
open Go Go.Pi Go.RowKit
set_option maxRecDepth 100000
set_option linter.unusedVariables false
set_option linter.unusedSimpArgs false

def f35 (r : List (List Int) × List (List Int)) : Bool := decide ((r.1.length ≤ 6 ∧ r.2.length ≤ 6) ∧ (∀ x ∈ r.1, x.length ≤ 6) ∧ ∀ x ∈ r.2, x.length ≤ 6)
def f35_e : Entry := { doms := [(true, (.pair (.sl (.sl (.int .i64))) (.sl (.sl (.int .i64)))))], cods := [(false, .bool)], pre := fun _ => True, fn := f35, uq := false, total := true }
def f35_E : Env := []
def f35_A : Anns := { loops := [(1048576, { tms := [(1, .keep), (3, .data false (.int .i64))], obs := [(1048576, .keep)], fz := [] }),
  (1048578, { tms := [(1, .keep), (4, .data false (.int .i64))], obs := [(1048576, .keep)], fz := [] })], own := [] }
theorem f35_run (a0 : List (List Int) × List (List Int)) (K : Bool → Prop) : runF Tryz.prog f35_E f35_A 6 Tryz.f35 f35_e.doms f35_e.cods a0 K =
    (br (lenOk (a0.1.length))
    (br (decide (((a0.1.length) : Int) > 6))
    (K false)
    (br (lenOk (a0.2.length))
    (br (decide (((a0.2.length) : Int) > 6))
    (K false)
    (LoopP (V := Int × Unit) (fun again v => (fun (again1 : Int → Prop) (v1_0 : Int) =>
    br (lenOk (a0.1.length))
    (br (decide (v1_0 < ((a0.1.length) : Int)))
    (br (decide (0 ≤ v1_0) && decide (v1_0 < ((a0.1.length) : Int)))
    (br (lenOk ((a0.1.getD v1_0.toNat []).length))
    (br (decide ((((a0.1.getD v1_0.toNat []).length) : Int) > 6))
    (K false)
    (again1 (IntKind.i64.wrap (v1_0 + 1))))
    True)
    False)
    (LoopP (V := Int × Unit) (fun again v => (fun (again2 : Int → Prop) (v2_0 : Int) =>
    br (lenOk (a0.2.length))
    (br (decide (v2_0 < ((a0.2.length) : Int)))
    (br (decide (0 ≤ v2_0) && decide (v2_0 < ((a0.2.length) : Int)))
    (br (lenOk ((a0.2.getD v2_0.toNat []).length))
    (br (decide ((((a0.2.getD v2_0.toNat []).length) : Int) > 6))
    (K false)
    (again2 (IntKind.i64.wrap (v2_0 + 1))))
    True)
    False)
    (K true))
    True)
    (fun v2_0 => again (v2_0, ())) v.1) (0, ())))
    True)
    (fun v1_0 => again (v1_0, ())) v.1) (0, ())))
    True))
    True) := by kernel_rfl
theorem f35_t (a0 : List (List Int) × List (List Int)) (K : Bool → Prop) (hK : ∀ y : Bool, y = f35 a0 → K y) : RunF Tryz.prog f35_E f35_A 6 Tryz.f35 f35_e.doms f35_e.cods a0 K := by
  refine ⟨?_⟩
  rw [f35_run a0 K]
  have no : ¬ ((a0.1.length ≤ 6 ∧ a0.2.length ≤ 6) ∧ (∀ x ∈ a0.1, x.length ≤ 6) ∧ ∀ x ∈ a0.2, x.length ≤ 6) → K false := fun h => hK _ (decide_eq_false h).symm
  rw [br_true_]
  intro _
  rw [br_dec]
  refine ⟨fun h => no fun hh => by omega, fun h1 => ?_⟩
  rw [br_true_]
  intro _
  rw [br_dec]
  refine ⟨fun h => no fun hh => by omega, fun h2 => ?_⟩
  refine LoopP.up a0.1.length (fun i _ => ∀ x ∈ a0.1.take i.toNat, x.length ≤ 6) (fun again i v h0 hn hI hag => ?_) (by omega) all_zero
  dsimp only
  rw [br_true_]
  intro _
  rw [br_dec]
  refine ⟨fun hi => ?_, fun hi => ?_⟩
  · rw [br_false_]
    refine ⟨by simp; omega, ?_⟩
    rw [br_true_]
    intro _
    rw [br_dec]
    refine ⟨fun h => no fun hh => ?_, fun h => ?_⟩
    · have := hh.2.1 (a0.1.getD i.toNat []) (by rw [getD_lt (by omega)]; exact List.getElem_mem _)
      omega
    · rw [wr (n := i + 1) (by omega) (by omega)]
      exact hag () hi (all_step (d := []) h0 hi hI (by omega))
  · have hall := all_done hi hI
    refine LoopP.up a0.2.length (fun i _ => ∀ x ∈ a0.2.take i.toNat, x.length ≤ 6) (fun again i v h0 hn hI hag => ?_) (by omega) all_zero
    dsimp only
    rw [br_true_]
    intro _
    rw [br_dec]
    refine ⟨fun hi => ?_, fun hi => hK _ ?_⟩
    · rw [br_false_]
      refine ⟨by simp; omega, ?_⟩
      rw [br_true_]
      intro _
      rw [br_dec]
      refine ⟨fun h => no fun hh => ?_, fun h => ?_⟩
      · have := hh.2.2 (a0.2.getD i.toNat []) (by rw [getD_lt (by omega)]; exact List.getElem_mem _)
        omega
      · rw [wr (n := i + 1) (by omega) (by omega)]
        exact hag () hi (all_step (d := []) h0 hi hI (by omega))
    · unfold f35
      rw [decide_eq_true]
      exact ⟨⟨by omega, by omega⟩, hall, all_done hi hI⟩
theorem f35_fn : f35_e.fn = f35 := rfl
theorem f35_ok : EntryOK Tryz.prog 35 f35_e := by
  refine entryF progOK (EnvOK.nil) (A := f35_A) (d := 6) Tryz.func35 rfl rfl rfl rfl (fun _ _ => trivial) fun x hpre => ?_
  exact f35_t x _ fun _ h => h.trans (congrFun f35_fn.symm _)
end Go.Proofs.YtglokajinehbmaaGreat
end

section
namespace Go.Proofs.YtglokajinehbmaaGreat
open Go Go.Pi Go.RowKit
set_option maxRecDepth 100000
set_option linter.unusedVariables false
set_option linter.unusedSimpArgs false

def f36 (l : List (ByteArray × Int × Int × Int × Int)) : Bool := decide (l.length ≤ 8 ∧ ∀ a ∈ l, a.1.size ≤ 30)
def f36_e : Entry := { doms := [(false, (.sl (.pair .str (.pair (.int .i64) (.pair (.int .i64) (.pair (.int .i64) (.int .i64)))))))], cods := [(false, .bool)], pre := fun _ => True, fn := f36, uq := false, total := true }
def f36_E : Env := []
def f36_A : Anns := { loops := [(1048576, { tms := [(0, .keep), (3, .data false (.int .i64))], obs := [], fz := [] })], own := [] }
theorem f36_run (a0 : List (ByteArray × Int × Int × Int × Int)) (K : Bool → Prop) : runF Tryz.prog f36_E f36_A 6 Tryz.f36 f36_e.doms f36_e.cods a0 K =
    (br (lenOk (a0.length))
    (br (decide (((a0.length) : Int) > 8))
    (K false)
    (LoopP (V := Int × Unit) (fun again v => (fun (again1 : Int → Prop) (v1_0 : Int) =>
    br (lenOk (a0.length))
    (br (decide (v1_0 < ((a0.length) : Int)))
    (br (decide (0 ≤ v1_0) && decide (v1_0 < ((a0.length) : Int)))
    (br (decide ((((a0.getD v1_0.toNat ((⟨#[]⟩ : ByteArray), (0, (0, (0, 0))))).1).size : Int) > 30))
    (K false)
    (again1 (IntKind.i64.wrap (v1_0 + 1))))
    False)
    (K true))
    True)
    (fun v1_0 => again (v1_0, ())) v.1) (0, ())))
    True) := by kernel_rfl
theorem f36_t (a0 : List (ByteArray × Int × Int × Int × Int)) (K : Bool → Prop) (hK : ∀ y : Bool, y = f36 a0 → K y) : RunF Tryz.prog f36_E f36_A 6 Tryz.f36 f36_e.doms f36_e.cods a0 K := by
  refine ⟨?_⟩
  rw [f36_run a0 K]
  have no : ¬ (a0.length ≤ 8 ∧ ∀ a ∈ a0, a.1.size ≤ 30) → K false := fun h => hK _ (decide_eq_false h).symm
  rw [br_true_]
  intro _
  rw [br_dec]
  refine ⟨fun h => no fun hh => by omega, fun h1 => ?_⟩
  refine LoopP.up a0.length (fun i _ => ∀ x ∈ a0.take i.toNat, x.1.size ≤ 30) (fun again i v h0 hn hI hag => ?_) (by omega) all_zero
  dsimp only
  rw [br_true_]
  intro _
  rw [br_dec]
  refine ⟨fun hi => ?_, fun hi => hK _ ?_⟩
  · rw [br_false_]
    refine ⟨by simp; omega, ?_⟩
    rw [br_dec]
    refine ⟨fun h => no fun hh => ?_, fun h => ?_⟩
    · have := hh.2 (a0.getD i.toNat ((⟨#[]⟩ : ByteArray), (0, (0, (0, 0))))) (by rw [getD_lt (by omega)]; exact List.getElem_mem _)
      omega
    · rw [wr (n := i + 1) (by omega) (by omega)]
      exact hag () hi (all_step (d := ((⟨#[]⟩ : ByteArray), (0, (0, (0, 0))))) h0 hi hI (by omega))
  · unfold f36
    rw [decide_eq_true]
    exact ⟨by omega, all_done hi hI⟩
theorem f36_fn : f36_e.fn = f36 := rfl
theorem f36_ok : EntryOK Tryz.prog 36 f36_e := by
  refine entryF progOK (EnvOK.nil) (A := f36_A) (d := 6) Tryz.func36 rfl rfl rfl rfl (fun _ _ => trivial) fun x hpre => ?_
  exact f36_t x _ fun _ h => h.trans (congrFun f36_fn.symm _)
end Go.Proofs.YtglokajinehbmaaGreat
end

section
namespace Go.Proofs.YtglokajinehbmaaGreat
open Go Go.Pi Go.RowKit
set_option maxRecDepth 100000
set_option linter.unusedVariables false
set_option linter.unusedSimpArgs false

def f6 (p : (List (List Int) × List (List Int)) × List (ByteArray × Int × Int × Int × Int) × List Int) : Bool := f35 p.1 && (f36 p.2.1 && decide (p.2.2.length ≤ 8))
def f6_e : Entry := { doms := [(true, (.pair (.pair (.sl (.sl (.int .i64))) (.sl (.sl (.int .i64)))) (.pair (.sl (.pair .str (.pair (.int .i64) (.pair (.int .i64) (.pair (.int .i64) (.int .i64)))))) (.sl (.int .i64)))))], cods := [(false, .bool)], pre := fun _ => True, fn := f6, uq := false, total := true }
def f6_E : Env := [(35, f35_e), (36, f36_e)]
def f6_A : Anns := { loops := [], own := [] }
theorem f6_run (a0 : (List (List Int) × List (List Int)) × List (ByteArray × Int × Int × Int × Int) × List Int) (K : Bool → Prop) : runF Tryz.prog f6_E f6_A 6 Tryz.f6 f6_e.doms f6_e.cods a0 K =
    (br (f35 a0.1)
    (br (f36 a0.2.1)
    (br (lenOk (a0.2.2.length))
    (K (decide (((a0.2.2.length) : Int) ≤ 8)))
    True)
    (K false))
    (K false)) := by kernel_rfl
theorem f6_t (a0 : (List (List Int) × List (List Int)) × List (ByteArray × Int × Int × Int × Int) × List Int) (K : Bool → Prop) (hK : ∀ y : Bool, y = f6 a0 → K y) : RunF Tryz.prog f6_E f6_A 6 Tryz.f6 f6_e.doms f6_e.cods a0 K := by
  refine ⟨?_⟩
  rw [f6_run a0 K]
  rw [br_both]
  refine ⟨fun h1 => br_both.2 ⟨fun h2 => br_true_.2 fun _ => hK _ ?_, fun h2 => hK _ ?_⟩, fun h1 => hK _ ?_⟩
  · unfold f6
    rw [h1, h2, Bool.true_and, Bool.true_and]
    congr 1
    simp only [eq_iff_iff]
    omega
  · unfold f6
    rw [h1, h2]
    rfl
  · unfold f6
    rw [h1]
    rfl
theorem f6_fn : f6_e.fn = f6 := rfl
theorem f6_ok : EntryOK Tryz.prog 6 f6_e := by
  refine entryF progOK (EnvOK.cons f35_ok (EnvOK.cons f36_ok (EnvOK.nil))) (A := f6_A) (d := 6) Tryz.func6 rfl rfl rfl rfl (fun _ _ => trivial) fun x hpre => ?_
  exact f6_t x _ fun _ h => h.trans (congrFun f6_fn.symm _)
end Go.Proofs.YtglokajinehbmaaGreat
end

section
namespace Go.Proofs.YtglokajinehbmaaGreat
open Go Go.Pi Go.RowKit
set_option maxRecDepth 100000
set_option linter.unusedVariables false
set_option linter.unusedSimpArgs false

def f47 (l : List Int) : List Int := l
def f47_pre (l : List Int) : Prop := l.length ≤ 1048576
def f47_e : Entry := { doms := [(false, (.sl (.int .i64)))], cods := [(false, (.sl (.int .i64)))], pre := f47_pre, fn := f47, uq := true, total := false }
def f47_E : Env := []
def f47_A : Anns := { loops := [], own := [1049600] }
theorem f47_run (a0 : List Int) (K : (List Int) → Prop) : runU Tryz.prog f47_E f47_A 6 Tryz.f47 f47_e.doms f47_e.cods a0 K =
    (br (roomOk (0 + (a0.length)) 8)
    (K (([] : List Int) ++ a0))
    False) := by kernel_rfl
theorem f47_t (a0 : List Int) (hpre : f47_pre a0) (K : (List Int) → Prop) (hK : ∀ y : List Int, y = f47 a0 → K y) : RunU Tryz.prog f47_E f47_A 6 Tryz.f47 f47_e.doms f47_e.cods a0 K := by
  refine ⟨?_⟩
  rw [f47_run a0 K]
  simp only [br_false_, roomOk_iff]
  have : a0.length ≤ 1048576 := hpre
  exact ⟨by omega, hK _ (by simp [f47])⟩
theorem f47_fn : f47_e.fn = f47 := rfl
theorem f47_ok : EntryOK Tryz.prog 47 f47_e := by
  refine entryFU progOK (EnvOK.nil) (A := f47_A) (d := 6) Tryz.func47 rfl rfl rfl (fun h => by cases h) fun x hpre => ?_
  exact f47_t x hpre _ fun _ h => h.trans (congrFun f47_fn.symm _)
end Go.Proofs.YtglokajinehbmaaGreat
end

section
namespace Go.Proofs.YtglokajinehbmaaGreat
open Go Go.Pi Go.RowKit
set_option maxRecDepth 100000
set_option linter.unusedVariables false
set_option linter.unusedSimpArgs false

def f79 (l : List (List Int)) : List (List Int) := l
def f79_pre (l : List (List Int)) : Prop := l.length ≤ 1000 ∧ ∀ x ∈ l, x.length ≤ 1000
def f79_e : Entry := { doms := [(false, (.sl (.sl (.int .i64))))], cods := [(false, (.sl (.sl (.int .i64))))], pre := f79_pre, fn := f79, uq := false, total := false }
def f79_E : Env := [(47, f47_e)]
def f79_A : Anns := { loops := [(1048576, { tms := [(0, .keep), (3, .ref 1053703), (4, .data false (.int .i64))], obs := [(1053703, .arr (.uniq) (.sl (.int .i64)))], fz := [] })], own := [] }
theorem f79_run (a0 : List (List Int)) (K : (List (List Int)) → Prop) : runF Tryz.prog f79_E f79_A 6 Tryz.f79 f79_e.doms f79_e.cods a0 K =
    (LoopP (V := Int × List (List Int) × Unit) (fun again v => (fun (again1 : Int → List (List Int) → Prop) (v1_0 : Int) (v1_1 : List (List Int)) =>
    br (lenOk (a0.length))
    (br (decide (v1_0 < ((a0.length) : Int)))
    (br (decide (0 ≤ v1_0) && decide (v1_0 < ((a0.length) : Int)))
    (f47_pre (a0.getD v1_0.toNat []) ∧
    br (roomOk ((v1_1.length) + 1) 24)
    (again1 (IntKind.i64.wrap (v1_0 + 1)) (v1_1 ++ ([(f47 (a0.getD v1_0.toNat []))] : List (List Int))))
    False)
    False)
    (K v1_1))
    True)
    (fun v1_0 v1_1 => again (v1_0, v1_1, ())) v.1 v.2.1) (0, ([] : List (List Int)), ())) := by kernel_rfl
theorem f79_t (a0 : List (List Int)) (hpre : f79_pre a0) (K : (List (List Int)) → Prop) (hK : ∀ y : List (List Int), y = f79 a0 → K y) : RunF Tryz.prog f79_E f79_A 6 Tryz.f79 f79_e.doms f79_e.cods a0 K := by
  refine ⟨?_⟩
  rw [f79_run a0 K]
  obtain ⟨h1, h2⟩ := hpre
  refine LoopP.up a0.length (fun i v => v.1 = a0.take i.toNat) (fun again i v hi0 hn hI hag => ?_) (by omega) rfl
  obtain ⟨xs, u⟩ := v
  have hI : xs = a0.take i.toNat := hI
  subst hI
  dsimp only
  rw [br_true_]
  intro _
  rw [br_dec]
  refine ⟨fun hi => ?_, fun hi => hK _ ?_⟩
  · have hil : i.toNat < a0.length := by omega
    have hlen : (a0.take i.toNat).length ≤ 1000 := by rw [List.length_take]; omega
    rw [br_false_, getD_lt hil]
    refine ⟨by simp; omega, ?_, ?_⟩
    · have := h2 _ (List.getElem_mem hil)
      show (a0[i.toNat]).length ≤ 1048576
      omega
    · rw [br_false_, roomOk_iff, wr (n := i + 1) (by omega) (by omega)]
      refine ⟨by omega, hag (_, ()) hi ?_⟩
      show a0.take i.toNat ++ [f47 a0[i.toNat]] = a0.take (i + 1).toNat
      rw [show (i + 1).toNat = i.toNat + 1 by omega, List.take_add_one, List.getElem?_eq_getElem hil]
      rfl
  · rw [f79, List.take_of_length_le (by omega)]
theorem f79_fn : f79_e.fn = f79 := rfl
theorem f79_ok : EntryOK Tryz.prog 79 f79_e := by
  refine entryF progOK (EnvOK.cons f47_ok (EnvOK.nil)) (A := f79_A) (d := 6) Tryz.func79 rfl rfl rfl rfl (fun h => by cases h) fun x hpre => ?_
  exact f79_t x hpre _ fun _ h => h.trans (congrFun f79_fn.symm _)
end Go.Proofs.YtglokajinehbmaaGreat
end

section
namespace Go.Proofs.YtglokajinehbmaaGreat
open Go Go.Pi Go.RowKit
set_option maxRecDepth 100000
set_option linter.unusedVariables false
set_option linter.unusedSimpArgs false

def f45 (r : List (List Int) × List (List Int)) : List (List Int) × List (List Int) := r
def f45_pre (r : List (List Int) × List (List Int)) : Prop := f79_pre r.1 ∧ f79_pre r.2
def f45_e : Entry := { doms := [(true, (.pair (.sl (.sl (.int .i64))) (.sl (.sl (.int .i64)))))], cods := [(true, (.pair (.sl (.sl (.int .i64))) (.sl (.sl (.int .i64)))))], pre := f45_pre, fn := f45, uq := false, total := false }
def f45_E : Env := [(79, f79_e)]
def f45_A : Anns := { loops := [], own := [] }
theorem f45_run (a0 : List (List Int) × List (List Int)) (K : (List (List Int) × List (List Int)) → Prop) : runF Tryz.prog f45_E f45_A 6 Tryz.f45 f45_e.doms f45_e.cods a0 K =
    (f79_pre a0.1 ∧
    f79_pre a0.2 ∧
    K ((f79 a0.1), (f79 a0.2))) := by kernel_rfl
theorem f45_t (a0 : List (List Int) × List (List Int)) (hpre : f45_pre a0) (K : (List (List Int) × List (List Int)) → Prop) (hK : ∀ y : List (List Int) × List (List Int), y = f45 a0 → K y) : RunF Tryz.prog f45_E f45_A 6 Tryz.f45 f45_e.doms f45_e.cods a0 K := by
  refine ⟨?_⟩
  rw [f45_run a0 K]
  exact ⟨hpre.1, hpre.2, hK _ rfl⟩
theorem f45_fn : f45_e.fn = f45 := rfl
theorem f45_ok : EntryOK Tryz.prog 45 f45_e := by
  refine entryF progOK (EnvOK.cons f79_ok (EnvOK.nil)) (A := f45_A) (d := 6) Tryz.func45 rfl rfl rfl rfl (fun h => by cases h) fun x hpre => ?_
  exact f45_t x hpre _ fun _ h => h.trans (congrFun f45_fn.symm _)
end Go.Proofs.YtglokajinehbmaaGreat
end

section
namespace Go.Proofs.YtglokajinehbmaaGreat
open Go Go.Pi Go.RowKit
set_option maxRecDepth 100000
set_option linter.unusedVariables false
set_option linter.unusedSimpArgs false

def f46 (l : List (ByteArray × Int × Int × Int × Int)) : List (ByteArray × Int × Int × Int × Int) := l
def f46_pre (l : List (ByteArray × Int × Int × Int × Int)) : Prop := l.length ≤ 1000
def f46_e : Entry := { doms := [(false, (.sl (.pair .str (.pair (.int .i64) (.pair (.int .i64) (.pair (.int .i64) (.int .i64)))))))], cods := [(false, (.sl (.pair .str (.pair (.int .i64) (.pair (.int .i64) (.pair (.int .i64) (.int .i64)))))))], pre := f46_pre, fn := f46, uq := true, total := false }
def f46_E : Env := []
def f46_A : Anns := { loops := [], own := [1049600] }
theorem f46_run (a0 : List (ByteArray × Int × Int × Int × Int)) (K : (List (ByteArray × Int × Int × Int × Int)) → Prop) : runU Tryz.prog f46_E f46_A 6 Tryz.f46 f46_e.doms f46_e.cods a0 K =
    (br (roomOk (0 + (a0.length)) 48)
    (K (([] : List (ByteArray × Int × Int × Int × Int)) ++ a0))
    False) := by kernel_rfl
theorem f46_t (a0 : List (ByteArray × Int × Int × Int × Int)) (hpre : f46_pre a0) (K : (List (ByteArray × Int × Int × Int × Int)) → Prop) (hK : ∀ y : List (ByteArray × Int × Int × Int × Int), y = f46 a0 → K y) : RunU Tryz.prog f46_E f46_A 6 Tryz.f46 f46_e.doms f46_e.cods a0 K := by
  refine ⟨?_⟩
  rw [f46_run a0 K]
  have h : a0.length ≤ 1000 := hpre
  rw [br_false_, roomOk_iff]
  exact ⟨by omega, hK _ rfl⟩
theorem f46_fn : f46_e.fn = f46 := rfl
theorem f46_ok : EntryOK Tryz.prog 46 f46_e := by
  refine entryFU progOK (EnvOK.nil) (A := f46_A) (d := 6) Tryz.func46 rfl rfl rfl (fun h => by cases h) fun x hpre => ?_
  exact f46_t x hpre _ fun _ h => h.trans (congrFun f46_fn.symm _)
end Go.Proofs.YtglokajinehbmaaGreat
end

section
namespace Go.Proofs.YtglokajinehbmaaGreat
open Go Go.Pi Go.RowKit
set_option maxRecDepth 100000
set_option linter.unusedVariables false
set_option linter.unusedSimpArgs false

def f97 (l : List (ByteArray × Int × Int × Int × Int)) : Int × Int := arrOf l
def f97_pre (l : List (ByteArray × Int × Int × Int × Int)) : Prop := ∀ a ∈ l, a.1.size ≤ 1000
theorem four_errs (n k v o : Bool) : f42 [f43 (n, 4), f43 (!k, 5), f43 (v, 2), f43 (o, 9)] = if n = false then 4 else if k = true then 5 else if v = false then 2 else if o = false then 9 else 0 := by
  cases n <;> cases k <;> cases v <;> cases o <;> rfl
def f97_e : Entry := { doms := [(false, (.sl (.pair .str (.pair (.int .i64) (.pair (.int .i64) (.pair (.int .i64) (.int .i64)))))))], cods := [(false, (.int .i64)), (false, (.int .i64))], pre := f97_pre, fn := f97, uq := false, total := false }
def f97_E : Env := [(39, f39_e), (42, f42_e), (43, f43_e), (54, f54_e), (117, f117_e), (86, f86_e)]
def f97_A : Anns := { loops := [(1102734950400, { tms := [(1, .keep), (9, .keep), (10, .keep), (11, .data false (.int .i64))], obs := [(1048576, .keep)], fz := [] }),
  (1271366842923551149262244937728, { tms := [(0, .keep), (1, .keep), (7, .keep), (8, .data false (.int .i64))], obs := [(1048576, .keep), (1102734953475, .keep), (1156301407648743424, .keep)], fz := [] })], own := [] }
theorem f97_run (a0 : List (ByteArray × Int × Int × Int × Int)) (K : (Int × Int) → Prop) : runF Tryz.prog f97_E f97_A 6 Tryz.f97 f97_e.doms f97_e.cods a0 K =
    (br (lenOk (a0.length))
    (br (decide (((a0.length) : Int) > 6))
    (K (0, 8))
    (br (lenOk (a0.length))
    (LoopP (V := Int × Unit) (fun again v => (fun (again1 : Int → Prop) (v1_0 : Int) =>
    br (decide (v1_0 < ((a0.length) : Int)))
    (br (decide (0 ≤ v1_0) && decide (v1_0 < ((a0.length) : Int)))
    (br (decide ((0 : Int) ≤ 0 ∧ 0 ≤ v1_0 ∧ v1_0 ≤ ((a0.length) : Int)))
    (br (lenOk (((a0.take v1_0.toNat).drop 0).length))
    (LoopP (V := Int × Unit) (fun again v => (fun (again2 : Int → Prop) (v2_0 : Int) =>
    br (decide (v2_0 < ((((a0.take v1_0.toNat).drop 0).length) : Int)))
    (br (decide (0 ≤ v2_0) && decide (v2_0 < ((((a0.take v1_0.toNat).drop 0).length) : Int)))
    (br (((((a0.take v1_0.toNat).drop 0).getD v2_0.toNat ((⟨#[]⟩ : ByteArray), (0, (0, (0, 0))))).1).toList == ((a0.getD v1_0.toNat ((⟨#[]⟩ : ByteArray), (0, (0, (0, 0))))).1).toList)
    (br (f39 (((a0.getD v1_0.toNat ((⟨#[]⟩ : ByteArray), (0, (0, (0, 0))))).2).1, (0, 3)))
    (br (f54 ((((a0.getD v1_0.toNat ((⟨#[]⟩ : ByteArray), (0, (0, (0, 0))))).2).2).1))
    (br (f54 (((((a0.getD v1_0.toNat ((⟨#[]⟩ : ByteArray), (0, (0, (0, 0))))).2).2).2).1))
    (f117_pre ((a0.getD v1_0.toNat ((⟨#[]⟩ : ByteArray), (0, (0, (0, 0))))).1) ∧
    br ((f42 ([(f43 ((f117 ((a0.getD v1_0.toNat ((⟨#[]⟩ : ByteArray), (0, (0, (0, 0))))).1)), 4)), (f43 ((!(decide (v2_0 ≥ 0))), 5)), (f43 ((f39 (((((a0.getD v1_0.toNat ((⟨#[]⟩ : ByteArray), (0, (0, (0, 0))))).2).2).2).2, (0, 100))), 2)), (f43 ((decide ((((a0.getD v1_0.toNat ((⟨#[]⟩ : ByteArray), (0, (0, (0, 0))))).2).2).1 ≤ ((((a0.getD v1_0.toNat ((⟨#[]⟩ : ByteArray), (0, (0, (0, 0))))).2).2).2).1)), 9))] : List Int)) != 0)
    (K (v1_0, (f42 ([(f43 ((f117 ((a0.getD v1_0.toNat ((⟨#[]⟩ : ByteArray), (0, (0, (0, 0))))).1)), 4)), (f43 ((!(decide (v2_0 ≥ 0))), 5)), (f43 ((f39 (((((a0.getD v1_0.toNat ((⟨#[]⟩ : ByteArray), (0, (0, (0, 0))))).2).2).2).2, (0, 100))), 2)), (f43 ((decide ((((a0.getD v1_0.toNat ((⟨#[]⟩ : ByteArray), (0, (0, (0, 0))))).2).2).1 ≤ ((((a0.getD v1_0.toNat ((⟨#[]⟩ : ByteArray), (0, (0, (0, 0))))).2).2).2).1)), 9))] : List Int))))
    (again1 (IntKind.i64.wrap (v1_0 + 1))))
    (f117_pre ((a0.getD v1_0.toNat ((⟨#[]⟩ : ByteArray), (0, (0, (0, 0))))).1) ∧
    br ((f42 ([(f43 ((f117 ((a0.getD v1_0.toNat ((⟨#[]⟩ : ByteArray), (0, (0, (0, 0))))).1)), 4)), (f43 ((!(decide (v2_0 ≥ 0))), 5)), (f43 (false, 2)), (f43 ((decide ((((a0.getD v1_0.toNat ((⟨#[]⟩ : ByteArray), (0, (0, (0, 0))))).2).2).1 ≤ ((((a0.getD v1_0.toNat ((⟨#[]⟩ : ByteArray), (0, (0, (0, 0))))).2).2).2).1)), 9))] : List Int)) != 0)
    (K (v1_0, (f42 ([(f43 ((f117 ((a0.getD v1_0.toNat ((⟨#[]⟩ : ByteArray), (0, (0, (0, 0))))).1)), 4)), (f43 ((!(decide (v2_0 ≥ 0))), 5)), (f43 (false, 2)), (f43 ((decide ((((a0.getD v1_0.toNat ((⟨#[]⟩ : ByteArray), (0, (0, (0, 0))))).2).2).1 ≤ ((((a0.getD v1_0.toNat ((⟨#[]⟩ : ByteArray), (0, (0, (0, 0))))).2).2).2).1)), 9))] : List Int))))
    (again1 (IntKind.i64.wrap (v1_0 + 1)))))
    (f117_pre ((a0.getD v1_0.toNat ((⟨#[]⟩ : ByteArray), (0, (0, (0, 0))))).1) ∧
    br ((f42 ([(f43 ((f117 ((a0.getD v1_0.toNat ((⟨#[]⟩ : ByteArray), (0, (0, (0, 0))))).1)), 4)), (f43 ((!(decide (v2_0 ≥ 0))), 5)), (f43 (false, 2)), (f43 ((decide ((((a0.getD v1_0.toNat ((⟨#[]⟩ : ByteArray), (0, (0, (0, 0))))).2).2).1 ≤ ((((a0.getD v1_0.toNat ((⟨#[]⟩ : ByteArray), (0, (0, (0, 0))))).2).2).2).1)), 9))] : List Int)) != 0)
    (K (v1_0, (f42 ([(f43 ((f117 ((a0.getD v1_0.toNat ((⟨#[]⟩ : ByteArray), (0, (0, (0, 0))))).1)), 4)), (f43 ((!(decide (v2_0 ≥ 0))), 5)), (f43 (false, 2)), (f43 ((decide ((((a0.getD v1_0.toNat ((⟨#[]⟩ : ByteArray), (0, (0, (0, 0))))).2).2).1 ≤ ((((a0.getD v1_0.toNat ((⟨#[]⟩ : ByteArray), (0, (0, (0, 0))))).2).2).2).1)), 9))] : List Int))))
    (again1 (IntKind.i64.wrap (v1_0 + 1)))))
    (f117_pre ((a0.getD v1_0.toNat ((⟨#[]⟩ : ByteArray), (0, (0, (0, 0))))).1) ∧
    br ((f42 ([(f43 ((f117 ((a0.getD v1_0.toNat ((⟨#[]⟩ : ByteArray), (0, (0, (0, 0))))).1)), 4)), (f43 ((!(decide (v2_0 ≥ 0))), 5)), (f43 (false, 2)), (f43 ((decide ((((a0.getD v1_0.toNat ((⟨#[]⟩ : ByteArray), (0, (0, (0, 0))))).2).2).1 ≤ ((((a0.getD v1_0.toNat ((⟨#[]⟩ : ByteArray), (0, (0, (0, 0))))).2).2).2).1)), 9))] : List Int)) != 0)
    (K (v1_0, (f42 ([(f43 ((f117 ((a0.getD v1_0.toNat ((⟨#[]⟩ : ByteArray), (0, (0, (0, 0))))).1)), 4)), (f43 ((!(decide (v2_0 ≥ 0))), 5)), (f43 (false, 2)), (f43 ((decide ((((a0.getD v1_0.toNat ((⟨#[]⟩ : ByteArray), (0, (0, (0, 0))))).2).2).1 ≤ ((((a0.getD v1_0.toNat ((⟨#[]⟩ : ByteArray), (0, (0, (0, 0))))).2).2).2).1)), 9))] : List Int))))
    (again1 (IntKind.i64.wrap (v1_0 + 1)))))
    (again2 (IntKind.i64.wrap (v2_0 + 1))))
    False)
    (br (f39 (((a0.getD v1_0.toNat ((⟨#[]⟩ : ByteArray), (0, (0, (0, 0))))).2).1, (0, 3)))
    (br (f54 ((((a0.getD v1_0.toNat ((⟨#[]⟩ : ByteArray), (0, (0, (0, 0))))).2).2).1))
    (br (f54 (((((a0.getD v1_0.toNat ((⟨#[]⟩ : ByteArray), (0, (0, (0, 0))))).2).2).2).1))
    (f117_pre ((a0.getD v1_0.toNat ((⟨#[]⟩ : ByteArray), (0, (0, (0, 0))))).1) ∧
    br ((f42 ([(f43 ((f117 ((a0.getD v1_0.toNat ((⟨#[]⟩ : ByteArray), (0, (0, (0, 0))))).1)), 4)), (f43 (true, 5)), (f43 ((f39 (((((a0.getD v1_0.toNat ((⟨#[]⟩ : ByteArray), (0, (0, (0, 0))))).2).2).2).2, (0, 100))), 2)), (f43 ((decide ((((a0.getD v1_0.toNat ((⟨#[]⟩ : ByteArray), (0, (0, (0, 0))))).2).2).1 ≤ ((((a0.getD v1_0.toNat ((⟨#[]⟩ : ByteArray), (0, (0, (0, 0))))).2).2).2).1)), 9))] : List Int)) != 0)
    (K (v1_0, (f42 ([(f43 ((f117 ((a0.getD v1_0.toNat ((⟨#[]⟩ : ByteArray), (0, (0, (0, 0))))).1)), 4)), (f43 (true, 5)), (f43 ((f39 (((((a0.getD v1_0.toNat ((⟨#[]⟩ : ByteArray), (0, (0, (0, 0))))).2).2).2).2, (0, 100))), 2)), (f43 ((decide ((((a0.getD v1_0.toNat ((⟨#[]⟩ : ByteArray), (0, (0, (0, 0))))).2).2).1 ≤ ((((a0.getD v1_0.toNat ((⟨#[]⟩ : ByteArray), (0, (0, (0, 0))))).2).2).2).1)), 9))] : List Int))))
    (again1 (IntKind.i64.wrap (v1_0 + 1))))
    (f117_pre ((a0.getD v1_0.toNat ((⟨#[]⟩ : ByteArray), (0, (0, (0, 0))))).1) ∧
    br ((f42 ([(f43 ((f117 ((a0.getD v1_0.toNat ((⟨#[]⟩ : ByteArray), (0, (0, (0, 0))))).1)), 4)), (f43 (true, 5)), (f43 (false, 2)), (f43 ((decide ((((a0.getD v1_0.toNat ((⟨#[]⟩ : ByteArray), (0, (0, (0, 0))))).2).2).1 ≤ ((((a0.getD v1_0.toNat ((⟨#[]⟩ : ByteArray), (0, (0, (0, 0))))).2).2).2).1)), 9))] : List Int)) != 0)
    (K (v1_0, (f42 ([(f43 ((f117 ((a0.getD v1_0.toNat ((⟨#[]⟩ : ByteArray), (0, (0, (0, 0))))).1)), 4)), (f43 (true, 5)), (f43 (false, 2)), (f43 ((decide ((((a0.getD v1_0.toNat ((⟨#[]⟩ : ByteArray), (0, (0, (0, 0))))).2).2).1 ≤ ((((a0.getD v1_0.toNat ((⟨#[]⟩ : ByteArray), (0, (0, (0, 0))))).2).2).2).1)), 9))] : List Int))))
    (again1 (IntKind.i64.wrap (v1_0 + 1)))))
    (f117_pre ((a0.getD v1_0.toNat ((⟨#[]⟩ : ByteArray), (0, (0, (0, 0))))).1) ∧
    br ((f42 ([(f43 ((f117 ((a0.getD v1_0.toNat ((⟨#[]⟩ : ByteArray), (0, (0, (0, 0))))).1)), 4)), (f43 (true, 5)), (f43 (false, 2)), (f43 ((decide ((((a0.getD v1_0.toNat ((⟨#[]⟩ : ByteArray), (0, (0, (0, 0))))).2).2).1 ≤ ((((a0.getD v1_0.toNat ((⟨#[]⟩ : ByteArray), (0, (0, (0, 0))))).2).2).2).1)), 9))] : List Int)) != 0)
    (K (v1_0, (f42 ([(f43 ((f117 ((a0.getD v1_0.toNat ((⟨#[]⟩ : ByteArray), (0, (0, (0, 0))))).1)), 4)), (f43 (true, 5)), (f43 (false, 2)), (f43 ((decide ((((a0.getD v1_0.toNat ((⟨#[]⟩ : ByteArray), (0, (0, (0, 0))))).2).2).1 ≤ ((((a0.getD v1_0.toNat ((⟨#[]⟩ : ByteArray), (0, (0, (0, 0))))).2).2).2).1)), 9))] : List Int))))
    (again1 (IntKind.i64.wrap (v1_0 + 1)))))
    (f117_pre ((a0.getD v1_0.toNat ((⟨#[]⟩ : ByteArray), (0, (0, (0, 0))))).1) ∧
    br ((f42 ([(f43 ((f117 ((a0.getD v1_0.toNat ((⟨#[]⟩ : ByteArray), (0, (0, (0, 0))))).1)), 4)), (f43 (true, 5)), (f43 (false, 2)), (f43 ((decide ((((a0.getD v1_0.toNat ((⟨#[]⟩ : ByteArray), (0, (0, (0, 0))))).2).2).1 ≤ ((((a0.getD v1_0.toNat ((⟨#[]⟩ : ByteArray), (0, (0, (0, 0))))).2).2).2).1)), 9))] : List Int)) != 0)
    (K (v1_0, (f42 ([(f43 ((f117 ((a0.getD v1_0.toNat ((⟨#[]⟩ : ByteArray), (0, (0, (0, 0))))).1)), 4)), (f43 (true, 5)), (f43 (false, 2)), (f43 ((decide ((((a0.getD v1_0.toNat ((⟨#[]⟩ : ByteArray), (0, (0, (0, 0))))).2).2).1 ≤ ((((a0.getD v1_0.toNat ((⟨#[]⟩ : ByteArray), (0, (0, (0, 0))))).2).2).2).1)), 9))] : List Int))))
    (again1 (IntKind.i64.wrap (v1_0 + 1))))))
    (fun v2_0 => again (v2_0, ())) v.1) (0, ()))
    True)
    False)
    False)
    (K (0, 0)))
    (fun v1_0 => again (v1_0, ())) v.1) (0, ()))
    True))
    True) := by kernel_rfl
theorem f97_t (a0 : List (ByteArray × Int × Int × Int × Int)) (hpre : f97_pre a0) (K : (Int × Int) → Prop) (hK : ∀ y : Int × Int, y = f97 a0 → K y) : RunF Tryz.prog f97_E f97_A 6 Tryz.f97 f97_e.doms f97_e.cods a0 K := by
  refine ⟨?_⟩
  rw [f97_run a0 K]
  have hd : ((⟨#[]⟩ : ByteArray), ((0 : Int), ((0 : Int), ((0 : Int), (0 : Int))))) = arrD := rfl
  simp only [hd]
  rw [br_true_]
  intro _
  rw [br_dec]
  refine ⟨fun h => hK _ ?_, fun h => ?_⟩
  · rw [f97, arrOf, if_pos (by omega)]
  have h6 : ¬ a0.length > 6 := by omega
  rw [br_true_]
  intro _
  refine each_loop (K := K) (n := a0.length) (e := arrE a0) (hK _ (by rw [f97, arrOf, if_neg h6])) (fun again i hi hI good bad fin => ?_)
  dsimp only
  rw [br_dec]
  refine ⟨fun h1 => ?_, fun h1 => fin (by omega)⟩
  have hlt : i < a0.length := by omega
  have b0 : (decide (0 ≤ (i : Int)) && decide ((i : Int) < (a0.length : Int))) = true := inb (by omega) (by omega)
  rw [b0, br_t, br_false_]
  refine ⟨by simp; omega, ?_⟩
  simp only [Int.toNat_natCast, List.drop_zero]
  have hpre77 : f117_pre (a0.getD i arrD).1 := by
    rw [getD_lt hlt]
    exact hpre _ (List.getElem_mem _)
  have htl : (a0.take i).length = i := by rw [List.length_take]; omega
  have leaf : ∀ X : Int, X = arrE a0 i → br (X != 0) (K ((i : Int), X)) (again (IntKind.i64.wrap ((i : Int) + 1), ())) := fun X hX => by
    rw [wr (n := (i : Int) + 1) (by omega) (by omega), br_both]
    subst hX
    exact ⟨fun h => bad hlt (by simpa using h), fun h => good hlt (by simpa using h)⟩
  have e77 : f117 (a0.getD i arrD).1 = nameOK (a0.getD i arrD).1 := rfl
  have e76 : ∀ n : Int, f54 n = true ↔ 0 ≤ n ∧ n ≤ 100000 := fun n => by simp [f54]
  -- what follows, known or not
  have tail : ∀ kb : Bool, kb = knownA a0 i → ∀ nk : Bool, nk = (!kb) →
      br (f39 ((a0.getD i arrD).2.1, 0, 3))
        (br (f54 (a0.getD i arrD).2.2.1)
          (br (f54 (a0.getD i arrD).2.2.2.1)
            (f117_pre (a0.getD i arrD).1 ∧ br (f42 [f43 (f117 (a0.getD i arrD).1, 4), f43 (nk, 5), f43 (f39 ((a0.getD i arrD).2.2.2.2, 0, 100), 2), f43 (decide ((a0.getD i arrD).2.2.1 ≤ (a0.getD i arrD).2.2.2.1), 9)] != 0)
              (K ((i : Int), f42 [f43 (f117 (a0.getD i arrD).1, 4), f43 (nk, 5), f43 (f39 ((a0.getD i arrD).2.2.2.2, 0, 100), 2), f43 (decide ((a0.getD i arrD).2.2.1 ≤ (a0.getD i arrD).2.2.2.1), 9)]))
              (again (IntKind.i64.wrap ((i : Int) + 1), ())))
            (f117_pre (a0.getD i arrD).1 ∧ br (f42 [f43 (f117 (a0.getD i arrD).1, 4), f43 (nk, 5), f43 (false, 2), f43 (decide ((a0.getD i arrD).2.2.1 ≤ (a0.getD i arrD).2.2.2.1), 9)] != 0)
              (K ((i : Int), f42 [f43 (f117 (a0.getD i arrD).1, 4), f43 (nk, 5), f43 (false, 2), f43 (decide ((a0.getD i arrD).2.2.1 ≤ (a0.getD i arrD).2.2.2.1), 9)]))
              (again (IntKind.i64.wrap ((i : Int) + 1), ()))))
          (f117_pre (a0.getD i arrD).1 ∧ br (f42 [f43 (f117 (a0.getD i arrD).1, 4), f43 (nk, 5), f43 (false, 2), f43 (decide ((a0.getD i arrD).2.2.1 ≤ (a0.getD i arrD).2.2.2.1), 9)] != 0)
              (K ((i : Int), f42 [f43 (f117 (a0.getD i arrD).1, 4), f43 (nk, 5), f43 (false, 2), f43 (decide ((a0.getD i arrD).2.2.1 ≤ (a0.getD i arrD).2.2.2.1), 9)]))
              (again (IntKind.i64.wrap ((i : Int) + 1), ()))))
        (f117_pre (a0.getD i arrD).1 ∧ br (f42 [f43 (f117 (a0.getD i arrD).1, 4), f43 (nk, 5), f43 (false, 2), f43 (decide ((a0.getD i arrD).2.2.1 ≤ (a0.getD i arrD).2.2.2.1), 9)] != 0)
              (K ((i : Int), f42 [f43 (f117 (a0.getD i arrD).1, 4), f43 (nk, 5), f43 (false, 2), f43 (decide ((a0.getD i arrD).2.2.1 ≤ (a0.getD i arrD).2.2.2.1), 9)]))
              (again (IntKind.i64.wrap ((i : Int) + 1), ()))) := by
    intro kb hkb nk hnk
    subst hnk
    have key : ∀ vb : Bool, (vb = true ↔ arrV (a0.getD i arrD)) → f42 [f43 (f117 (a0.getD i arrD).1, 4), f43 (!kb, 5), f43 (vb, 2), f43 (decide ((a0.getD i arrD).2.2.1 ≤ (a0.getD i arrD).2.2.2.1), 9)] = arrE a0 i := fun vb hvb => by
      rw [four_errs, e77, arrE, hkb]
      by_cases hN : nameOK (a0.getD i arrD).1 = false
      · rw [if_pos hN, if_pos hN]
      rw [if_neg hN, if_neg hN]
      by_cases hk : knownA a0 i = true
      · rw [if_pos hk, if_pos hk]
      rw [if_neg hk, if_neg hk]
      by_cases hv : arrV (a0.getD i arrD)
      · rw [hvb.2 hv, if_neg (show ¬ (true = false) by decide), if_neg (fun hh : ¬ arrV (a0.getD i arrD) => hh hv)]
        by_cases ho : (a0.getD i arrD).2.2.1 ≤ (a0.getD i arrD).2.2.2.1
        · rw [decide_eq_true ho, if_neg (show ¬ (true = false) by decide), if_neg (by omega)]
        · rw [decide_eq_false ho, if_pos rfl, if_pos (by omega)]
      · rw [if_pos (show vb = false by rw [← Bool.not_eq_true, hvb]; exact hv), if_pos hv]
    have no : ¬ arrV (a0.getD i arrD) → (false = true ↔ arrV (a0.getD i arrD)) := fun hv => ⟨fun h => (by cases h), fun h => (hv h).elim⟩
    rw [br_both]
    refine ⟨fun h1 => br_both.2 ⟨fun h2 => br_both.2 ⟨fun h3 => ⟨hpre77, leaf _ (key _ ⟨fun h4 => ⟨f39_t1.1 h1, (e76 _).1 h2, (e76 _).1 h3, f39_t1.1 h4⟩, fun hv => f39_t1.2 hv.2.2.2⟩)⟩, fun h3 => ⟨hpre77, leaf _ (key _ (no fun hv => ?_))⟩⟩, fun h2 => ⟨hpre77, leaf _ (key _ (no fun hv => ?_))⟩⟩, fun h1 => ⟨hpre77, leaf _ (key _ (no fun hv => f39_f1.1 h1 hv.1))⟩⟩
    · rw [(e76 _).2 hv.2.2.1] at h3; cases h3
    · rw [(e76 _).2 hv.2.1] at h2; cases h2
  rw [br_true_]
  intro _
  refine LoopP.up i (fun k _ => ∀ j < k.toNat, ((a0.getD j arrD).1.toList == (a0.getD i arrD).1.toList) = false) (fun again2 k v hk0 hk1 hJ hag2 => ?_) (by omega) (fun j hj => by simp at hj)
  dsimp only
  rw [htl, br_dec]
  refine ⟨fun hk => ?_, fun hk => ?_⟩
  · have hget : (a0.take i).getD k.toNat arrD = a0.getD k.toNat arrD := by
      rw [getD_lt (by omega), getD_lt (by omega), List.getElem_take]
    rw [br_false_, hget]
    refine ⟨inb hk0 hk, ?_⟩
    rw [br_both]
    refine ⟨fun he => ?_, fun he => ?_⟩
    · have hk5 : knownA a0 i = true := List.any_eq_true.2 ⟨k.toNat, List.mem_range.2 (by omega), he⟩
      have hge : (!(decide (k ≥ 0))) = false := by simp [hk0]
      rw [hge]
      exact tail true hk5.symm false rfl
    · rw [wr (n := k + 1) (by omega) (by omega)]
      refine hag2 () hk fun j hj => ?_
      by_cases hjk : j = k.toNat
      · rw [hjk]; exact he
      · exact hJ j (by omega)
  · have hk5 : knownA a0 i = false := by
      rw [← Bool.not_eq_true]
      intro hh
      obtain ⟨j, hj, he⟩ := List.any_eq_true.1 hh
      have hj := List.mem_range.1 hj
      rw [hJ j (by omega)] at he
      cases he
    exact tail false hk5.symm true rfl
theorem f97_fn : f97_e.fn = f97 := rfl
theorem f97_ok : EntryOK Tryz.prog 97 f97_e := by
  refine entryF progOK (EnvOK.cons f39_ok (EnvOK.cons f42_ok (EnvOK.cons f43_ok (EnvOK.cons f54_ok (EnvOK.cons f117_ok (EnvOK.cons f86_ok (EnvOK.nil))))))) (A := f97_A) (d := 6) Tryz.func97 rfl rfl rfl rfl (fun h => by cases h) fun x hpre => ?_
  exact f97_t x hpre _ fun _ h => h.trans (congrFun f97_fn.symm _)
end Go.Proofs.YtglokajinehbmaaGreat
end

section
namespace Go.Proofs.YtglokajinehbmaaGreat
open Go Go.Pi Go.RowKit
set_option maxRecDepth 100000
set_option linter.unusedVariables false
set_option linter.unusedSimpArgs false

def f8 (p : (List (List Int) × List (List Int)) × List (ByteArray × Int × Int × Int × Int) × List Int) : (List (List Int) × List (List Int)) × List (ByteArray × Int × Int × Int × Int) × List Int := p
def f8_pre (p : (List (List Int) × List (List Int)) × List (ByteArray × Int × Int × Int × Int) × List Int) : Prop := f45_pre p.1 ∧ f46_pre p.2.1 ∧ p.2.2.length ≤ 1000
theorem few_pre {r : List (List Int) × List (List Int)} (h : f35 r = true) : f45_pre r := by
  unfold f35 at h
  obtain ⟨⟨h1, h2⟩, h3, h4⟩ := of_decide_eq_true h
  exact ⟨⟨by omega, fun x hx => by have := h3 x hx; omega⟩, ⟨by omega, fun x hx => by have := h4 x hx; omega⟩⟩
theorem small_pre {p : (List (List Int) × List (List Int)) × List (ByteArray × Int × Int × Int × Int) × List Int} (h : f6 p = true) : f8_pre p ∧ f46_pre p.2.1 ∧ f97_pre p.2.1 := by
  unfold f6 at h
  simp only [Bool.and_eq_true, decide_eq_true_eq] at h
  obtain ⟨h1, h2, h3⟩ := h
  unfold f36 at h2
  obtain ⟨h4, h5⟩ := of_decide_eq_true h2
  have e23 : f46_pre p.2.1 := by show p.2.1.length ≤ 1000; omega
  exact ⟨⟨few_pre h1, e23, by omega⟩, e23, fun a ha => by have := h5 a ha; omega⟩
def f8_e : Entry := { doms := [(true, (.pair (.pair (.sl (.sl (.int .i64))) (.sl (.sl (.int .i64)))) (.pair (.sl (.pair .str (.pair (.int .i64) (.pair (.int .i64) (.pair (.int .i64) (.int .i64)))))) (.sl (.int .i64)))))], cods := [(true, (.pair (.pair (.sl (.sl (.int .i64))) (.sl (.sl (.int .i64)))) (.pair (.sl (.pair .str (.pair (.int .i64) (.pair (.int .i64) (.pair (.int .i64) (.int .i64)))))) (.sl (.int .i64)))))], pre := f8_pre, fn := f8, uq := false, total := false }
def f8_E : Env := [(45, f45_e), (46, f46_e), (47, f47_e), (6, f6_e), (35, f35_e), (36, f36_e), (97, f97_e)]
def f8_A : Anns := { loops := [], own := [] }
theorem f8_run (a0 : (List (List Int) × List (List Int)) × List (ByteArray × Int × Int × Int × Int) × List Int) (K : ((List (List Int) × List (List Int)) × List (ByteArray × Int × Int × Int × Int) × List Int) → Prop) : runF Tryz.prog f8_E f8_A 6 Tryz.f8 f8_e.doms f8_e.cods a0 K =
    (f45_pre a0.1 ∧
    f46_pre a0.2.1 ∧
    f47_pre a0.2.2 ∧
    K ((f45 a0.1), ((f46 a0.2.1), (f47 a0.2.2)))) := by kernel_rfl
theorem f8_t (a0 : (List (List Int) × List (List Int)) × List (ByteArray × Int × Int × Int × Int) × List Int) (hpre : f8_pre a0) (K : ((List (List Int) × List (List Int)) × List (ByteArray × Int × Int × Int × Int) × List Int) → Prop) (hK : ∀ y : (List (List Int) × List (List Int)) × List (ByteArray × Int × Int × Int × Int) × List Int, y = f8 a0 → K y) : RunF Tryz.prog f8_E f8_A 6 Tryz.f8 f8_e.doms f8_e.cods a0 K := by
  refine ⟨?_⟩
  rw [f8_run a0 K]
  obtain ⟨h1, h2, h3⟩ := hpre
  exact ⟨h1, h2, show a0.2.2.length ≤ 1048576 from Nat.le_trans h3 (by omega), hK _ rfl⟩
theorem f8_fn : f8_e.fn = f8 := rfl
theorem f8_ok : EntryOK Tryz.prog 8 f8_e := by
  refine entryF progOK (EnvOK.cons f45_ok (EnvOK.cons f46_ok (EnvOK.cons f47_ok (EnvOK.cons f6_ok (EnvOK.cons f35_ok (EnvOK.cons f36_ok (EnvOK.cons f97_ok (EnvOK.nil)))))))) (A := f8_A) (d := 6) Tryz.func8 rfl rfl rfl rfl (fun h => by cases h) fun x hpre => ?_
  exact f8_t x hpre _ fun _ h => h.trans (congrFun f8_fn.symm _)
end Go.Proofs.YtglokajinehbmaaGreat
end
