/- What functions of the program compute, each proved once, part 4. -/
import Derived.Test.YtdhekhichomoiaaPiC
import Derived.Test.YtdhekhichomoiaaFnA
import Derived.Test.YtdhekhichomoiaaFnB

section
namespace Go.Proofs.Ytdhekhichomoiaa
open Go Go.Pi Go.RowKit
set_option maxRecDepth 100000
set_option linter.unusedVariables false
set_option linter.unusedSimpArgs false

def f18 (x : Int × Int × Int) : Bool := decide (x.2.1 ≤ x.1) && decide (x.1 ≤ x.2.2)
def f18_e : Entry := { doms := [(false, (.int .i64)), (false, (.int .i64)), (false, (.int .i64))], cods := [(false, .bool)], pre := fun _ => True, fn := f18, uq := false, total := true }
def f18_E : Env := []
def f18_A : Anns := { loops := [], own := [] }
theorem f18_run (a0 : Int) (a1 : Int) (a2 : Int) (K : Bool → Prop) : runF Try.prog f18_E f18_A 6 Try.f18 f18_e.doms f18_e.cods (a0, a1, a2) K =
    (br (decide (a1 ≤ a0))
    (K (decide (a0 ≤ a2)))
    (K false)) := by kernel_rfl
theorem f18_t (a0 : Int) (a1 : Int) (a2 : Int) (K : Bool → Prop) (hK : ∀ y : Bool, y = f18 (a0, a1, a2) → K y) : RunF Try.prog f18_E f18_A 6 Try.f18 f18_e.doms f18_e.cods (a0, a1, a2) K := by
  refine ⟨?_⟩
  rw [f18_run a0 a1 a2 K]
  rw [br_dec]
  exact ⟨fun h => hK _ (by simp [f18, h]), fun h => hK _ (by simp [f18, h])⟩
theorem f18_fn : f18_e.fn = f18 := rfl
theorem f18_ok : EntryOK Try.prog 18 f18_e := by
  refine entryF progOK (EnvOK.nil) (A := f18_A) (d := 6) Try.func18 rfl rfl (fun _ _ => trivial) fun x hpre => ?_
  obtain ⟨a0, a1, a2⟩ := x
  exact f18_t a0 a1 a2 _ fun _ h => h.trans (congrFun f18_fn.symm _)
end Go.Proofs.Ytdhekhichomoiaa
end

section
namespace Go.Proofs.Ytdhekhichomoiaa
open Go Go.Pi Go.RowKit
set_option maxRecDepth 100000
set_option linter.unusedVariables false
set_option linter.unusedSimpArgs false

def f24 (l : List (Int × Int)) : Bool := decide (l.length ≤ 50)
def f24_e : Entry := { doms := [(false, (.sl (.pair (.int .i64) (.int .i64))))], cods := [(false, .bool)], pre := fun _ => True, fn := f24, uq := false, total := true }
def f24_E : Env := []
def f24_A : Anns := { loops := [], own := [] }
theorem f24_run (a0 : List (Int × Int)) (K : Bool → Prop) : runF Try.prog f24_E f24_A 6 Try.f24 f24_e.doms f24_e.cods a0 K =
    (br (lenOk (a0.length))
    (K (decide (((a0.length) : Int) ≤ 50)))
    True) := by kernel_rfl
theorem f24_t (a0 : List (Int × Int)) (K : Bool → Prop) (hK : ∀ y : Bool, y = f24 a0 → K y) : RunF Try.prog f24_E f24_A 6 Try.f24 f24_e.doms f24_e.cods a0 K := by
  refine ⟨?_⟩
  rw [f24_run a0 K]
  rw [br_true_]
  intro _
  refine hK _ ?_
  unfold f24
  congr 1
  simp only [eq_iff_iff]
  omega
theorem f24_fn : f24_e.fn = f24 := rfl
theorem f24_ok : EntryOK Try.prog 24 f24_e := by
  refine entryF progOK (EnvOK.nil) (A := f24_A) (d := 6) Try.func24 rfl rfl (fun _ _ => trivial) fun x hpre => ?_
  exact f24_t x _ fun _ h => h.trans (congrFun f24_fn.symm _)
end Go.Proofs.Ytdhekhichomoiaa
end

section
namespace Go.Proofs.Ytdhekhichomoiaa
open Go Go.Pi Go.RowKit
set_option maxRecDepth 100000
set_option linter.unusedVariables false
set_option linter.unusedSimpArgs false

def f26 (l : List (Int × Int)) : List (Int × Int) := l
def f26_pre (l : List (Int × Int)) : Prop := l.length ≤ 1048576
def f26_e : Entry := { doms := [(false, (.sl (.pair (.int .i64) (.int .i64))))], cods := [(false, (.sl (.pair (.int .i64) (.int .i64))))], pre := f26_pre, fn := f26, uq := true, total := false }
def f26_E : Env := []
def f26_A : Anns := { loops := [], own := [1049600] }
theorem f26_run (a0 : List (Int × Int)) (K : (List (Int × Int)) → Prop) : runU Try.prog f26_E f26_A 6 Try.f26 f26_e.doms f26_e.cods a0 K =
    (br (roomOk (0 + (a0.length)) 16)
    (K (([] : List (Int × Int)) ++ a0))
    False) := by kernel_rfl
theorem f26_t (a0 : List (Int × Int)) (hpre : f26_pre a0) (K : (List (Int × Int)) → Prop) (hK : ∀ y : List (Int × Int), y = f26 a0 → K y) : RunU Try.prog f26_E f26_A 6 Try.f26 f26_e.doms f26_e.cods a0 K := by
  refine ⟨?_⟩
  rw [f26_run a0 K]
  simp only [br_false_, roomOk_iff]
  have : a0.length ≤ 1048576 := hpre
  exact ⟨by omega, hK _ (by simp [f26])⟩
theorem f26_fn : f26_e.fn = f26 := rfl
theorem f26_ok : EntryOK Try.prog 26 f26_e := by
  refine entryFU progOK (EnvOK.nil) (A := f26_A) (d := 6) Try.func26 rfl (fun h => by cases h) fun x hpre => ?_
  exact f26_t x hpre _ fun _ h => h.trans (congrFun f26_fn.symm _)
end Go.Proofs.Ytdhekhichomoiaa
end

section
namespace Go.Proofs.Ytdhekhichomoiaa
open Go Go.Pi Go.RowKit
set_option maxRecDepth 100000
set_option linter.unusedVariables false
set_option linter.unusedSimpArgs false

def f29 (x : List (Int × Int) × List (Int × Int)) : Bool := decide (x.1 = x.2)
def f29_e : Entry := { doms := [(false, (.sl (.pair (.int .i64) (.int .i64)))), (false, (.sl (.pair (.int .i64) (.int .i64))))], cods := [(false, .bool)], pre := fun _ => True, fn := f29, uq := false, total := true }
def f29_E : Env := []
def f29_A : Anns := { loops := [(1048576, { tms := [(0, .keep), (1, .keep), (5, .data false (.int .i64))], obs := [], fz := [] })], own := [] }
theorem f29_run (a0 : List (Int × Int)) (a1 : List (Int × Int)) (K : Bool → Prop) : runF Try.prog f29_E f29_A 6 Try.f29 f29_e.doms f29_e.cods (a0, a1) K =
    (br (lenOk (a0.length))
    (br (lenOk (a1.length))
    (br (((a0.length) : Int) != ((a1.length) : Int))
    (K false)
    (LoopP (V := Int × Unit) (fun again v => (fun (again1 : Int → Prop) (v1_0 : Int) =>
    br (lenOk (a0.length))
    (br (decide (v1_0 < ((a0.length) : Int)))
    (br (decide (0 ≤ v1_0) && decide (v1_0 < ((a0.length) : Int)))
    (br (decide (0 ≤ v1_0) && decide (v1_0 < ((a1.length) : Int)))
    (br (!(((a0.getD v1_0.toNat (0, 0)).1 == (a1.getD v1_0.toNat (0, 0)).1) && (((a0.getD v1_0.toNat (0, 0)).2 == (a1.getD v1_0.toNat (0, 0)).2) && true)))
    (K false)
    (again1 (IntKind.i64.wrap (v1_0 + 1))))
    False)
    False)
    (K true))
    True)
    (fun v1_0 => again (v1_0, ())) v.1) (0, ())))
    True)
    True) := by kernel_rfl
theorem f29_t (a0 : List (Int × Int)) (a1 : List (Int × Int)) (K : Bool → Prop) (hK : ∀ y : Bool, y = f29 (a0, a1) → K y) : RunF Try.prog f29_E f29_A 6 Try.f29 f29_e.doms f29_e.cods (a0, a1) K := by
  refine ⟨?_⟩
  rw [f29_run a0 a1 K]
  rw [br_true_, lenOk_iff]
  intro hl
  rw [br_true_]
  intro _
  rw [br_both]
  refine ⟨fun hne => hK _ ?_, fun he => ?_⟩
  · have : a0 ≠ a1 := fun e => by simp [e] at hne
    simp [f29, this]
  have he : a0.length = a1.length := by
    simp only [bne_eq_false_iff_eq] at he
    omega
  refine LoopP.up a0.length (fun i _ => a0.take i.toNat = a1.take i.toNat) (fun again i v hi0 hn hI hag => ?_) (by omega) (by simp)
  dsimp only
  rw [br_true_]
  intro _
  rw [br_both]
  refine ⟨fun hi => ?_, fun hi => hK _ ?_⟩
  · simp only [decide_eq_true_eq] at hi
    simp only [br_false_, Bool.and_eq_true, decide_eq_true_eq]
    refine ⟨⟨hi0, hi⟩, ⟨hi0, by omega⟩, ?_⟩
    rw [br_both]
    refine ⟨fun hne => hK _ ?_, fun heq => ?_⟩
    · have : a0 ≠ a1 := fun e => by simp [e] at hne
      simp [f29, this]
    · rw [wr (by omega) (by omega)]
      refine hag () hi ?_
      have h1 : i.toNat < a0.length := by omega
      have h2 : i.toNat < a1.length := by omega
      rw [getD_lt h1, getD_lt h2] at heq
      have h3 : a0[i.toNat] = a1[i.toNat] := by
        simp only [Bool.not_eq_false', Bool.and_true, Bool.and_eq_true, beq_iff_eq] at heq
        exact Prod.ext heq.1 heq.2
      rw [show (i + 1).toNat = i.toNat + 1 by omega, List.take_add_one, List.take_add_one, hI, List.getElem?_eq_getElem h1, List.getElem?_eq_getElem h2, h3]
  · simp only [decide_eq_false_iff_not] at hi
    rw [List.take_of_length_le (by omega), List.take_of_length_le (by omega)] at hI
    simp [f29, hI]
theorem f29_fn : f29_e.fn = f29 := rfl
theorem f29_ok : EntryOK Try.prog 29 f29_e := by
  refine entryF progOK (EnvOK.nil) (A := f29_A) (d := 6) Try.func29 rfl rfl (fun _ _ => trivial) fun x hpre => ?_
  obtain ⟨a0, a1⟩ := x
  exact f29_t a0 a1 _ fun _ h => h.trans (congrFun f29_fn.symm _)
end Go.Proofs.Ytdhekhichomoiaa
end

section
namespace Go.Proofs.Ytdhekhichomoiaa
open Go Go.Pi Go.RowKit
set_option maxRecDepth 100000
set_option linter.unusedVariables false
set_option linter.unusedSimpArgs false

def f32 (g : Int × Int × Int × List Int) : Bool := decide (g.2.2.2.length ≤ 18)
def f32_e : Entry := { doms := [(true, (.pair (.int .i64) (.pair (.int .i64) (.pair (.int .i64) (.sl (.int .i64))))))], cods := [(false, .bool)], pre := fun _ => True, fn := f32, uq := false, total := true }
def f32_E : Env := []
def f32_A : Anns := { loops := [], own := [] }
theorem f32_run (a0 : Int × Int × Int × List Int) (K : Bool → Prop) : runF Try.prog f32_E f32_A 6 Try.f32 f32_e.doms f32_e.cods a0 K =
    (br (lenOk (a0.2.2.2.length))
    (K (decide (((a0.2.2.2.length) : Int) ≤ 18)))
    True) := by kernel_rfl
theorem f32_t (a0 : Int × Int × Int × List Int) (K : Bool → Prop) (hK : ∀ y : Bool, y = f32 a0 → K y) : RunF Try.prog f32_E f32_A 6 Try.f32 f32_e.doms f32_e.cods a0 K := by
  refine ⟨?_⟩
  rw [f32_run a0 K]
  rw [br_true_]
  intro _
  refine hK _ ?_
  unfold f32
  congr 1
  simp only [eq_iff_iff]
  omega
theorem f32_fn : f32_e.fn = f32 := rfl
theorem f32_ok : EntryOK Try.prog 32 f32_e := by
  refine entryF progOK (EnvOK.nil) (A := f32_A) (d := 6) Try.func32 rfl rfl (fun _ _ => trivial) fun x hpre => ?_
  exact f32_t x _ fun _ h => h.trans (congrFun f32_fn.symm _)
end Go.Proofs.Ytdhekhichomoiaa
end

section
namespace Go.Proofs.Ytdhekhichomoiaa
open Go Go.Pi Go.RowKit
set_option maxRecDepth 100000
set_option linter.unusedVariables false
set_option linter.unusedSimpArgs false

def f21 (l : List Int) : List Int := l
def f21_pre (l : List Int) : Prop := l.length ≤ 1048576
def f21_e : Entry := { doms := [(false, (.sl (.int .i64)))], cods := [(false, (.sl (.int .i64)))], pre := f21_pre, fn := f21, uq := true, total := false }
def f21_E : Env := []
def f21_A : Anns := { loops := [], own := [1049600] }
theorem f21_run (a0 : List Int) (K : (List Int) → Prop) : runU Try.prog f21_E f21_A 6 Try.f21 f21_e.doms f21_e.cods a0 K =
    (br (roomOk (0 + (a0.length)) 8)
    (K (([] : List Int) ++ a0))
    False) := by kernel_rfl
theorem f21_t (a0 : List Int) (hpre : f21_pre a0) (K : (List Int) → Prop) (hK : ∀ y : List Int, y = f21 a0 → K y) : RunU Try.prog f21_E f21_A 6 Try.f21 f21_e.doms f21_e.cods a0 K := by
  refine ⟨?_⟩
  rw [f21_run a0 K]
  simp only [br_false_, roomOk_iff]
  have : a0.length ≤ 1048576 := hpre
  exact ⟨by omega, hK _ (by simp [f21])⟩
theorem f21_fn : f21_e.fn = f21 := rfl
theorem f21_ok : EntryOK Try.prog 21 f21_e := by
  refine entryFU progOK (EnvOK.nil) (A := f21_A) (d := 6) Try.func21 rfl (fun h => by cases h) fun x hpre => ?_
  exact f21_t x hpre _ fun _ h => h.trans (congrFun f21_fn.symm _)
end Go.Proofs.Ytdhekhichomoiaa
end

section
namespace Go.Proofs.Ytdhekhichomoiaa
open Go Go.Pi Go.RowKit
set_option maxRecDepth 100000
set_option linter.unusedVariables false
set_option linter.unusedSimpArgs false

def f35 (g : Int × Int × Int × List Int) : Int × Int × Int × List Int := g
def f35_pre (g : Int × Int × Int × List Int) : Prop := g.2.2.2.length ≤ 1048576
def f35_e : Entry := { doms := [(true, (.pair (.int .i64) (.pair (.int .i64) (.pair (.int .i64) (.sl (.int .i64))))))], cods := [(true, (.pair (.int .i64) (.pair (.int .i64) (.pair (.int .i64) (.sl (.int .i64))))))], pre := f35_pre, fn := f35, uq := false, total := false }
def f35_E : Env := [(21, f21_e)]
def f35_A : Anns := { loops := [], own := [] }
theorem f35_run (a0 : Int × Int × Int × List Int) (K : (Int × Int × Int × List Int) → Prop) : runF Try.prog f35_E f35_A 6 Try.f35 f35_e.doms f35_e.cods a0 K =
    (f21_pre a0.2.2.2 ∧
    K (a0.1, (a0.2.1, (a0.2.2.1, (f21 a0.2.2.2))))) := by kernel_rfl
theorem f35_t (a0 : Int × Int × Int × List Int) (hpre : f35_pre a0) (K : (Int × Int × Int × List Int) → Prop) (hK : ∀ y : Int × Int × Int × List Int, y = f35 a0 → K y) : RunF Try.prog f35_E f35_A 6 Try.f35 f35_e.doms f35_e.cods a0 K := by
  refine ⟨?_⟩
  rw [f35_run a0 K]
  exact ⟨hpre, hK _ rfl⟩
theorem f35_fn : f35_e.fn = f35 := rfl
theorem f35_ok : EntryOK Try.prog 35 f35_e := by
  refine entryF progOK (EnvOK.cons f21_ok (EnvOK.nil)) (A := f35_A) (d := 6) Try.func35 rfl rfl (fun h => by cases h) fun x hpre => ?_
  exact f35_t x hpre _ fun _ h => h.trans (congrFun f35_fn.symm _)
end Go.Proofs.Ytdhekhichomoiaa
end

section
namespace Go.Proofs.Ytdhekhichomoiaa
open Go Go.Pi Go.RowKit
set_option maxRecDepth 100000
set_option linter.unusedVariables false
set_option linter.unusedSimpArgs false

/-- A sample of a gate. -/
def cutAt (g : Int × Int × Int × List Int) (l : List (Int × Int)) (gate later : Int) (j : Nat) : Int × Int :=
  let at_ := IntKind.i64.wrap (IntKind.i64.wrap (f110 (g, gate) + j) + later)
  if 0 ≤ at_ ∧ at_ < l.length then (IntKind.i64.wrap (g.2.2.2.getD j 0 * (l.getD at_.toNat (0, 0)).1), IntKind.i64.wrap (g.2.2.2.getD j 0 * (l.getD at_.toNat (0, 0)).2)) else (0, 0)
def f109 (x : (Int × Int × Int × List Int) × List (Int × Int) × Int × Int) : List (Int × Int) := (List.range x.1.2.2.2.length).map (cutAt x.1 x.2.1 x.2.2.1 x.2.2.2)
def f109_pre (x : (Int × Int × Int × List Int) × List (Int × Int) × Int × Int) : Prop := x.1.2.2.2.length ≤ 1048576
def f109_e : Entry := { doms := [(true, (.pair (.int .i64) (.pair (.int .i64) (.pair (.int .i64) (.sl (.int .i64)))))), (false, (.sl (.pair (.int .i64) (.int .i64)))), (false, (.int .i64)), (false, (.int .i64))], cods := [(false, (.sl (.pair (.int .i64) (.int .i64))))], pre := f109_pre, fn := f109, uq := false, total := false }
def f109_E : Env := [(95, f95_e), (110, f110_e)]
def f109_A : Anns := { loops := [(1048576, { tms := [(1, .keep), (2, .keep), (3, .keep), (4, .keep), (9, .ref 1057803), (15, .keep), (16, .keep), (17, .data false (.int .i64))], obs := [(1048576, .keep), (1057803, .arr (.uniq) (.pair (.int .i64) (.int .i64)))], fz := [] })], own := [] }
theorem f109_run (a0 : Int × Int × Int × List Int) (a1 : List (Int × Int)) (a2 : Int) (a3 : Int) (K : (List (Int × Int)) → Prop) : runF Try.prog f109_E f109_A 6 Try.f109 f109_e.doms f109_e.cods (a0, a1, a2, a3) K =
    (br (lenOk (a0.2.2.2.length))
    (LoopP (V := Int × List (Int × Int) × Unit) (fun again v => (fun (again1 : Int → List (Int × Int) → Prop) (v1_0 : Int) (v1_1 : List (Int × Int)) =>
    br (decide (v1_0 < ((a0.2.2.2.length) : Int)))
    (br (decide (0 ≤ v1_0) && decide (v1_0 < ((a0.2.2.2.length) : Int)))
    (br (lenOk (a1.length))
    (br (f95 ((IntKind.i64.wrap ((IntKind.i64.wrap ((f110 (a0, a2)) + v1_0)) + a3)), (0, (IntKind.i64.wrap (((a1.length) : Int) - 1)))))
    (br (decide (0 ≤ (IntKind.i64.wrap ((IntKind.i64.wrap ((f110 (a0, a2)) + v1_0)) + a3))) && decide ((IntKind.i64.wrap ((IntKind.i64.wrap ((f110 (a0, a2)) + v1_0)) + a3)) < ((a1.length) : Int)))
    (br (roomOk ((v1_1.length) + 1) 16)
    (again1 (IntKind.i64.wrap (v1_0 + 1)) (v1_1 ++ ([((IntKind.i64.wrap ((a0.2.2.2.getD v1_0.toNat 0) * (a1.getD ((IntKind.i64.wrap ((IntKind.i64.wrap ((f110 (a0, a2)) + v1_0)) + a3)).toNat) (0, 0)).1)), (IntKind.i64.wrap ((a0.2.2.2.getD v1_0.toNat 0) * (a1.getD ((IntKind.i64.wrap ((IntKind.i64.wrap ((f110 (a0, a2)) + v1_0)) + a3)).toNat) (0, 0)).2)))] : List (Int × Int))))
    False)
    False)
    (br (roomOk ((v1_1.length) + 1) 16)
    (again1 (IntKind.i64.wrap (v1_0 + 1)) (v1_1 ++ ([((IntKind.i64.wrap ((a0.2.2.2.getD v1_0.toNat 0) * 0)), (IntKind.i64.wrap ((a0.2.2.2.getD v1_0.toNat 0) * 0)))] : List (Int × Int))))
    False))
    True)
    False)
    (K v1_1))
    (fun v1_0 v1_1 => again (v1_0, v1_1, ())) v.1 v.2.1) (0, ([] : List (Int × Int)), ()))
    True) := by kernel_rfl
theorem f109_t (a0 : Int × Int × Int × List Int) (a1 : List (Int × Int)) (a2 : Int) (a3 : Int) (hpre : f109_pre (a0, a1, a2, a3)) (K : (List (Int × Int)) → Prop) (hK : ∀ y : List (Int × Int), y = f109 (a0, a1, a2, a3) → K y) : RunF Try.prog f109_E f109_A 6 Try.f109 f109_e.doms f109_e.cods (a0, a1, a2, a3) K := by
  refine ⟨?_⟩
  rw [f109_run a0 a1 a2 a3 K]
  have hpl : a0.2.2.2.length ≤ 1048576 := hpre
  rw [br_true_]
  intro _
  refine LoopP.up a0.2.2.2.length (fun i v => v.1 = (List.range i.toNat).map (cutAt a0 a1 a2 a3)) (fun again i v hi0 hn hI hag => ?_) (by omega) rfl
  obtain ⟨v, u⟩ := v
  simp only at hI hag ⊢
  subst hI
  rw [br_both]
  refine ⟨fun hi => ?_, fun hi => hK _ ?_⟩
  · simp only [decide_eq_true_eq] at hi
    rw [br_false_]
    refine ⟨by simp only [Bool.and_eq_true, decide_eq_true_eq]; exact ⟨hi0, hi⟩, ?_⟩
    rw [br_true_, lenOk_iff]
    intro hll
    rw [wr (n := (a1.length : Int) - 1) (by omega) (by omega), wr (n := i + 1) (by omega) (by omega)]
    have hroom : roomOk (((List.range i.toNat).map (cutAt a0 a1 a2 a3)).length + 1) 16 = true := by rw [roomOk_iff]; simp; omega
    have hcast : ((i.toNat : Nat) : Int) = i := Int.toNat_of_nonneg hi0
    have next : ∀ z, z = cutAt a0 a1 a2 a3 i.toNat → again (i + 1, (List.range i.toNat).map (cutAt a0 a1 a2 a3) ++ [z], ()) := fun z hz => hag _ hi (by
      show _ = (List.range (i + 1).toNat).map (cutAt a0 a1 a2 a3)
      rw [← app_step hi0, hz])
    rw [br_both]
    refine ⟨fun h => ?_, fun h => ?_⟩
    · simp only [f95, Bool.and_eq_true, decide_eq_true_eq] at h
      rw [br_false_]
      refine ⟨by simp only [Bool.and_eq_true, decide_eq_true_eq]; omega, ?_⟩
      rw [hroom, br_t]
      refine next _ ?_
      unfold cutAt
      rw [hcast]
      simp only
      rw [if_pos (by omega)]
    · simp only [f95, Bool.and_eq_false_iff, decide_eq_false_iff_not] at h
      rw [hroom, br_t]
      refine next _ ?_
      unfold cutAt
      rw [hcast]
      simp only
      rw [if_neg (by omega), Int.mul_zero, wrap_zero]
  · simp only [decide_eq_false_iff_not] at hi
    rw [f109, show i.toNat = a0.2.2.2.length by omega]
theorem f109_fn : f109_e.fn = f109 := rfl
theorem f109_ok : EntryOK Try.prog 109 f109_e := by
  refine entryF progOK (EnvOK.cons f95_ok (EnvOK.cons f110_ok (EnvOK.nil))) (A := f109_A) (d := 6) Try.func109 rfl rfl (fun h => by cases h) fun x hpre => ?_
  obtain ⟨a0, a1, a2, a3⟩ := x
  exact f109_t a0 a1 a2 a3 hpre _ fun _ h => h.trans (congrFun f109_fn.symm _)
end Go.Proofs.Ytdhekhichomoiaa
end

section
namespace Go.Proofs.Ytdhekhichomoiaa
open Go Go.Pi Go.RowKit
set_option maxRecDepth 100000
set_option linter.unusedVariables false
set_option linter.unusedSimpArgs false

def f42 (x : Int × Int) : Int := if x.1 ≠ 0 then x.1 else x.2
def f42_e : Entry := { doms := [(false, (.int .i64)), (false, (.int .i64))], cods := [(false, (.int .i64))], pre := fun _ => True, fn := f42, uq := false, total := true }
def f42_E : Env := []
def f42_A : Anns := { loops := [], own := [] }
theorem f42_run (a0 : Int) (a1 : Int) (K : Int → Prop) : runF Try.prog f42_E f42_A 6 Try.f42 f42_e.doms f42_e.cods (a0, a1) K =
    (br (a0 != 0)
    (K a0)
    (K a1)) := by kernel_rfl
theorem f42_t (a0 : Int) (a1 : Int) (K : Int → Prop) (hK : ∀ y : Int, y = f42 (a0, a1) → K y) : RunF Try.prog f42_E f42_A 6 Try.f42 f42_e.doms f42_e.cods (a0, a1) K := by
  refine ⟨?_⟩
  rw [f42_run a0 a1 K]
  rw [br_both]
  exact ⟨fun h => hK _ (by simp at h; simp [f42, h]), fun h => hK _ (by simp at h; simp [f42, h])⟩
theorem f42_fn : f42_e.fn = f42 := rfl
theorem f42_ok : EntryOK Try.prog 42 f42_e := by
  refine entryF progOK (EnvOK.nil) (A := f42_A) (d := 6) Try.func42 rfl rfl (fun _ _ => trivial) fun x hpre => ?_
  obtain ⟨a0, a1⟩ := x
  exact f42_t a0 a1 _ fun _ h => h.trans (congrFun f42_fn.symm _)
end Go.Proofs.Ytdhekhichomoiaa
end

section
namespace Go.Proofs.Ytdhekhichomoiaa
open Go Go.Pi Go.RowKit
set_option maxRecDepth 100000
set_option linter.unusedVariables false
set_option linter.unusedSimpArgs false

def gateE (g : Int × Int × Int × List Int) (l : List (Int × Int)) (k : Int) : Int := f42 ((f34 g).2, f42 ((f33 l).2, f42 (f107 (g, k), f94 (f108 (g, l, k), 19))))
def f36 (x : (Int × Int × Int × List Int) × List (Int × Int) × Int) : List (Int × Int) × Int :=
  if gateE x.1 x.2.1 x.2.2 ≠ 0 then ([], gateE x.1 x.2.1 x.2.2) else (f109 (x.1, x.2.1, x.2.2, 0), 0)
def f36_e : Entry := { doms := [(true, (.pair (.int .i64) (.pair (.int .i64) (.pair (.int .i64) (.sl (.int .i64)))))), (false, (.sl (.pair (.int .i64) (.int .i64)))), (false, (.int .i64))], cods := [(false, (.sl (.pair (.int .i64) (.int .i64)))), (false, (.int .i64))], pre := fun _ => True, fn := f36, uq := false, total := true }
def f36_E : Env := [(93, f93_e), (94, f94_e), (97, f97_e), (106, f106_e), (107, f107_e), (108, f108_e), (109, f109_e), (42, f42_e), (34, f34_e)]
def f36_A : Anns := { loops := [], own := [] }
theorem f36_run (a0 : Int × Int × Int × List Int) (a1 : List (Int × Int)) (a2 : Int) (K : (List (Int × Int) × Int) → Prop) : runF Try.prog f36_E f36_A 6 Try.f36 f36_e.doms f36_e.cods (a0, a1, a2) K =
    (br ((f93 ([(f106 a0), (f97 a1), (f107 (a0, a2)), (f94 ((f108 (a0, (a1, a2))), 19))] : List Int)) != 0)
    (K (([] : List (Int × Int)), (f93 ([(f106 a0), (f97 a1), (f107 (a0, a2)), (f94 ((f108 (a0, (a1, a2))), 19))] : List Int))))
    (f109_pre (a0, (a1, (a2, 0))) ∧
    K ((f109 (a0, (a1, (a2, 0)))), 0))) := by kernel_rfl
theorem f36_t (a0 : Int × Int × Int × List Int) (a1 : List (Int × Int)) (a2 : Int) (K : (List (Int × Int) × Int) → Prop) (hK : ∀ y : List (Int × Int) × Int, y = f36 (a0, a1, a2) → K y) : RunF Try.prog f36_E f36_A 6 Try.f36 f36_e.doms f36_e.cods (a0, a1, a2) K := by
  refine ⟨?_⟩
  rw [f36_run a0 a1 a2 K]
  have e : f93 [f106 a0, f97 a1, f107 (a0, a2), f94 (f108 (a0, a1, a2), 19)] = gateE a0 a1 a2 := by
    simp only [f93_cons, f93_nil, f97, f106, gateE, f42, ne_eq, ite_not]
    split
    · split
      · split
        · split
          · rename_i h; rw [h]
          · rfl
        · rfl
      · rfl
    · rfl
  rw [e, br_both]
  refine ⟨fun h => hK _ (by have h : gateE a0 a1 a2 ≠ 0 := by simpa using h
                            rw [f36, if_pos h]), fun h => ?_⟩
  have h : gateE a0 a1 a2 = 0 := by simpa using h
  have hg : (f34 a0).2 = 0 := by
    simp only [gateE, f42, ne_eq, ite_not] at h
    split at h
    · assumption
    · exact h
  refine ⟨by have := (gates_ok hg).len; show a0.2.2.2.length ≤ _; omega, hK _ (by rw [f36, if_neg (fun hh => hh h)])⟩
theorem f36_fn : f36_e.fn = f36 := rfl
theorem f36_ok : EntryOK Try.prog 36 f36_e := by
  refine entryF progOK (EnvOK.cons f93_ok (EnvOK.cons f94_ok (EnvOK.cons f97_ok (EnvOK.cons f106_ok (EnvOK.cons f107_ok (EnvOK.cons f108_ok (EnvOK.cons f109_ok (EnvOK.cons f42_ok (EnvOK.cons f34_ok (EnvOK.nil)))))))))) (A := f36_A) (d := 6) Try.func36 rfl rfl (fun _ _ => trivial) fun x hpre => ?_
  obtain ⟨a0, a1, a2⟩ := x
  exact f36_t a0 a1 a2 _ fun _ h => h.trans (congrFun f36_fn.symm _)
end Go.Proofs.Ytdhekhichomoiaa
end

section
namespace Go.Proofs.Ytdhekhichomoiaa
open Go Go.Pi Go.RowKit
set_option maxRecDepth 100000
set_option linter.unusedVariables false
set_option linter.unusedSimpArgs false

/-- Does a sample lie in a gate? -/
def inGate (g : Int × Int × Int × List Int) (idx : Int) (k : Nat) : Bool := f95 (IntKind.i64.wrap (idx - f110 (g, (k : Int))), 0, IntKind.i64.wrap ((g.2.2.2.length : Int) - 1))
def withL (g : Int × Int × Int × List Int) (idx : Int) (n : Nat) : List Int := ((List.range n).filter (inGate g idx)).map fun k : Nat => (k : Int)
theorem withL_step (g : Int × Int × Int × List Int) (idx : Int) (n : Nat) : withL g idx (n + 1) = withL g idx n ++ (if inGate g idx n then [(n : Int)] else []) := by
  simp only [withL, List.range_succ, List.filter_append, List.map_append]
  congr 1
  by_cases h : inGate g idx n <;> simp [h]
theorem withL_length (g : Int × Int × Int × List Int) (idx : Int) (n : Nat) : (withL g idx n).length ≤ n := by
  simp only [withL, List.length_map]
  exact Nat.le_trans (List.length_filter_le _ _) (by simp)
def withE (g : Int × Int × Int × List Int) (idx : Int) : Int := f42 ((f34 g).2, if 0 ≤ idx ∧ idx ≤ 47 then 0 else 2)
def f37 (x : (Int × Int × Int × List Int) × Int) : List Int × Int := if withE x.1 x.2 ≠ 0 then ([], withE x.1 x.2) else (withL x.1 x.2 x.1.2.2.1.toNat, 0)
def f37_e : Entry := { doms := [(true, (.pair (.int .i64) (.pair (.int .i64) (.pair (.int .i64) (.sl (.int .i64)))))), (false, (.int .i64))], cods := [(false, (.sl (.int .i64))), (false, (.int .i64))], pre := fun _ => True, fn := f37, uq := false, total := true }
def f37_E : Env := [(93, f93_e), (94, f94_e), (95, f95_e), (106, f106_e), (110, f110_e), (42, f42_e), (34, f34_e)]
def f37_A : Anns := { loops := [(1048576, { tms := [(1, .keep), (2, .keep), (7, .ref 1057795), (20, .keep), (21, .data false (.int .i64))], obs := [(1048576, .keep), (1057795, .arr (.uniq) (.int .i64))], fz := [] })], own := [] }
theorem f37_run (a0 : Int × Int × Int × List Int) (a1 : Int) (K : (List Int × Int) → Prop) : runF Try.prog f37_E f37_A 6 Try.f37 f37_e.doms f37_e.cods (a0, a1) K =
    (br ((f93 ([(f106 a0), (f94 ((f95 (a1, (0, 47))), 2))] : List Int)) != 0)
    (K (([] : List Int), (f93 ([(f106 a0), (f94 ((f95 (a1, (0, 47))), 2))] : List Int))))
    (LoopP (V := Int × List Int × Unit) (fun again v => (fun (again1 : Int → List Int → Prop) (v1_0 : Int) (v1_1 : List Int) =>
    br (decide (v1_0 < a0.2.2.1))
    (br (lenOk (a0.2.2.2.length))
    (br (f95 ((IntKind.i64.wrap (a1 - (f110 (a0, v1_0)))), (0, (IntKind.i64.wrap (((a0.2.2.2.length) : Int) - 1)))))
    (br (roomOk ((v1_1.length) + 1) 8)
    (again1 (IntKind.i64.wrap (v1_0 + 1)) (v1_1 ++ ([v1_0] : List Int)))
    False)
    (again1 (IntKind.i64.wrap (v1_0 + 1)) v1_1))
    True)
    (K (v1_1, 0)))
    (fun v1_0 v1_1 => again (v1_0, v1_1, ())) v.1 v.2.1) (0, ([] : List Int), ()))) := by kernel_rfl
theorem f37_t (a0 : Int × Int × Int × List Int) (a1 : Int) (K : (List Int × Int) → Prop) (hK : ∀ y : List Int × Int, y = f37 (a0, a1) → K y) : RunF Try.prog f37_E f37_A 6 Try.f37 f37_e.doms f37_e.cods (a0, a1) K := by
  refine ⟨?_⟩
  rw [f37_run a0 a1 K]
  have e : f93 [f106 a0, f94 (f95 (a1, 0, 47), 2)] = withE a0 a1 := by
    simp only [f93_cons, f93_nil, f106, f94, f95, withE, f42, Bool.and_eq_true, decide_eq_true_eq]
    by_cases h : (f34 a0).2 = 0 <;> by_cases h2 : 0 ≤ a1 ∧ a1 ≤ 47 <;> simp [h, h2]
  rw [e, br_both]
  refine ⟨fun h => hK _ (by have h : withE a0 a1 ≠ 0 := by simpa using h
                            rw [f37, if_pos h]), fun h => ?_⟩
  have h : withE a0 a1 = 0 := by simpa using h
  have hg : (f34 a0).2 = 0 := by
    simp only [withE, f42, ne_eq, ite_not] at h
    split at h
    · assumption
    · exact h
  have G := gates_ok hg
  have hc := G.count
  refine LoopP.up a0.2.2.1 (fun i v => v.1 = withL a0 a1 i.toNat) (fun again i v hi0 hn hI hag => ?_) (by omega) rfl
  obtain ⟨v, u⟩ := v
  simp only at hI hag ⊢
  subst hI
  rw [br_both]
  refine ⟨fun hi => ?_, fun hi => hK _ ?_⟩
  · simp only [decide_eq_true_eq] at hi
    rw [br_true_]
    intro _
    rw [wr (n := i + 1) (by omega) (by omega)]
    have hcast : ((i.toNat : Nat) : Int) = i := Int.toNat_of_nonneg hi0
    have hst : withL a0 a1 (i + 1).toNat = withL a0 a1 i.toNat ++ (if inGate a0 a1 i.toNat then [i] else []) := by
      rw [show (i + 1).toNat = i.toNat + 1 by omega, withL_step, hcast]
    have hin : inGate a0 a1 i.toNat = f95 (IntKind.i64.wrap (a1 - f110 (a0, i)), 0, IntKind.i64.wrap ((a0.2.2.2.length : Int) - 1)) := by rw [inGate, hcast]
    rw [← hin, br_both]
    refine ⟨fun h => ?_, fun h => ?_⟩
    · have := withL_length a0 a1 i.toNat
      rw [br_false_, roomOk_iff]
      refine ⟨by omega, hag _ hi ?_⟩
      show _ = withL a0 a1 (i + 1).toNat
      rw [hst, h]
      rfl
    · refine hag _ hi ?_
      show _ = withL a0 a1 (i + 1).toNat
      rw [hst, h]
      simp
  · simp only [decide_eq_false_iff_not] at hi
    rw [f37, if_neg (fun hh => hh h), show i.toNat = a0.2.2.1.toNat by omega]
theorem f37_fn : f37_e.fn = f37 := rfl
theorem f37_ok : EntryOK Try.prog 37 f37_e := by
  refine entryF progOK (EnvOK.cons f93_ok (EnvOK.cons f94_ok (EnvOK.cons f95_ok (EnvOK.cons f106_ok (EnvOK.cons f110_ok (EnvOK.cons f42_ok (EnvOK.cons f34_ok (EnvOK.nil)))))))) (A := f37_A) (d := 6) Try.func37 rfl rfl (fun _ _ => trivial) fun x hpre => ?_
  obtain ⟨a0, a1⟩ := x
  exact f37_t a0 a1 _ fun _ h => h.trans (congrFun f37_fn.symm _)
theorem mem_withL {g : Int × Int × Int × List Int} {idx : Int} {n k : Nat} : (k : Int) ∈ withL g idx n ↔ k < n ∧ inGate g idx k = true := by
  simp only [withL, List.mem_map, List.mem_filter, List.mem_range]
  constructor
  · rintro ⟨m, h, e⟩
    have : m = k := by omega
    subst this
    exact h
  · intro h
    exact ⟨k, h, rfl⟩
theorem withL_sorted (g : Int × Int × Int × List Int) (idx : Int) (n : Nat) : (withL g idx n).Pairwise (· < ·) := by
  unfold withL
  rw [List.pairwise_map]
  exact (List.pairwise_lt_range.filter _).imp fun h => by omega
end Go.Proofs.Ytdhekhichomoiaa
end

section
namespace Go.Proofs.Ytdhekhichomoiaa
open Go Go.Pi Go.RowKit
set_option maxRecDepth 100000
set_option linter.unusedVariables false
set_option linter.unusedSimpArgs false

def f38 (l : List (Int × Int)) : Int × Int := f33 l
def f38_e : Entry := { doms := [(false, (.sl (.pair (.int .i64) (.int .i64))))], cods := [(false, (.int .i64)), (false, (.int .i64))], pre := fun _ => True, fn := f38, uq := false, total := true }
def f38_E : Env := [(18, f18_e), (33, f33_e)]
def f38_A : Anns := { loops := [(1048576, { tms := [(0, .keep), (4, .data false (.int .i64))], obs := [], fz := [] })], own := [] }
theorem f38_run (a0 : List (Int × Int)) (K : (Int × Int) → Prop) : runF Try.prog f38_E f38_A 6 Try.f38 f38_e.doms f38_e.cods a0 K =
    (br (lenOk (a0.length))
    (br (((a0.length) : Int) == 0)
    (K (0, 10))
    (br (lenOk (a0.length))
    (br (decide (((a0.length) : Int) > 48))
    (K (0, 8))
    (LoopP (V := Int × Unit) (fun again v => (fun (again1 : Int → Prop) (v1_0 : Int) =>
    br (lenOk (a0.length))
    (br (decide (v1_0 < ((a0.length) : Int)))
    (br (decide (0 ≤ v1_0) && decide (v1_0 < ((a0.length) : Int)))
    (br (f18 ((a0.getD v1_0.toNat (0, 0)).1, ((-1000), 1000)))
    (br (!(f18 ((a0.getD v1_0.toNat (0, 0)).2, ((-1000), 1000))))
    (K (v1_0, 2))
    (again1 (IntKind.i64.wrap (v1_0 + 1))))
    (K (v1_0, 2)))
    False)
    (K (0, 0)))
    True)
    (fun v1_0 => again (v1_0, ())) v.1) (0, ())))
    True))
    True) := by kernel_rfl
theorem f38_t (a0 : List (Int × Int)) (K : (Int × Int) → Prop) (hK : ∀ y : Int × Int, y = f38 a0 → K y) : RunF Try.prog f38_E f38_A 6 Try.f38 f38_e.doms f38_e.cods a0 K := by
  refine ⟨?_⟩
  rw [f38_run a0 K]
  have hf : ∀ x : Int × Int, f103 x = (f18 (x.1, -1000, 1000) && f18 (x.2, -1000, 1000)) := fun x => rfl
  rw [br_true_, lenOk_iff]
  intro hl
  rw [br_both]
  refine ⟨fun h0 => hK _ ?_, fun h0 => ?_⟩
  · simp only [beq_iff_eq] at h0
    have : a0.length = 0 := by omega
    simp [f38, f33, this]
  have h0 : a0.length ≠ 0 := by
    simp only [beq_eq_false_iff_ne] at h0
    omega
  rw [br_true_]
  intro _
  rw [br_dec]
  refine ⟨fun h1 => hK _ ?_, fun h1 => ?_⟩
  · have : 48 < a0.length := by omega
    simp [f38, f33, h0, this]
  have h1 : ¬ 48 < a0.length := by omega
  refine LoopP.up a0.length (fun i _ => ∀ x ∈ a0.take i.toNat, (!f103 x) = false) (fun again i v hi0 hn hI hag => ?_) (by omega) all_zero
  dsimp only
  rw [br_true_]
  intro _
  rw [br_both]
  refine ⟨fun hi => ?_, fun hi => ?_⟩
  · simp only [decide_eq_true_eq] at hi
    rw [br_false_]
    refine ⟨by simp only [Bool.and_eq_true, decide_eq_true_eq]; exact ⟨hi0, hi⟩, ?_⟩
    have bad : (!f103 (a0.getD i.toNat (0, 0))) = true → K (i, 2) := fun hne => hK _ (by
      rw [f38, f33, if_neg h0, if_neg h1, findIdx_at (d := ((0 : Int), (0 : Int))) hi0 hi hI hne]
      simp only
      rw [Int.toNat_of_nonneg hi0])
    have good : (!f103 (a0.getD i.toNat (0, 0))) = false → again (IntKind.i64.wrap (i + 1), ()) := fun he => by
      rw [wr (by omega) (by omega)]
      exact hag () hi (all_step hi0 hi hI he)
    rw [hf] at bad good
    rw [br_both]
    refine ⟨fun h2 => ?_, fun h2 => bad (by rw [h2]; rfl)⟩
    rw [br_both]
    exact ⟨fun h3 => bad (by rw [h2, Bool.true_and]; exact h3), fun h3 => good (by rw [h2, Bool.true_and]; exact h3)⟩
  · simp only [decide_eq_false_iff_not] at hi
    refine hK _ ?_
    rw [f38, f33, if_neg h0, if_neg h1, findIdx_none (all_done hi hI)]
theorem f38_fn : f38_e.fn = f38 := rfl
theorem f38_ok : EntryOK Try.prog 38 f38_e := by
  refine entryF progOK (EnvOK.cons f18_ok (EnvOK.cons f33_ok (EnvOK.nil))) (A := f38_A) (d := 6) Try.func38 rfl rfl (fun _ _ => trivial) fun x hpre => ?_
  exact f38_t x _ fun _ h => h.trans (congrFun f38_fn.symm _)
end Go.Proofs.Ytdhekhichomoiaa
end

section
namespace Go.Proofs.Ytdhekhichomoiaa
open Go Go.Pi Go.RowKit
set_option maxRecDepth 100000
set_option linter.unusedVariables false
set_option linter.unusedSimpArgs false

def f39 (g : Int × Int × Int × List Int) : Int × Int := f34 g
def f39_e : Entry := { doms := [(true, (.pair (.int .i64) (.pair (.int .i64) (.pair (.int .i64) (.sl (.int .i64))))))], cods := [(false, (.int .i64)), (false, (.int .i64))], pre := fun _ => True, fn := f39, uq := false, total := true }
def f39_E : Env := [(18, f18_e), (34, f34_e)]
def f39_A : Anns := { loops := [(1048576, { tms := [(1, .keep), (4, .data false (.int .i64))], obs := [(1048576, .keep)], fz := [] })], own := [] }
theorem f39_run (a0 : Int × Int × Int × List Int) (K : (Int × Int) → Prop) : runF Try.prog f39_E f39_A 6 Try.f39 f39_e.doms f39_e.cods a0 K =
    (br (!(f18 (a0.1, (0, 48))))
    (K (0, 2))
    (br (!(f18 (a0.2.1, (1, 48))))
    (K (0, 2))
    (br (!(f18 (a0.2.2.1, (1, 20))))
    (K (0, 2))
    (br (lenOk (a0.2.2.2.length))
    (br (((a0.2.2.2.length) : Int) == 0)
    (K (0, 10))
    (br (lenOk (a0.2.2.2.length))
    (br (decide (((a0.2.2.2.length) : Int) > 16))
    (K (0, 8))
    (LoopP (V := Int × Unit) (fun again v => (fun (again1 : Int → Prop) (v1_0 : Int) =>
    br (lenOk (a0.2.2.2.length))
    (br (decide (v1_0 < ((a0.2.2.2.length) : Int)))
    (br (decide (0 ≤ v1_0) && decide (v1_0 < ((a0.2.2.2.length) : Int)))
    (br (!(f18 ((a0.2.2.2.getD v1_0.toNat 0), (0, 100))))
    (K (v1_0, 2))
    (again1 (IntKind.i64.wrap (v1_0 + 1))))
    False)
    (K (0, 0)))
    True)
    (fun v1_0 => again (v1_0, ())) v.1) (0, ())))
    True))
    True)))) := by kernel_rfl
theorem f39_t (a0 : Int × Int × Int × List Int) (K : (Int × Int) → Prop) (hK : ∀ y : Int × Int, y = f39 a0 → K y) : RunF Try.prog f39_E f39_A 6 Try.f39 f39_e.doms f39_e.cods a0 K := by
  refine ⟨?_⟩
  rw [f39_run a0 K]
  have hf : ∀ n : Int, f105 n = f18 (n, 0, 100) := fun n => rfl
  have bad : ¬ ((0 ≤ a0.1 ∧ a0.1 ≤ 48) ∧ (1 ≤ a0.2.1 ∧ a0.2.1 ≤ 48) ∧ (1 ≤ a0.2.2.1 ∧ a0.2.2.1 ≤ 20)) → K (0, 2) := fun h => hK _ (by rw [f39, f34, if_pos h])
  rw [br_both]
  refine ⟨fun h => bad fun hh => ?_, fun h1 => ?_⟩
  · simp [f18, hh.1] at h
  rw [br_both]
  refine ⟨fun h => bad fun hh => ?_, fun h2 => ?_⟩
  · simp [f18, hh.2.1] at h
  rw [br_both]
  refine ⟨fun h => bad fun hh => ?_, fun h3 => ?_⟩
  · simp [f18, hh.2.2] at h
  have hc : ¬ ¬ ((0 ≤ a0.1 ∧ a0.1 ≤ 48) ∧ (1 ≤ a0.2.1 ∧ a0.2.1 ≤ 48) ∧ (1 ≤ a0.2.2.1 ∧ a0.2.2.1 ≤ 20)) := by
    simp only [Bool.not_eq_false', f18, Bool.and_eq_true, decide_eq_true_eq] at h1 h2 h3
    exact not_not_intro ⟨h1, h2, h3⟩
  rw [br_true_, lenOk_iff]
  intro hl
  rw [br_both]
  refine ⟨fun h0 => hK _ ?_, fun h0 => ?_⟩
  · simp only [beq_iff_eq] at h0
    have : a0.2.2.2.length = 0 := by omega
    rw [f39, f34, if_neg hc, if_pos this]
  have h0 : a0.2.2.2.length ≠ 0 := by
    simp only [beq_eq_false_iff_ne] at h0
    omega
  rw [br_true_]
  intro _
  rw [br_dec]
  refine ⟨fun h4 => hK _ ?_, fun h4 => ?_⟩
  · rw [f39, f34, if_neg hc, if_neg h0, if_pos (by omega)]
  have h4 : ¬ 16 < a0.2.2.2.length := by omega
  refine LoopP.up a0.2.2.2.length (fun i _ => ∀ x ∈ a0.2.2.2.take i.toNat, (!f105 x) = false) (fun again i v hi0 hn hI hag => ?_) (by omega) all_zero
  dsimp only
  rw [br_true_]
  intro _
  rw [br_both]
  refine ⟨fun hi => ?_, fun hi => ?_⟩
  · simp only [decide_eq_true_eq] at hi
    rw [br_false_]
    refine ⟨by simp only [Bool.and_eq_true, decide_eq_true_eq]; exact ⟨hi0, hi⟩, ?_⟩
    rw [← hf, br_both]
    refine ⟨fun hne => hK _ ?_, fun he => ?_⟩
    · rw [f39, f34, if_neg hc, if_neg h0, if_neg h4, findIdx_at (d := (0 : Int)) hi0 hi hI hne]
      simp only
      rw [Int.toNat_of_nonneg hi0]
    · rw [wr (by omega) (by omega)]
      exact hag () hi (all_step hi0 hi hI he)
  · simp only [decide_eq_false_iff_not] at hi
    refine hK _ ?_
    rw [f39, f34, if_neg hc, if_neg h0, if_neg h4, findIdx_none (all_done hi hI)]
theorem f39_fn : f39_e.fn = f39 := rfl
theorem f39_ok : EntryOK Try.prog 39 f39_e := by
  refine entryF progOK (EnvOK.cons f18_ok (EnvOK.cons f34_ok (EnvOK.nil))) (A := f39_A) (d := 6) Try.func39 rfl rfl (fun _ _ => trivial) fun x hpre => ?_
  exact f39_t x _ fun _ h => h.trans (congrFun f39_fn.symm _)
end Go.Proofs.Ytdhekhichomoiaa
end

section
namespace Go.Proofs.Ytdhekhichomoiaa
open Go Go.Pi Go.RowKit
set_option maxRecDepth 100000
set_option linter.unusedVariables false
set_option linter.unusedSimpArgs false

def f40 (x : List Int × List Int) : Bool := decide (x.1 = x.2)
def f40_e : Entry := { doms := [(false, (.sl (.int .i64))), (false, (.sl (.int .i64)))], cods := [(false, .bool)], pre := fun _ => True, fn := f40, uq := false, total := true }
def f40_E : Env := []
def f40_A : Anns := { loops := [(1048576, { tms := [(0, .keep), (1, .keep), (5, .data false (.int .i64))], obs := [], fz := [] })], own := [] }
theorem f40_run (a0 : List Int) (a1 : List Int) (K : Bool → Prop) : runF Try.prog f40_E f40_A 6 Try.f40 f40_e.doms f40_e.cods (a0, a1) K =
    (br (lenOk (a0.length))
    (br (lenOk (a1.length))
    (br (((a0.length) : Int) != ((a1.length) : Int))
    (K false)
    (LoopP (V := Int × Unit) (fun again v => (fun (again1 : Int → Prop) (v1_0 : Int) =>
    br (lenOk (a0.length))
    (br (decide (v1_0 < ((a0.length) : Int)))
    (br (decide (0 ≤ v1_0) && decide (v1_0 < ((a0.length) : Int)))
    (br (decide (0 ≤ v1_0) && decide (v1_0 < ((a1.length) : Int)))
    (br ((a0.getD v1_0.toNat 0) != (a1.getD v1_0.toNat 0))
    (K false)
    (again1 (IntKind.i64.wrap (v1_0 + 1))))
    False)
    False)
    (K true))
    True)
    (fun v1_0 => again (v1_0, ())) v.1) (0, ())))
    True)
    True) := by kernel_rfl
theorem f40_t (a0 : List Int) (a1 : List Int) (K : Bool → Prop) (hK : ∀ y : Bool, y = f40 (a0, a1) → K y) : RunF Try.prog f40_E f40_A 6 Try.f40 f40_e.doms f40_e.cods (a0, a1) K := by
  refine ⟨?_⟩
  rw [f40_run a0 a1 K]
  rw [br_true_, lenOk_iff]
  intro hl
  rw [br_true_]
  intro _
  rw [br_both]
  refine ⟨fun hne => hK _ ?_, fun he => ?_⟩
  · have : a0 ≠ a1 := fun e => by simp [e] at hne
    simp [f40, this]
  have he : a0.length = a1.length := by
    simp only [bne_eq_false_iff_eq] at he
    omega
  refine LoopP.up a0.length (fun i _ => a0.take i.toNat = a1.take i.toNat) (fun again i v hi0 hn hI hag => ?_) (by omega) (by simp)
  dsimp only
  rw [br_true_]
  intro _
  rw [br_both]
  refine ⟨fun hi => ?_, fun hi => hK _ ?_⟩
  · simp only [decide_eq_true_eq] at hi
    simp only [br_false_, Bool.and_eq_true, decide_eq_true_eq]
    refine ⟨⟨hi0, hi⟩, ⟨hi0, by omega⟩, ?_⟩
    rw [br_both]
    refine ⟨fun hne => hK _ ?_, fun heq => ?_⟩
    · have : a0 ≠ a1 := fun e => by simp [e] at hne
      simp [f40, this]
    · rw [wr (by omega) (by omega)]
      refine hag () hi ?_
      have h1 : i.toNat < a0.length := by omega
      have h2 : i.toNat < a1.length := by omega
      rw [getD_lt h1, getD_lt h2] at heq
      have h3 : a0[i.toNat] = a1[i.toNat] := by simpa using heq
      rw [show (i + 1).toNat = i.toNat + 1 by omega, List.take_add_one, List.take_add_one, hI, List.getElem?_eq_getElem h1, List.getElem?_eq_getElem h2, h3]
  · simp only [decide_eq_false_iff_not] at hi
    rw [List.take_of_length_le (by omega), List.take_of_length_le (by omega)] at hI
    simp [f40, hI]
theorem f40_fn : f40_e.fn = f40 := rfl
theorem f40_ok : EntryOK Try.prog 40 f40_e := by
  refine entryF progOK (EnvOK.nil) (A := f40_A) (d := 6) Try.func40 rfl rfl (fun _ _ => trivial) fun x hpre => ?_
  obtain ⟨a0, a1⟩ := x
  exact f40_t a0 a1 _ fun _ h => h.trans (congrFun f40_fn.symm _)
end Go.Proofs.Ytdhekhichomoiaa
end

section
namespace Go.Proofs.Ytdhekhichomoiaa
open Go Go.Pi Go.RowKit
set_option maxRecDepth 100000
set_option linter.unusedVariables false
set_option linter.unusedSimpArgs false

def f41 (x : (Int × Int × Int × List Int) × Int) : List Int := withL x.1 x.2 x.1.2.2.1.toNat
def f41_pre (x : (Int × Int × Int × List Int) × Int) : Prop := (f34 x.1).2 = 0 ∧ 0 ≤ x.2 ∧ x.2 ≤ 47
def f41_e : Entry := { doms := [(true, (.pair (.int .i64) (.pair (.int .i64) (.pair (.int .i64) (.sl (.int .i64)))))), (false, (.int .i64))], cods := [(false, (.sl (.int .i64)))], pre := f41_pre, fn := f41, uq := false, total := false }
def f41_E : Env := [(37, f37_e)]
def f41_A : Anns := { loops := [(1048576, { tms := [(1, .keep), (2, .keep), (5, .ref 1057795), (6, .data false (.int .i64))], obs := [(1048576, .keep), (1057795, .arr (.uniq) (.int .i64))], fz := [] }),
  (1048578, { tms := [(1, .keep), (2, .keep), (5, .ref 1057795), (6, .keep), (7, .data false (.int .i64))], obs := [(1048576, .keep), (1057795, .arr (.uniq) (.int .i64))], fz := [] })], own := [] }
theorem f41_run (a0 : Int × Int × Int × List Int) (a1 : Int) (K : (List Int) → Prop) : runF Try.prog f41_E f41_A 6 Try.f41 f41_e.doms f41_e.cods (a0, a1) K =
    (LoopP (V := Int × List Int × Unit) (fun again v => (fun (again1 : Int → List Int → Prop) (v1_0 : Int) (v1_1 : List Int) =>
    br (decide (v1_0 < a0.2.2.1))
    (LoopP (V := Int × List Int × Unit) (fun again v => (fun (again2 : Int → List Int → Prop) (v2_0 : Int) (v2_1 : List Int) =>
    br (lenOk (a0.2.2.2.length))
    (br (decide (v2_0 < ((a0.2.2.2.length) : Int)))
    (br ((IntKind.i64.wrap ((IntKind.i64.wrap (a0.1 + (IntKind.i64.wrap (v1_0 * a0.2.1)))) + v2_0)) == a1)
    (br (roomOk ((v2_1.length) + 1) 8)
    (again2 (IntKind.i64.wrap (v2_0 + 1)) (v2_1 ++ ([v1_0] : List Int)))
    False)
    (again2 (IntKind.i64.wrap (v2_0 + 1)) v2_1))
    (again1 (IntKind.i64.wrap (v1_0 + 1)) v2_1))
    True)
    (fun v2_0 v2_1 => again (v2_0, v2_1, ())) v.1 v.2.1) (0, v1_1, ()))
    (K v1_1))
    (fun v1_0 v1_1 => again (v1_0, v1_1, ())) v.1 v.2.1) (0, ([] : List Int), ())) := by kernel_rfl
theorem f41_t (a0 : Int × Int × Int × List Int) (a1 : Int) (hpre : f41_pre (a0, a1)) (K : (List Int) → Prop) (hK : ∀ y : List Int, y = f41 (a0, a1) → K y) : RunF Try.prog f41_E f41_A 6 Try.f41 f41_e.doms f41_e.cods (a0, a1) K := by
  refine ⟨?_⟩
  rw [f41_run a0 a1 K]
  obtain ⟨hg, hx0, hx47⟩ := hpre
  have G := gates_ok hg
  have hc := G.count
  have hf := G.first
  have hh := G.hop
  have hlen := G.len
  simp only at hx0 hx47 hc hf hh hlen
  refine LoopP.up a0.2.2.1 (fun i v => v.1 = withL a0 a1 i.toNat) (fun again i v hi0 hn hI hag => ?_) (by omega) rfl
  obtain ⟨v, u⟩ := v
  simp only at hI hag ⊢
  subst hI
  rw [br_both]
  refine ⟨fun hi => ?_, fun hi => hK _ ?_⟩
  · simp only [decide_eq_true_eq] at hi
    have hcast : ((i.toNat : Nat) : Int) = i := Int.toNat_of_nonneg hi0
    have hm0 : 0 ≤ i * a0.2.1 := Int.mul_nonneg hi0 (by omega)
    have hm1 : i * a0.2.1 ≤ 20 * 48 := Int.mul_le_mul (by omega) hh.2 (by omega) (by omega)
    rw [wr (n := i * a0.2.1) (by omega) (by omega), wr (n := a0.1 + i * a0.2.1) (by omega) (by omega), wr (n := i + 1) (by omega) (by omega)]
    have hin : inGate a0 a1 i.toNat = (decide (0 ≤ a1 - (a0.1 + i * a0.2.1)) && decide (a1 - (a0.1 + i * a0.2.1) < a0.2.2.2.length)) := by
      rw [inGate, hcast, f110]
      simp only
      rw [wr (n := i * a0.2.1) (by omega) (by omega), wr (n := a0.1 + i * a0.2.1) (by omega) (by omega), wr (n := a1 - (a0.1 + i * a0.2.1)) (by omega) (by omega), wr (n := (a0.2.2.2.length : Int) - 1) (by omega) (by omega), f95]
      congr 1
      simp only [decide_eq_decide]
      omega
    refine LoopP.up a0.2.2.2.length (fun j v => v.1 = withL a0 a1 i.toNat ++ (if 0 ≤ a1 - (a0.1 + i * a0.2.1) ∧ a1 - (a0.1 + i * a0.2.1) < j then [i] else [])) (fun again2 j v hj0 hjn hJ hag2 => ?_) (by omega) ?_
    · obtain ⟨v, u⟩ := v
      simp only at hJ hag2 ⊢
      subst hJ
      rw [br_true_]
      intro _
      rw [br_both]
      refine ⟨fun hj => ?_, fun hj => ?_⟩
      · simp only [decide_eq_true_eq] at hj
        rw [wr (n := a0.1 + i * a0.2.1 + j) (by omega) (by omega), wr (n := j + 1) (by omega) (by omega), br_both]
        refine ⟨fun he => ?_, fun he => ?_⟩
        · simp only [beq_iff_eq] at he
          rw [if_neg (by omega), List.append_nil]
          have := withL_length a0 a1 i.toNat
          rw [br_false_, roomOk_iff]
          refine ⟨by omega, hag2 _ hj ?_⟩
          show _ = withL a0 a1 i.toNat ++ _
          rw [if_pos (by omega)]
        · simp only [beq_eq_false_iff_ne] at he
          refine hag2 _ hj ?_
          show _ = withL a0 a1 i.toNat ++ _
          congr 1
          by_cases h1 : 0 ≤ a1 - (a0.1 + i * a0.2.1) ∧ a1 - (a0.1 + i * a0.2.1) < j
          · rw [if_pos h1, if_pos (by omega)]
          · rw [if_neg h1, if_neg (by omega)]
      · simp only [decide_eq_false_iff_not] at hj
        refine hag _ hi ?_
        show _ = withL a0 a1 (i + 1).toNat
        rw [show (i + 1).toNat = i.toNat + 1 by omega, withL_step, hcast, hin]
        congr 1
        by_cases h1 : 0 ≤ a1 - (a0.1 + i * a0.2.1) ∧ a1 - (a0.1 + i * a0.2.1) < j
        · rw [if_pos h1, if_pos (by simp only [Bool.and_eq_true, decide_eq_true_eq]; omega)]
        · rw [if_neg h1, if_neg (by simp only [Bool.and_eq_true, decide_eq_true_eq]; omega)]
    · show _ = withL a0 a1 i.toNat ++ _
      rw [if_neg (by omega), List.append_nil]
  · simp only [decide_eq_false_iff_not] at hi
    rw [f41, show i.toNat = a0.2.2.1.toNat by omega]
theorem f41_fn : f41_e.fn = f41 := rfl
theorem f41_ok : EntryOK Try.prog 41 f41_e := by
  refine entryF progOK (EnvOK.cons f37_ok (EnvOK.nil)) (A := f41_A) (d := 6) Try.func41 rfl rfl (fun h => by cases h) fun x hpre => ?_
  obtain ⟨a0, a1⟩ := x
  exact f41_t a0 a1 hpre _ fun _ h => h.trans (congrFun f41_fn.symm _)
end Go.Proofs.Ytdhekhichomoiaa
end

section
namespace Go.Proofs.Ytdhekhichomoiaa
open Go Go.Pi Go.RowKit
set_option maxRecDepth 100000
set_option linter.unusedVariables false
set_option linter.unusedSimpArgs false

def f43 (x : (Int × Int × Int × List Int) × Int) : Int := f107 x
def f43_e : Entry := { doms := [(true, (.pair (.int .i64) (.pair (.int .i64) (.pair (.int .i64) (.sl (.int .i64)))))), (false, (.int .i64))], cods := [(false, (.int .i64))], pre := fun _ => True, fn := f43, uq := false, total := true }
def f43_E : Env := [(18, f18_e), (107, f107_e)]
def f43_A : Anns := { loops := [], own := [] }
theorem f43_run (a0 : Int × Int × Int × List Int) (a1 : Int) (K : Int → Prop) : runF Try.prog f43_E f43_A 6 Try.f43 f43_e.doms f43_e.cods (a0, a1) K =
    (br (!(f18 (a1, (0, (IntKind.i64.wrap (a0.2.2.1 - 1))))))
    (K 6)
    (K 0)) := by kernel_rfl
theorem f43_t (a0 : Int × Int × Int × List Int) (a1 : Int) (K : Int → Prop) (hK : ∀ y : Int, y = f43 (a0, a1) → K y) : RunF Try.prog f43_E f43_A 6 Try.f43 f43_e.doms f43_e.cods (a0, a1) K := by
  refine ⟨?_⟩
  rw [f43_run a0 a1 K]
  have e : f107 (a0, a1) = f94 (f18 (a1, 0, IntKind.i64.wrap (a0.2.2.1 - 1)), 6) := rfl
  rw [br_both]
  exact ⟨fun h => hK _ (by rw [f43, e]; simp only [Bool.not_eq_true'] at h; simp [f94, h]), fun h => hK _ (by rw [f43, e]; simp only [Bool.not_eq_false'] at h; simp [f94, h])⟩
theorem f43_fn : f43_e.fn = f43 := rfl
theorem f43_ok : EntryOK Try.prog 43 f43_e := by
  refine entryF progOK (EnvOK.cons f18_ok (EnvOK.cons f107_ok (EnvOK.nil))) (A := f43_A) (d := 6) Try.func43 rfl rfl (fun _ _ => trivial) fun x hpre => ?_
  obtain ⟨a0, a1⟩ := x
  exact f43_t a0 a1 _ fun _ h => h.trans (congrFun f43_fn.symm _)
end Go.Proofs.Ytdhekhichomoiaa
end

section
namespace Go.Proofs.Ytdhekhichomoiaa
open Go Go.Pi Go.RowKit
set_option maxRecDepth 100000
set_option linter.unusedVariables false
set_option linter.unusedSimpArgs false

def f44 (x : (Int × Int × Int × List Int) × List (Int × Int) × Int) : Int := f94 (f108 x, 19)
def f44_e : Entry := { doms := [(true, (.pair (.int .i64) (.pair (.int .i64) (.pair (.int .i64) (.sl (.int .i64)))))), (false, (.sl (.pair (.int .i64) (.int .i64)))), (false, (.int .i64))], cods := [(false, (.int .i64))], pre := fun _ => True, fn := f44, uq := false, total := true }
def f44_E : Env := [(108, f108_e), (94, f94_e)]
def f44_A : Anns := { loops := [], own := [] }
theorem f44_run (a0 : Int × Int × Int × List Int) (a1 : List (Int × Int)) (a2 : Int) (K : Int → Prop) : runF Try.prog f44_E f44_A 6 Try.f44 f44_e.doms f44_e.cods (a0, a1, a2) K =
    (br (lenOk (a0.2.2.2.length))
    (br (lenOk (a1.length))
    (br (decide ((IntKind.i64.wrap ((IntKind.i64.wrap (a0.1 + (IntKind.i64.wrap (a2 * a0.2.1)))) + ((a0.2.2.2.length) : Int))) > ((a1.length) : Int)))
    (K 19)
    (K 0))
    True)
    True) := by kernel_rfl
theorem f44_t (a0 : Int × Int × Int × List Int) (a1 : List (Int × Int)) (a2 : Int) (K : Int → Prop) (hK : ∀ y : Int, y = f44 (a0, a1, a2) → K y) : RunF Try.prog f44_E f44_A 6 Try.f44 f44_e.doms f44_e.cods (a0, a1, a2) K := by
  refine ⟨?_⟩
  rw [f44_run a0 a1 a2 K]
  rw [br_true_]
  intro _
  rw [br_true_]
  intro _
  rw [br_dec]
  refine ⟨fun h => hK _ ?_, fun h => hK _ ?_⟩
  · have : f108 (a0, a1, a2) = false := by
      exact decide_eq_false (Int.not_le.mpr h)
    simp [f44, f94, this]
  · have : f108 (a0, a1, a2) = true := by
      exact decide_eq_true (Int.not_lt.mp h)
    simp [f44, f94, this]
theorem f44_fn : f44_e.fn = f44 := rfl
theorem f44_ok : EntryOK Try.prog 44 f44_e := by
  refine entryF progOK (EnvOK.cons f108_ok (EnvOK.cons f94_ok (EnvOK.nil))) (A := f44_A) (d := 6) Try.func44 rfl rfl (fun _ _ => trivial) fun x hpre => ?_
  obtain ⟨a0, a1, a2⟩ := x
  exact f44_t a0 a1 a2 _ fun _ h => h.trans (congrFun f44_fn.symm _)
end Go.Proofs.Ytdhekhichomoiaa
end

section
namespace Go.Proofs.Ytdhekhichomoiaa
open Go Go.Pi Go.RowKit
set_option maxRecDepth 100000
set_option linter.unusedVariables false
set_option linter.unusedSimpArgs false

def f45 (x : (Int × Int × Int × List Int) × List (Int × Int) × Int × Int) : List (Int × Int) := f109 x
def f45_pre (x : (Int × Int × Int × List Int) × List (Int × Int) × Int × Int) : Prop := x.1.2.2.2.length ≤ 1048576
def f45_e : Entry := { doms := [(true, (.pair (.int .i64) (.pair (.int .i64) (.pair (.int .i64) (.sl (.int .i64)))))), (false, (.sl (.pair (.int .i64) (.int .i64)))), (false, (.int .i64)), (false, (.int .i64))], cods := [(false, (.sl (.pair (.int .i64) (.int .i64))))], pre := f45_pre, fn := f45, uq := false, total := false }
def f45_E : Env := [(18, f18_e), (109, f109_e), (110, f110_e)]
def f45_A : Anns := { loops := [(1048576, { tms := [(1, .keep), (2, .keep), (3, .keep), (4, .keep), (9, .ref 1057795), (10, .data false (.int .i64))], obs := [(1048576, .keep), (1057795, .arr (.uniq) (.pair (.int .i64) (.int .i64)))], fz := [] })], own := [] }
theorem f45_run (a0 : Int × Int × Int × List Int) (a1 : List (Int × Int)) (a2 : Int) (a3 : Int) (K : (List (Int × Int)) → Prop) : runF Try.prog f45_E f45_A 6 Try.f45 f45_e.doms f45_e.cods (a0, a1, a2, a3) K =
    (LoopP (V := Int × List (Int × Int) × Unit) (fun again v => (fun (again1 : Int → List (Int × Int) → Prop) (v1_0 : Int) (v1_1 : List (Int × Int)) =>
    br (lenOk (a0.2.2.2.length))
    (br (decide (v1_0 < ((a0.2.2.2.length) : Int)))
    (br (lenOk (a1.length))
    (br (f18 ((IntKind.i64.wrap ((IntKind.i64.wrap ((IntKind.i64.wrap (a0.1 + (IntKind.i64.wrap (a2 * a0.2.1)))) + v1_0)) + a3)), (0, (IntKind.i64.wrap (((a1.length) : Int) - 1)))))
    (br (decide (0 ≤ v1_0) && decide (v1_0 < ((a0.2.2.2.length) : Int)))
    (br (decide (0 ≤ (IntKind.i64.wrap ((IntKind.i64.wrap ((IntKind.i64.wrap (a0.1 + (IntKind.i64.wrap (a2 * a0.2.1)))) + v1_0)) + a3))) && decide ((IntKind.i64.wrap ((IntKind.i64.wrap ((IntKind.i64.wrap (a0.1 + (IntKind.i64.wrap (a2 * a0.2.1)))) + v1_0)) + a3)) < ((a1.length) : Int)))
    (br (decide (0 ≤ v1_0) && decide (v1_0 < ((a0.2.2.2.length) : Int)))
    (br (decide (0 ≤ (IntKind.i64.wrap ((IntKind.i64.wrap ((IntKind.i64.wrap (a0.1 + (IntKind.i64.wrap (a2 * a0.2.1)))) + v1_0)) + a3))) && decide ((IntKind.i64.wrap ((IntKind.i64.wrap ((IntKind.i64.wrap (a0.1 + (IntKind.i64.wrap (a2 * a0.2.1)))) + v1_0)) + a3)) < ((a1.length) : Int)))
    (br (roomOk ((v1_1.length) + 1) 16)
    (again1 (IntKind.i64.wrap (v1_0 + 1)) (v1_1 ++ ([((IntKind.i64.wrap ((a0.2.2.2.getD v1_0.toNat 0) * (a1.getD ((IntKind.i64.wrap ((IntKind.i64.wrap ((IntKind.i64.wrap (a0.1 + (IntKind.i64.wrap (a2 * a0.2.1)))) + v1_0)) + a3)).toNat) (0, 0)).1)), (IntKind.i64.wrap ((a0.2.2.2.getD v1_0.toNat 0) * (a1.getD ((IntKind.i64.wrap ((IntKind.i64.wrap ((IntKind.i64.wrap (a0.1 + (IntKind.i64.wrap (a2 * a0.2.1)))) + v1_0)) + a3)).toNat) (0, 0)).2)))] : List (Int × Int))))
    False)
    False)
    False)
    False)
    False)
    (br (roomOk ((v1_1.length) + 1) 16)
    (again1 (IntKind.i64.wrap (v1_0 + 1)) (v1_1 ++ ([(0, 0)] : List (Int × Int))))
    False))
    True)
    (K v1_1))
    True)
    (fun v1_0 v1_1 => again (v1_0, v1_1, ())) v.1 v.2.1) (0, ([] : List (Int × Int)), ())) := by kernel_rfl
theorem f45_t (a0 : Int × Int × Int × List Int) (a1 : List (Int × Int)) (a2 : Int) (a3 : Int) (hpre : f45_pre (a0, a1, a2, a3)) (K : (List (Int × Int)) → Prop) (hK : ∀ y : List (Int × Int), y = f45 (a0, a1, a2, a3) → K y) : RunF Try.prog f45_E f45_A 6 Try.f45 f45_e.doms f45_e.cods (a0, a1, a2, a3) K := by
  refine ⟨?_⟩
  rw [f45_run a0 a1 a2 a3 K]
  have hpl : a0.2.2.2.length ≤ 1048576 := hpre
  have h110 : IntKind.i64.wrap (a0.1 + IntKind.i64.wrap (a2 * a0.2.1)) = f110 (a0, a2) := rfl
  rw [h110]
  refine LoopP.up a0.2.2.2.length (fun i v => v.1 = (List.range i.toNat).map (cutAt a0 a1 a2 a3)) (fun again i v hi0 hn hI hag => ?_) (by omega) rfl
  obtain ⟨v, u⟩ := v
  simp only at hI hag ⊢
  subst hI
  rw [br_true_]
  intro _
  rw [br_both]
  refine ⟨fun hi => ?_, fun hi => hK _ ?_⟩
  · simp only [decide_eq_true_eq] at hi
    have hin : (decide (0 ≤ i) && decide (i < (a0.2.2.2.length : Int))) = true := by simp only [Bool.and_eq_true, decide_eq_true_eq]; exact ⟨hi0, hi⟩
    rw [hin]
    simp only [br_t]
    rw [br_true_, lenOk_iff]
    intro hll
    rw [wr (n := (a1.length : Int) - 1) (by omega) (by omega), wr (n := i + 1) (by omega) (by omega)]
    have hroom : roomOk (((List.range i.toNat).map (cutAt a0 a1 a2 a3)).length + 1) 16 = true := by rw [roomOk_iff]; simp; omega
    have hcast : ((i.toNat : Nat) : Int) = i := Int.toNat_of_nonneg hi0
    have next : ∀ z, z = cutAt a0 a1 a2 a3 i.toNat → again (i + 1, (List.range i.toNat).map (cutAt a0 a1 a2 a3) ++ [z], ()) := fun z hz => hag _ hi (by
      show _ = (List.range (i + 1).toNat).map (cutAt a0 a1 a2 a3)
      rw [← app_step hi0, hz])
    rw [br_both]
    refine ⟨fun h => ?_, fun h => ?_⟩
    · simp only [f18, Bool.and_eq_true, decide_eq_true_eq] at h
      rw [br_false_]
      refine ⟨by simp only [Bool.and_eq_true, decide_eq_true_eq]; omega, ?_⟩
      rw [br_false_]
      refine ⟨by simp only [Bool.and_eq_true, decide_eq_true_eq]; omega, ?_⟩
      rw [hroom, br_t]
      refine next _ ?_
      unfold cutAt
      rw [hcast]
      simp only
      rw [if_pos (by omega)]
    · simp only [f18, Bool.and_eq_false_iff, decide_eq_false_iff_not] at h
      rw [hroom, br_t]
      refine next _ ?_
      unfold cutAt
      rw [hcast]
      simp only
      rw [if_neg (by omega)]
  · simp only [decide_eq_false_iff_not] at hi
    rw [f45, f109, show i.toNat = a0.2.2.2.length by omega]
theorem f45_fn : f45_e.fn = f45 := rfl
theorem f45_ok : EntryOK Try.prog 45 f45_e := by
  refine entryF progOK (EnvOK.cons f18_ok (EnvOK.cons f109_ok (EnvOK.cons f110_ok (EnvOK.nil)))) (A := f45_A) (d := 6) Try.func45 rfl rfl (fun h => by cases h) fun x hpre => ?_
  obtain ⟨a0, a1, a2, a3⟩ := x
  exact f45_t a0 a1 a2 a3 hpre _ fun _ h => h.trans (congrFun f45_fn.symm _)
end Go.Proofs.Ytdhekhichomoiaa
end
