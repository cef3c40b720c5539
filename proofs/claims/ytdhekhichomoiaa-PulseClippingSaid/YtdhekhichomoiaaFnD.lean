/- What functions of the program compute, each proved once, part 4. -/
import Derived.Test.YtdhekhichomoiaaPiC
import Derived.Test.YtdhekhichomoiaaFnA
import Derived.Test.YtdhekhichomoiaaFnB

section
namespace Go.Proofs.Ytdhekhichomoiaa
open Go Go.Pi Go.RowKit
set_option maxRecDepth 100000
set_option linter.unusedVariables false
set_option linter.unusedSimpArgs false

def f18 (x : Int × Int × Int) : Bool := decide (x.2.1 ≤ x.1) && decide (x.1 ≤ x.2.2)
def f18_e : Entry := { doms := [(false, (.int .i64)), (false, (.int .i64)), (false, (.int .i64))], cods := [(false, .bool)], pre := fun _ => True, fn := f18, uq := false, total := true }
def f18_E : Env := []
def f18_A : Anns := { loops := [], own := [] }
theorem f18_run (a0 : Int) (a1 : Int) (a2 : Int) (K : Bool → Prop) : runF Try.prog f18_E f18_A 6 Try.f18 f18_e.doms f18_e.cods (a0, a1, a2) K =
    (br (decide (a1 ≤ a0))
    (K (decide (a0 ≤ a2)))
    (K false)) := by kernel_rfl
theorem f18_t (a0 : Int) (a1 : Int) (a2 : Int) (K : Bool → Prop) (hK : ∀ y : Bool, y = f18 (a0, a1, a2) → K y) : RunF Try.prog f18_E f18_A 6 Try.f18 f18_e.doms f18_e.cods (a0, a1, a2) K := by
  refine ⟨?_⟩
  rw [f18_run a0 a1 a2 K]
  rw [br_dec]
  exact ⟨fun h => hK _ (by simp [f18, h]), fun h => hK _ (by simp [f18, h])⟩
theorem f18_fn : f18_e.fn = f18 := rfl
theorem f18_ok : EntryOK Try.prog 18 f18_e := by
  refine entryF progOK (EnvOK.nil) (A := f18_A) (d := 6) Try.func18 rfl rfl (fun _ _ => trivial) fun x hpre => ?_
  obtain ⟨a0, a1, a2⟩ := x
  exact f18_t a0 a1 a2 _ fun _ h => h.trans (congrFun f18_fn.symm _)
end Go.Proofs.Ytdhekhichomoiaa
end

section
namespace Go.Proofs.Ytdhekhichomoiaa
open Go Go.Pi Go.RowKit
set_option maxRecDepth 100000
set_option linter.unusedVariables false
set_option linter.unusedSimpArgs false

def f24 (l : List (Int × Int)) : Bool := decide (l.length ≤ 50)
def f24_e : Entry := { doms := [(false, (.sl (.pair (.int .i64) (.int .i64))))], cods := [(false, .bool)], pre := fun _ => True, fn := f24, uq := false, total := true }
def f24_E : Env := []
def f24_A : Anns := { loops := [], own := [] }
theorem f24_run (a0 : List (Int × Int)) (K : Bool → Prop) : runF Try.prog f24_E f24_A 6 Try.f24 f24_e.doms f24_e.cods a0 K =
    (br (lenOk (a0.length))
    (K (decide (((a0.length) : Int) ≤ 50)))
    True) := by kernel_rfl
theorem f24_t (a0 : List (Int × Int)) (K : Bool → Prop) (hK : ∀ y : Bool, y = f24 a0 → K y) : RunF Try.prog f24_E f24_A 6 Try.f24 f24_e.doms f24_e.cods a0 K := by
  refine ⟨?_⟩
  rw [f24_run a0 K]
  rw [br_true_]
  intro _
  refine hK _ ?_
  unfold f24
  congr 1
  simp only [eq_iff_iff]
  omega
theorem f24_fn : f24_e.fn = f24 := rfl
theorem f24_ok : EntryOK Try.prog 24 f24_e := by
  refine entryF progOK (EnvOK.nil) (A := f24_A) (d := 6) Try.func24 rfl rfl (fun _ _ => trivial) fun x hpre => ?_
  exact f24_t x _ fun _ h => h.trans (congrFun f24_fn.symm _)
end Go.Proofs.Ytdhekhichomoiaa
end

section
namespace Go.Proofs.Ytdhekhichomoiaa
open Go Go.Pi Go.RowKit
set_option maxRecDepth 100000
set_option linter.unusedVariables false
set_option linter.unusedSimpArgs false

def f26 (l : List (Int × Int)) : List (Int × Int) := l
def f26_pre (l : List (Int × Int)) : Prop := l.length ≤ 1048576
def f26_e : Entry := { doms := [(false, (.sl (.pair (.int .i64) (.int .i64))))], cods := [(false, (.sl (.pair (.int .i64) (.int .i64))))], pre := f26_pre, fn := f26, uq := true, total := false }
def f26_E : Env := []
def f26_A : Anns := { loops := [], own := [1049600] }
theorem f26_run (a0 : List (Int × Int)) (K : (List (Int × Int)) → Prop) : runU Try.prog f26_E f26_A 6 Try.f26 f26_e.doms f26_e.cods a0 K =
    (br (roomOk (0 + (a0.length)) 16)
    (K (([] : List (Int × Int)) ++ a0))
    False) := by kernel_rfl
theorem f26_t (a0 : List (Int × Int)) (hpre : f26_pre a0) (K : (List (Int × Int)) → Prop) (hK : ∀ y : List (Int × Int), y = f26 a0 → K y) : RunU Try.prog f26_E f26_A 6 Try.f26 f26_e.doms f26_e.cods a0 K := by
  refine ⟨?_⟩
  rw [f26_run a0 K]
  simp only [br_false_, roomOk_iff]
  have : a0.length ≤ 1048576 := hpre
  exact ⟨by omega, hK _ (by simp [f26])⟩
theorem f26_fn : f26_e.fn = f26 := rfl
theorem f26_ok : EntryOK Try.prog 26 f26_e := by
  refine entryFU progOK (EnvOK.nil) (A := f26_A) (d := 6) Try.func26 rfl (fun h => by cases h) fun x hpre => ?_
  exact f26_t x hpre _ fun _ h => h.trans (congrFun f26_fn.symm _)
end Go.Proofs.Ytdhekhichomoiaa
end

section
namespace Go.Proofs.Ytdhekhichomoiaa
open Go Go.Pi Go.RowKit
set_option maxRecDepth 100000
set_option linter.unusedVariables false
set_option linter.unusedSimpArgs false

def f38 (l : List (Int × Int)) : Int × Int := f33 l
def f38_e : Entry := { doms := [(false, (.sl (.pair (.int .i64) (.int .i64))))], cods := [(false, (.int .i64)), (false, (.int .i64))], pre := fun _ => True, fn := f38, uq := false, total := true }
def f38_E : Env := [(18, f18_e), (33, f33_e)]
def f38_A : Anns := { loops := [(1048576, { tms := [(0, .keep), (4, .data false (.int .i64))], obs := [], fz := [] })], own := [] }
theorem f38_run (a0 : List (Int × Int)) (K : (Int × Int) → Prop) : runF Try.prog f38_E f38_A 6 Try.f38 f38_e.doms f38_e.cods a0 K =
    (br (lenOk (a0.length))
    (br (((a0.length) : Int) == 0)
    (K (0, 10))
    (br (lenOk (a0.length))
    (br (decide (((a0.length) : Int) > 48))
    (K (0, 8))
    (LoopP (V := Int × Unit) (fun again v => (fun (again1 : Int → Prop) (v1_0 : Int) =>
    br (lenOk (a0.length))
    (br (decide (v1_0 < ((a0.length) : Int)))
    (br (decide (0 ≤ v1_0) && decide (v1_0 < ((a0.length) : Int)))
    (br (f18 ((a0.getD v1_0.toNat (0, 0)).1, ((-1000), 1000)))
    (br (!(f18 ((a0.getD v1_0.toNat (0, 0)).2, ((-1000), 1000))))
    (K (v1_0, 2))
    (again1 (IntKind.i64.wrap (v1_0 + 1))))
    (K (v1_0, 2)))
    False)
    (K (0, 0)))
    True)
    (fun v1_0 => again (v1_0, ())) v.1) (0, ())))
    True))
    True) := by kernel_rfl
theorem f38_t (a0 : List (Int × Int)) (K : (Int × Int) → Prop) (hK : ∀ y : Int × Int, y = f38 a0 → K y) : RunF Try.prog f38_E f38_A 6 Try.f38 f38_e.doms f38_e.cods a0 K := by
  refine ⟨?_⟩
  rw [f38_run a0 K]
  have hf : ∀ x : Int × Int, f103 x = (f18 (x.1, -1000, 1000) && f18 (x.2, -1000, 1000)) := fun x => rfl
  rw [br_true_, lenOk_iff]
  intro hl
  rw [br_both]
  refine ⟨fun h0 => hK _ ?_, fun h0 => ?_⟩
  · simp only [beq_iff_eq] at h0
    have : a0.length = 0 := by omega
    simp [f38, f33, this]
  have h0 : a0.length ≠ 0 := by
    simp only [beq_eq_false_iff_ne] at h0
    omega
  rw [br_true_]
  intro _
  rw [br_dec]
  refine ⟨fun h1 => hK _ ?_, fun h1 => ?_⟩
  · have : 48 < a0.length := by omega
    simp [f38, f33, h0, this]
  have h1 : ¬ 48 < a0.length := by omega
  refine LoopP.up a0.length (fun i _ => ∀ x ∈ a0.take i.toNat, (!f103 x) = false) (fun again i v hi0 hn hI hag => ?_) (by omega) all_zero
  dsimp only
  rw [br_true_]
  intro _
  rw [br_both]
  refine ⟨fun hi => ?_, fun hi => ?_⟩
  · simp only [decide_eq_true_eq] at hi
    rw [br_false_]
    refine ⟨by simp only [Bool.and_eq_true, decide_eq_true_eq]; exact ⟨hi0, hi⟩, ?_⟩
    have bad : (!f103 (a0.getD i.toNat (0, 0))) = true → K (i, 2) := fun hne => hK _ (by
      rw [f38, f33, if_neg h0, if_neg h1, findIdx_at (d := ((0 : Int), (0 : Int))) hi0 hi hI hne]
      simp only
      rw [Int.toNat_of_nonneg hi0])
    have good : (!f103 (a0.getD i.toNat (0, 0))) = false → again (IntKind.i64.wrap (i + 1), ()) := fun he => by
      rw [wr (by omega) (by omega)]
      exact hag () hi (all_step hi0 hi hI he)
    rw [hf] at bad good
    rw [br_both]
    refine ⟨fun h2 => ?_, fun h2 => bad (by rw [h2]; rfl)⟩
    rw [br_both]
    exact ⟨fun h3 => bad (by rw [h2, Bool.true_and]; exact h3), fun h3 => good (by rw [h2, Bool.true_and]; exact h3)⟩
  · simp only [decide_eq_false_iff_not] at hi
    refine hK _ ?_
    rw [f38, f33, if_neg h0, if_neg h1, findIdx_none (all_done hi hI)]
theorem f38_fn : f38_e.fn = f38 := rfl
theorem f38_ok : EntryOK Try.prog 38 f38_e := by
  refine entryF progOK (EnvOK.cons f18_ok (EnvOK.cons f33_ok (EnvOK.nil))) (A := f38_A) (d := 6) Try.func38 rfl rfl (fun _ _ => trivial) fun x hpre => ?_
  exact f38_t x _ fun _ h => h.trans (congrFun f38_fn.symm _)
end Go.Proofs.Ytdhekhichomoiaa
end

section
namespace Go.Proofs.Ytdhekhichomoiaa
open Go Go.Pi Go.RowKit
set_option maxRecDepth 100000
set_option linter.unusedVariables false
set_option linter.unusedSimpArgs false

def f28 (l : List (Int × Int)) : Int := (f33 l).2
def f28_e : Entry := { doms := [(false, (.sl (.pair (.int .i64) (.int .i64))))], cods := [(false, (.int .i64))], pre := fun _ => True, fn := f28, uq := false, total := true }
def f28_E : Env := [(38, f38_e), (33, f33_e)]
def f28_A : Anns := { loops := [], own := [] }
theorem f28_run (a0 : List (Int × Int)) (K : Int → Prop) : runF Try.prog f28_E f28_A 6 Try.f28 f28_e.doms f28_e.cods a0 K =
    (K ((f38 a0).2)) := by kernel_rfl
theorem f28_t (a0 : List (Int × Int)) (K : Int → Prop) (hK : ∀ y : Int, y = f28 a0 → K y) : RunF Try.prog f28_E f28_A 6 Try.f28 f28_e.doms f28_e.cods a0 K := by
  refine ⟨?_⟩
  rw [f28_run a0 K]
  exact hK _ (by rw [f28, f38])
theorem f28_fn : f28_e.fn = f28 := rfl
theorem f28_ok : EntryOK Try.prog 28 f28_e := by
  refine entryF progOK (EnvOK.cons f38_ok (EnvOK.cons f33_ok (EnvOK.nil))) (A := f28_A) (d := 6) Try.func28 rfl rfl (fun _ _ => trivial) fun x hpre => ?_
  exact f28_t x _ fun _ h => h.trans (congrFun f28_fn.symm _)
end Go.Proofs.Ytdhekhichomoiaa
end

section
namespace Go.Proofs.Ytdhekhichomoiaa
open Go Go.Pi Go.RowKit
set_option maxRecDepth 100000
set_option linter.unusedVariables false
set_option linter.unusedSimpArgs false

def f32 (g : Int × Int × Int × List Int) : Bool := decide (g.2.2.2.length ≤ 18)
def f32_e : Entry := { doms := [(true, (.pair (.int .i64) (.pair (.int .i64) (.pair (.int .i64) (.sl (.int .i64))))))], cods := [(false, .bool)], pre := fun _ => True, fn := f32, uq := false, total := true }
def f32_E : Env := []
def f32_A : Anns := { loops := [], own := [] }
theorem f32_run (a0 : Int × Int × Int × List Int) (K : Bool → Prop) : runF Try.prog f32_E f32_A 6 Try.f32 f32_e.doms f32_e.cods a0 K =
    (br (lenOk (a0.2.2.2.length))
    (K (decide (((a0.2.2.2.length) : Int) ≤ 18)))
    True) := by kernel_rfl
theorem f32_t (a0 : Int × Int × Int × List Int) (K : Bool → Prop) (hK : ∀ y : Bool, y = f32 a0 → K y) : RunF Try.prog f32_E f32_A 6 Try.f32 f32_e.doms f32_e.cods a0 K := by
  refine ⟨?_⟩
  rw [f32_run a0 K]
  rw [br_true_]
  intro _
  refine hK _ ?_
  unfold f32
  congr 1
  simp only [eq_iff_iff]
  omega
theorem f32_fn : f32_e.fn = f32 := rfl
theorem f32_ok : EntryOK Try.prog 32 f32_e := by
  refine entryF progOK (EnvOK.nil) (A := f32_A) (d := 6) Try.func32 rfl rfl (fun _ _ => trivial) fun x hpre => ?_
  exact f32_t x _ fun _ h => h.trans (congrFun f32_fn.symm _)
end Go.Proofs.Ytdhekhichomoiaa
end

section
namespace Go.Proofs.Ytdhekhichomoiaa
open Go Go.Pi Go.RowKit
set_option maxRecDepth 100000
set_option linter.unusedVariables false
set_option linter.unusedSimpArgs false

def f21 (l : List Int) : List Int := l
def f21_pre (l : List Int) : Prop := l.length ≤ 1048576
def f21_e : Entry := { doms := [(false, (.sl (.int .i64)))], cods := [(false, (.sl (.int .i64)))], pre := f21_pre, fn := f21, uq := true, total := false }
def f21_E : Env := []
def f21_A : Anns := { loops := [], own := [1049600] }
theorem f21_run (a0 : List Int) (K : (List Int) → Prop) : runU Try.prog f21_E f21_A 6 Try.f21 f21_e.doms f21_e.cods a0 K =
    (br (roomOk (0 + (a0.length)) 8)
    (K (([] : List Int) ++ a0))
    False) := by kernel_rfl
theorem f21_t (a0 : List Int) (hpre : f21_pre a0) (K : (List Int) → Prop) (hK : ∀ y : List Int, y = f21 a0 → K y) : RunU Try.prog f21_E f21_A 6 Try.f21 f21_e.doms f21_e.cods a0 K := by
  refine ⟨?_⟩
  rw [f21_run a0 K]
  simp only [br_false_, roomOk_iff]
  have : a0.length ≤ 1048576 := hpre
  exact ⟨by omega, hK _ (by simp [f21])⟩
theorem f21_fn : f21_e.fn = f21 := rfl
theorem f21_ok : EntryOK Try.prog 21 f21_e := by
  refine entryFU progOK (EnvOK.nil) (A := f21_A) (d := 6) Try.func21 rfl (fun h => by cases h) fun x hpre => ?_
  exact f21_t x hpre _ fun _ h => h.trans (congrFun f21_fn.symm _)
end Go.Proofs.Ytdhekhichomoiaa
end

section
namespace Go.Proofs.Ytdhekhichomoiaa
open Go Go.Pi Go.RowKit
set_option maxRecDepth 100000
set_option linter.unusedVariables false
set_option linter.unusedSimpArgs false

def f35 (g : Int × Int × Int × List Int) : Int × Int × Int × List Int := g
def f35_pre (g : Int × Int × Int × List Int) : Prop := g.2.2.2.length ≤ 1048576
def f35_e : Entry := { doms := [(true, (.pair (.int .i64) (.pair (.int .i64) (.pair (.int .i64) (.sl (.int .i64))))))], cods := [(true, (.pair (.int .i64) (.pair (.int .i64) (.pair (.int .i64) (.sl (.int .i64))))))], pre := f35_pre, fn := f35, uq := false, total := false }
def f35_E : Env := [(21, f21_e)]
def f35_A : Anns := { loops := [], own := [] }
theorem f35_run (a0 : Int × Int × Int × List Int) (K : (Int × Int × Int × List Int) → Prop) : runF Try.prog f35_E f35_A 6 Try.f35 f35_e.doms f35_e.cods a0 K =
    (f21_pre a0.2.2.2 ∧
    K (a0.1, (a0.2.1, (a0.2.2.1, (f21 a0.2.2.2))))) := by kernel_rfl
theorem f35_t (a0 : Int × Int × Int × List Int) (hpre : f35_pre a0) (K : (Int × Int × Int × List Int) → Prop) (hK : ∀ y : Int × Int × Int × List Int, y = f35 a0 → K y) : RunF Try.prog f35_E f35_A 6 Try.f35 f35_e.doms f35_e.cods a0 K := by
  refine ⟨?_⟩
  rw [f35_run a0 K]
  exact ⟨hpre, hK _ rfl⟩
theorem f35_fn : f35_e.fn = f35 := rfl
theorem f35_ok : EntryOK Try.prog 35 f35_e := by
  refine entryF progOK (EnvOK.cons f21_ok (EnvOK.nil)) (A := f35_A) (d := 6) Try.func35 rfl rfl (fun h => by cases h) fun x hpre => ?_
  exact f35_t x hpre _ fun _ h => h.trans (congrFun f35_fn.symm _)
end Go.Proofs.Ytdhekhichomoiaa
end

section
namespace Go.Proofs.Ytdhekhichomoiaa
open Go Go.Pi Go.RowKit
set_option maxRecDepth 100000
set_option linter.unusedVariables false
set_option linter.unusedSimpArgs false

def f40 (x : List Int × List Int) : Bool := decide (x.1 = x.2)
def f40_e : Entry := { doms := [(false, (.sl (.int .i64))), (false, (.sl (.int .i64)))], cods := [(false, .bool)], pre := fun _ => True, fn := f40, uq := false, total := true }
def f40_E : Env := []
def f40_A : Anns := { loops := [(1048576, { tms := [(0, .keep), (1, .keep), (5, .data false (.int .i64))], obs := [], fz := [] })], own := [] }
theorem f40_run (a0 : List Int) (a1 : List Int) (K : Bool → Prop) : runF Try.prog f40_E f40_A 6 Try.f40 f40_e.doms f40_e.cods (a0, a1) K =
    (br (lenOk (a0.length))
    (br (lenOk (a1.length))
    (br (((a0.length) : Int) != ((a1.length) : Int))
    (K false)
    (LoopP (V := Int × Unit) (fun again v => (fun (again1 : Int → Prop) (v1_0 : Int) =>
    br (lenOk (a0.length))
    (br (decide (v1_0 < ((a0.length) : Int)))
    (br (decide (0 ≤ v1_0) && decide (v1_0 < ((a0.length) : Int)))
    (br (decide (0 ≤ v1_0) && decide (v1_0 < ((a1.length) : Int)))
    (br ((a0.getD v1_0.toNat 0) != (a1.getD v1_0.toNat 0))
    (K false)
    (again1 (IntKind.i64.wrap (v1_0 + 1))))
    False)
    False)
    (K true))
    True)
    (fun v1_0 => again (v1_0, ())) v.1) (0, ())))
    True)
    True) := by kernel_rfl
theorem f40_t (a0 : List Int) (a1 : List Int) (K : Bool → Prop) (hK : ∀ y : Bool, y = f40 (a0, a1) → K y) : RunF Try.prog f40_E f40_A 6 Try.f40 f40_e.doms f40_e.cods (a0, a1) K := by
  refine ⟨?_⟩
  rw [f40_run a0 a1 K]
  rw [br_true_, lenOk_iff]
  intro hl
  rw [br_true_]
  intro _
  rw [br_both]
  refine ⟨fun hne => hK _ ?_, fun he => ?_⟩
  · have : a0 ≠ a1 := fun e => by simp [e] at hne
    simp [f40, this]
  have he : a0.length = a1.length := by
    simp only [bne_eq_false_iff_eq] at he
    omega
  refine LoopP.up a0.length (fun i _ => a0.take i.toNat = a1.take i.toNat) (fun again i v hi0 hn hI hag => ?_) (by omega) (by simp)
  dsimp only
  rw [br_true_]
  intro _
  rw [br_both]
  refine ⟨fun hi => ?_, fun hi => hK _ ?_⟩
  · simp only [decide_eq_true_eq] at hi
    simp only [br_false_, Bool.and_eq_true, decide_eq_true_eq]
    refine ⟨⟨hi0, hi⟩, ⟨hi0, by omega⟩, ?_⟩
    rw [br_both]
    refine ⟨fun hne => hK _ ?_, fun heq => ?_⟩
    · have : a0 ≠ a1 := fun e => by simp [e] at hne
      simp [f40, this]
    · rw [wr (by omega) (by omega)]
      refine hag () hi ?_
      have h1 : i.toNat < a0.length := by omega
      have h2 : i.toNat < a1.length := by omega
      rw [getD_lt h1, getD_lt h2] at heq
      have h3 : a0[i.toNat] = a1[i.toNat] := by simpa using heq
      rw [show (i + 1).toNat = i.toNat + 1 by omega, List.take_add_one, List.take_add_one, hI, List.getElem?_eq_getElem h1, List.getElem?_eq_getElem h2, h3]
  · simp only [decide_eq_false_iff_not] at hi
    rw [List.take_of_length_le (by omega), List.take_of_length_le (by omega)] at hI
    simp [f40, hI]
theorem f40_fn : f40_e.fn = f40 := rfl
theorem f40_ok : EntryOK Try.prog 40 f40_e := by
  refine entryF progOK (EnvOK.nil) (A := f40_A) (d := 6) Try.func40 rfl rfl (fun _ _ => trivial) fun x hpre => ?_
  obtain ⟨a0, a1⟩ := x
  exact f40_t a0 a1 _ fun _ h => h.trans (congrFun f40_fn.symm _)
end Go.Proofs.Ytdhekhichomoiaa
end

section
namespace Go.Proofs.Ytdhekhichomoiaa
open Go Go.Pi Go.RowKit
set_option maxRecDepth 100000
set_option linter.unusedVariables false
set_option linter.unusedSimpArgs false

def f42 (x : Int × Int) : Int := if x.1 ≠ 0 then x.1 else x.2
def f42_e : Entry := { doms := [(false, (.int .i64)), (false, (.int .i64))], cods := [(false, (.int .i64))], pre := fun _ => True, fn := f42, uq := false, total := true }
def f42_E : Env := []
def f42_A : Anns := { loops := [], own := [] }
theorem f42_run (a0 : Int) (a1 : Int) (K : Int → Prop) : runF Try.prog f42_E f42_A 6 Try.f42 f42_e.doms f42_e.cods (a0, a1) K =
    (br (a0 != 0)
    (K a0)
    (K a1)) := by kernel_rfl
theorem f42_t (a0 : Int) (a1 : Int) (K : Int → Prop) (hK : ∀ y : Int, y = f42 (a0, a1) → K y) : RunF Try.prog f42_E f42_A 6 Try.f42 f42_e.doms f42_e.cods (a0, a1) K := by
  refine ⟨?_⟩
  rw [f42_run a0 a1 K]
  rw [br_both]
  exact ⟨fun h => hK _ (by simp at h; simp [f42, h]), fun h => hK _ (by simp at h; simp [f42, h])⟩
theorem f42_fn : f42_e.fn = f42 := rfl
theorem f42_ok : EntryOK Try.prog 42 f42_e := by
  refine entryF progOK (EnvOK.nil) (A := f42_A) (d := 6) Try.func42 rfl rfl (fun _ _ => trivial) fun x hpre => ?_
  obtain ⟨a0, a1⟩ := x
  exact f42_t a0 a1 _ fun _ h => h.trans (congrFun f42_fn.symm _)
end Go.Proofs.Ytdhekhichomoiaa
end

section
namespace Go.Proofs.Ytdhekhichomoiaa
open Go Go.Pi Go.RowKit
set_option maxRecDepth 100000
set_option linter.unusedVariables false
set_option linter.unusedSimpArgs false

def f43 (x : (Int × Int × Int × List Int) × Int) : Int := f107 x
def f43_e : Entry := { doms := [(true, (.pair (.int .i64) (.pair (.int .i64) (.pair (.int .i64) (.sl (.int .i64)))))), (false, (.int .i64))], cods := [(false, (.int .i64))], pre := fun _ => True, fn := f43, uq := false, total := true }
def f43_E : Env := [(18, f18_e), (107, f107_e)]
def f43_A : Anns := { loops := [], own := [] }
theorem f43_run (a0 : Int × Int × Int × List Int) (a1 : Int) (K : Int → Prop) : runF Try.prog f43_E f43_A 6 Try.f43 f43_e.doms f43_e.cods (a0, a1) K =
    (br (!(f18 (a1, (0, (IntKind.i64.wrap (a0.2.2.1 - 1))))))
    (K 6)
    (K 0)) := by kernel_rfl
theorem f43_t (a0 : Int × Int × Int × List Int) (a1 : Int) (K : Int → Prop) (hK : ∀ y : Int, y = f43 (a0, a1) → K y) : RunF Try.prog f43_E f43_A 6 Try.f43 f43_e.doms f43_e.cods (a0, a1) K := by
  refine ⟨?_⟩
  rw [f43_run a0 a1 K]
  have e : f107 (a0, a1) = f94 (f18 (a1, 0, IntKind.i64.wrap (a0.2.2.1 - 1)), 6) := rfl
  rw [br_both]
  exact ⟨fun h => hK _ (by rw [f43, e]; simp only [Bool.not_eq_true'] at h; simp [f94, h]), fun h => hK _ (by rw [f43, e]; simp only [Bool.not_eq_false'] at h; simp [f94, h])⟩
theorem f43_fn : f43_e.fn = f43 := rfl
theorem f43_ok : EntryOK Try.prog 43 f43_e := by
  refine entryF progOK (EnvOK.cons f18_ok (EnvOK.cons f107_ok (EnvOK.nil))) (A := f43_A) (d := 6) Try.func43 rfl rfl (fun _ _ => trivial) fun x hpre => ?_
  obtain ⟨a0, a1⟩ := x
  exact f43_t a0 a1 _ fun _ h => h.trans (congrFun f43_fn.symm _)
end Go.Proofs.Ytdhekhichomoiaa
end

section
namespace Go.Proofs.Ytdhekhichomoiaa
open Go Go.Pi Go.RowKit
set_option maxRecDepth 100000
set_option linter.unusedVariables false
set_option linter.unusedSimpArgs false

def f39 (g : Int × Int × Int × List Int) : Int × Int := f34 g
def f39_e : Entry := { doms := [(true, (.pair (.int .i64) (.pair (.int .i64) (.pair (.int .i64) (.sl (.int .i64))))))], cods := [(false, (.int .i64)), (false, (.int .i64))], pre := fun _ => True, fn := f39, uq := false, total := true }
def f39_E : Env := [(18, f18_e), (34, f34_e)]
def f39_A : Anns := { loops := [(1048576, { tms := [(1, .keep), (4, .data false (.int .i64))], obs := [(1048576, .keep)], fz := [] })], own := [] }
theorem f39_run (a0 : Int × Int × Int × List Int) (K : (Int × Int) → Prop) : runF Try.prog f39_E f39_A 6 Try.f39 f39_e.doms f39_e.cods a0 K =
    (br (!(f18 (a0.1, (0, 48))))
    (K (0, 2))
    (br (!(f18 (a0.2.1, (1, 48))))
    (K (0, 2))
    (br (!(f18 (a0.2.2.1, (1, 20))))
    (K (0, 2))
    (br (lenOk (a0.2.2.2.length))
    (br (((a0.2.2.2.length) : Int) == 0)
    (K (0, 10))
    (br (lenOk (a0.2.2.2.length))
    (br (decide (((a0.2.2.2.length) : Int) > 16))
    (K (0, 8))
    (LoopP (V := Int × Unit) (fun again v => (fun (again1 : Int → Prop) (v1_0 : Int) =>
    br (lenOk (a0.2.2.2.length))
    (br (decide (v1_0 < ((a0.2.2.2.length) : Int)))
    (br (decide (0 ≤ v1_0) && decide (v1_0 < ((a0.2.2.2.length) : Int)))
    (br (!(f18 ((a0.2.2.2.getD v1_0.toNat 0), (0, 100))))
    (K (v1_0, 2))
    (again1 (IntKind.i64.wrap (v1_0 + 1))))
    False)
    (K (0, 0)))
    True)
    (fun v1_0 => again (v1_0, ())) v.1) (0, ())))
    True))
    True)))) := by kernel_rfl
theorem f39_t (a0 : Int × Int × Int × List Int) (K : (Int × Int) → Prop) (hK : ∀ y : Int × Int, y = f39 a0 → K y) : RunF Try.prog f39_E f39_A 6 Try.f39 f39_e.doms f39_e.cods a0 K := by
  refine ⟨?_⟩
  rw [f39_run a0 K]
  have hf : ∀ n : Int, f105 n = f18 (n, 0, 100) := fun n => rfl
  have bad : ¬ ((0 ≤ a0.1 ∧ a0.1 ≤ 48) ∧ (1 ≤ a0.2.1 ∧ a0.2.1 ≤ 48) ∧ (1 ≤ a0.2.2.1 ∧ a0.2.2.1 ≤ 20)) → K (0, 2) := fun h => hK _ (by rw [f39, f34, if_pos h])
  rw [br_both]
  refine ⟨fun h => bad fun hh => ?_, fun h1 => ?_⟩
  · simp [f18, hh.1] at h
  rw [br_both]
  refine ⟨fun h => bad fun hh => ?_, fun h2 => ?_⟩
  · simp [f18, hh.2.1] at h
  rw [br_both]
  refine ⟨fun h => bad fun hh => ?_, fun h3 => ?_⟩
  · simp [f18, hh.2.2] at h
  have hc : ¬ ¬ ((0 ≤ a0.1 ∧ a0.1 ≤ 48) ∧ (1 ≤ a0.2.1 ∧ a0.2.1 ≤ 48) ∧ (1 ≤ a0.2.2.1 ∧ a0.2.2.1 ≤ 20)) := by
    simp only [Bool.not_eq_false', f18, Bool.and_eq_true, decide_eq_true_eq] at h1 h2 h3
    exact not_not_intro ⟨h1, h2, h3⟩
  rw [br_true_, lenOk_iff]
  intro hl
  rw [br_both]
  refine ⟨fun h0 => hK _ ?_, fun h0 => ?_⟩
  · simp only [beq_iff_eq] at h0
    have : a0.2.2.2.length = 0 := by omega
    rw [f39, f34, if_neg hc, if_pos this]
  have h0 : a0.2.2.2.length ≠ 0 := by
    simp only [beq_eq_false_iff_ne] at h0
    omega
  rw [br_true_]
  intro _
  rw [br_dec]
  refine ⟨fun h4 => hK _ ?_, fun h4 => ?_⟩
  · rw [f39, f34, if_neg hc, if_neg h0, if_pos (by omega)]
  have h4 : ¬ 16 < a0.2.2.2.length := by omega
  refine LoopP.up a0.2.2.2.length (fun i _ => ∀ x ∈ a0.2.2.2.take i.toNat, (!f105 x) = false) (fun again i v hi0 hn hI hag => ?_) (by omega) all_zero
  dsimp only
  rw [br_true_]
  intro _
  rw [br_both]
  refine ⟨fun hi => ?_, fun hi => ?_⟩
  · simp only [decide_eq_true_eq] at hi
    rw [br_false_]
    refine ⟨by simp only [Bool.and_eq_true, decide_eq_true_eq]; exact ⟨hi0, hi⟩, ?_⟩
    rw [← hf, br_both]
    refine ⟨fun hne => hK _ ?_, fun he => ?_⟩
    · rw [f39, f34, if_neg hc, if_neg h0, if_neg h4, findIdx_at (d := (0 : Int)) hi0 hi hI hne]
      simp only
      rw [Int.toNat_of_nonneg hi0]
    · rw [wr (by omega) (by omega)]
      exact hag () hi (all_step hi0 hi hI he)
  · simp only [decide_eq_false_iff_not] at hi
    refine hK _ ?_
    rw [f39, f34, if_neg hc, if_neg h0, if_neg h4, findIdx_none (all_done hi hI)]
theorem f39_fn : f39_e.fn = f39 := rfl
theorem f39_ok : EntryOK Try.prog 39 f39_e := by
  refine entryF progOK (EnvOK.cons f18_ok (EnvOK.cons f34_ok (EnvOK.nil))) (A := f39_A) (d := 6) Try.func39 rfl rfl (fun _ _ => trivial) fun x hpre => ?_
  exact f39_t x _ fun _ h => h.trans (congrFun f39_fn.symm _)
end Go.Proofs.Ytdhekhichomoiaa
end

section
namespace Go.Proofs.Ytdhekhichomoiaa
open Go Go.Pi Go.RowKit
set_option maxRecDepth 100000
set_option linter.unusedVariables false
set_option linter.unusedSimpArgs false

def f46 (g : Int × Int × Int × List Int) : Int := (f34 g).2
def f46_e : Entry := { doms := [(true, (.pair (.int .i64) (.pair (.int .i64) (.pair (.int .i64) (.sl (.int .i64))))))], cods := [(false, (.int .i64))], pre := fun _ => True, fn := f46, uq := false, total := true }
def f46_E : Env := [(39, f39_e)]
def f46_A : Anns := { loops := [], own := [] }
theorem f46_run (a0 : Int × Int × Int × List Int) (K : Int → Prop) : runF Try.prog f46_E f46_A 6 Try.f46 f46_e.doms f46_e.cods a0 K =
    (K ((f39 a0).2)) := by kernel_rfl
theorem f46_t (a0 : Int × Int × Int × List Int) (K : Int → Prop) (hK : ∀ y : Int, y = f46 a0 → K y) : RunF Try.prog f46_E f46_A 6 Try.f46 f46_e.doms f46_e.cods a0 K := by
  refine ⟨?_⟩
  rw [f46_run a0 K]
  exact hK _ (by rw [f46, f39])
theorem f46_fn : f46_e.fn = f46 := rfl
theorem f46_ok : EntryOK Try.prog 46 f46_e := by
  refine entryF progOK (EnvOK.cons f39_ok (EnvOK.nil)) (A := f46_A) (d := 6) Try.func46 rfl rfl (fun _ _ => trivial) fun x hpre => ?_
  exact f46_t x _ fun _ h => h.trans (congrFun f46_fn.symm _)
end Go.Proofs.Ytdhekhichomoiaa
end

section
namespace Go.Proofs.Ytdhekhichomoiaa
open Go Go.Pi Go.RowKit
set_option maxRecDepth 100000
set_option linter.unusedVariables false
set_option linter.unusedSimpArgs false

def f140 (x : Int × Int) : Bool := f95 (x.1, IntKind.i64.wrap (0 - x.2), x.2)
def f140_e : Entry := { doms := [(false, (.int .i64)), (false, (.int .i64))], cods := [(false, .bool)], pre := fun _ => True, fn := f140, uq := false, total := true }
def f140_E : Env := [(95, f95_e)]
def f140_A : Anns := { loops := [], own := [] }
theorem f140_run (a0 : Int) (a1 : Int) (K : Bool → Prop) : runF Try.prog f140_E f140_A 6 Try.f140 f140_e.doms f140_e.cods (a0, a1) K =
    (K (f95 (a0, ((IntKind.i64.wrap (0 - a1)), a1)))) := by kernel_rfl
theorem f140_t (a0 : Int) (a1 : Int) (K : Bool → Prop) (hK : ∀ y : Bool, y = f140 (a0, a1) → K y) : RunF Try.prog f140_E f140_A 6 Try.f140 f140_e.doms f140_e.cods (a0, a1) K := by
  refine ⟨?_⟩
  rw [f140_run a0 a1 K]
  exact hK _ rfl
theorem f140_fn : f140_e.fn = f140 := rfl
theorem f140_ok : EntryOK Try.prog 140 f140_e := by
  refine entryF progOK (EnvOK.cons f95_ok (EnvOK.nil)) (A := f140_A) (d := 6) Try.func140 rfl rfl (fun _ _ => trivial) fun x hpre => ?_
  obtain ⟨a0, a1⟩ := x
  exact f140_t a0 a1 _ fun _ h => h.trans (congrFun f140_fn.symm _)
end Go.Proofs.Ytdhekhichomoiaa
end

section
namespace Go.Proofs.Ytdhekhichomoiaa
open Go Go.Pi Go.RowKit
set_option maxRecDepth 100000
set_option linter.unusedVariables false
set_option linter.unusedSimpArgs false

def f117 (x : (Int × Int) × Int) : Bool := f140 (x.1.1, x.2) && f140 (x.1.2, x.2)
def f117_e : Entry := { doms := [(true, (.pair (.int .i64) (.int .i64))), (false, (.int .i64))], cods := [(false, .bool)], pre := fun _ => True, fn := f117, uq := false, total := true }
def f117_E : Env := [(140, f140_e)]
def f117_A : Anns := { loops := [], own := [] }
theorem f117_run (a0 : Int × Int) (a1 : Int) (K : Bool → Prop) : runF Try.prog f117_E f117_A 6 Try.f117 f117_e.doms f117_e.cods (a0, a1) K =
    (br (f140 (a0.1, a1))
    (K (f140 (a0.2, a1)))
    (K false)) := by kernel_rfl
theorem f117_t (a0 : Int × Int) (a1 : Int) (K : Bool → Prop) (hK : ∀ y : Bool, y = f117 (a0, a1) → K y) : RunF Try.prog f117_E f117_A 6 Try.f117 f117_e.doms f117_e.cods (a0, a1) K := by
  refine ⟨?_⟩
  rw [f117_run a0 a1 K]
  rw [br_both]
  exact ⟨fun h => hK _ (by simp [f117, h]), fun h => hK _ (by simp [f117, h])⟩
theorem f117_fn : f117_e.fn = f117 := rfl
theorem f117_ok : EntryOK Try.prog 117 f117_e := by
  refine entryF progOK (EnvOK.cons f140_ok (EnvOK.nil)) (A := f117_A) (d := 6) Try.func117 rfl rfl (fun _ _ => trivial) fun x hpre => ?_
  obtain ⟨a0, a1⟩ := x
  exact f117_t a0 a1 _ fun _ h => h.trans (congrFun f117_fn.symm _)
end Go.Proofs.Ytdhekhichomoiaa
end

section
namespace Go.Proofs.Ytdhekhichomoiaa
open Go Go.Pi Go.RowKit
set_option maxRecDepth 100000
set_option linter.unusedVariables false
set_option linter.unusedSimpArgs false

def f19 (n : Int) : Int := minmax true n (IntKind.i64.wrap (0 - n))
def f19_e : Entry := { doms := [(false, (.int .i64))], cods := [(false, (.int .i64))], pre := fun _ => True, fn := f19, uq := false, total := true }
def f19_E : Env := []
def f19_A : Anns := { loops := [], own := [] }
theorem f19_run (a0 : Int) (K : Int → Prop) : runF Try.prog f19_E f19_A 6 Try.f19 f19_e.doms f19_e.cods a0 K =
    (K (minmax true a0 (IntKind.i64.wrap (0 - a0)))) := by kernel_rfl
theorem f19_t (a0 : Int) (K : Int → Prop) (hK : ∀ y : Int, y = f19 a0 → K y) : RunF Try.prog f19_E f19_A 6 Try.f19 f19_e.doms f19_e.cods a0 K := by
  refine ⟨?_⟩
  rw [f19_run a0 K]
  exact hK _ rfl
theorem f19_fn : f19_e.fn = f19 := rfl
theorem f19_ok : EntryOK Try.prog 19 f19_e := by
  refine entryF progOK (EnvOK.nil) (A := f19_A) (d := 6) Try.func19 rfl rfl (fun _ _ => trivial) fun x hpre => ?_
  exact f19_t x _ fun _ h => h.trans (congrFun f19_fn.symm _)
end Go.Proofs.Ytdhekhichomoiaa
end

section
namespace Go.Proofs.Ytdhekhichomoiaa
open Go Go.Pi Go.RowKit
set_option maxRecDepth 100000
set_option linter.unusedVariables false
set_option linter.unusedSimpArgs false

def f121 (x : Int × Int) : Int := minmax true (f19 x.1) (f19 x.2)
def f121_e : Entry := { doms := [(true, (.pair (.int .i64) (.int .i64)))], cods := [(false, (.int .i64))], pre := fun _ => True, fn := f121, uq := false, total := true }
def f121_E : Env := [(19, f19_e)]
def f121_A : Anns := { loops := [], own := [] }
theorem f121_run (a0 : Int × Int) (K : Int → Prop) : runF Try.prog f121_E f121_A 6 Try.f121 f121_e.doms f121_e.cods a0 K =
    (K (minmax true (f19 a0.1) (f19 a0.2))) := by kernel_rfl
theorem f121_t (a0 : Int × Int) (K : Int → Prop) (hK : ∀ y : Int, y = f121 a0 → K y) : RunF Try.prog f121_E f121_A 6 Try.f121 f121_e.doms f121_e.cods a0 K := by
  refine ⟨?_⟩
  rw [f121_run a0 K]
  exact hK _ rfl
theorem f121_fn : f121_e.fn = f121 := rfl
theorem f121_ok : EntryOK Try.prog 121 f121_e := by
  refine entryF progOK (EnvOK.cons f19_ok (EnvOK.nil)) (A := f121_A) (d := 6) Try.func121 rfl rfl (fun _ _ => trivial) fun x hpre => ?_
  exact f121_t x _ fun _ h => h.trans (congrFun f121_fn.symm _)
end Go.Proofs.Ytdhekhichomoiaa
end

section
namespace Go.Proofs.Ytdhekhichomoiaa
open Go Go.Pi Go.RowKit
set_option maxRecDepth 100000
set_option linter.unusedVariables false
set_option linter.unusedSimpArgs false

/-- The places, of the first ones, at which something is so. -/
def placesN (p : Int × Int → Bool) (l : List (Int × Int)) : Nat → List Int
  | 0 => []
  | n + 1 => if p (l.getD n (0, 0)) then placesN p l n ++ [(n : Int)] else placesN p l n
theorem placesN_len {p : Int × Int → Bool} {l : List (Int × Int)} : ∀ n, (placesN p l n).length ≤ n
  | 0 => Nat.le_refl _
  | n + 1 => by
    have := placesN_len (p := p) (l := l) n
    simp only [placesN]
    split
    · simp; omega
    · omega
theorem placesN_congr {p q : Int × Int → Bool} {l : List (Int × Int)} : ∀ n, (∀ j, j < n → p (l.getD j (0, 0)) = q (l.getD j (0, 0))) → placesN p l n = placesN q l n
  | 0, _ => rfl
  | n + 1, h => by
    simp only [placesN]
    rw [h n (by omega), placesN_congr n (fun j hj => h j (by omega))]
def f68 (x : List (Int × Int) × Int) : List Int := placesN (fun z => decide (f121 z ≥ x.2)) x.1 x.1.length
def f68_pre (x : List (Int × Int) × Int) : Prop := x.1.length ≤ 1048576
def f68_e : Entry := { doms := [(false, (.sl (.pair (.int .i64) (.int .i64)))), (false, (.int .i64))], cods := [(false, (.sl (.int .i64)))], pre := f68_pre, fn := f68, uq := false, total := false }
def f68_E : Env := [(121, f121_e)]
def f68_A : Anns := { loops := [(1048576, { tms := [(0, .keep), (1, .keep), (5, .ref 1054723), (6, .data false (.int .i64))], obs := [(1054723, .arr (.uniq) (.int .i64))], fz := [] })], own := [] }
theorem f68_run (a0 : List (Int × Int)) (a1 : Int) (K : (List Int) → Prop) : runF Try.prog f68_E f68_A 6 Try.f68 f68_e.doms f68_e.cods (a0, a1) K =
    (LoopP (V := Int × List Int × Unit) (fun again v => (fun (again1 : Int → List Int → Prop) (v1_0 : Int) (v1_1 : List Int) =>
    br (lenOk (a0.length))
    (br (decide (v1_0 < ((a0.length) : Int)))
    (br (decide (0 ≤ v1_0) && decide (v1_0 < ((a0.length) : Int)))
    (br (decide ((f121 (a0.getD v1_0.toNat (0, 0))) ≥ a1))
    (br (roomOk ((v1_1.length) + 1) 8)
    (again1 (IntKind.i64.wrap (v1_0 + 1)) (v1_1 ++ ([v1_0] : List Int)))
    False)
    (again1 (IntKind.i64.wrap (v1_0 + 1)) v1_1))
    False)
    (K v1_1))
    True)
    (fun v1_0 v1_1 => again (v1_0, v1_1, ())) v.1 v.2.1) (0, ([] : List Int), ())) := by kernel_rfl
theorem f68_t (a0 : List (Int × Int)) (a1 : Int) (hpre : f68_pre (a0, a1)) (K : (List Int) → Prop) (hK : ∀ y : List Int, y = f68 (a0, a1) → K y) : RunF Try.prog f68_E f68_A 6 Try.f68 f68_e.doms f68_e.cods (a0, a1) K := by
  refine ⟨?_⟩
  rw [f68_run a0 a1 K]
  have hp : a0.length ≤ 1048576 := hpre
  refine LoopP.up a0.length (fun i v => v.1 = placesN (fun z => decide (f121 z ≥ a1)) a0 i.toNat) (fun again i v hi0 hn hI hag => ?_) (by omega) rfl
  obtain ⟨v, u⟩ := v
  simp only at hI hag ⊢
  subst hI
  rw [br_true_]
  intro _
  have hlen := placesN_len (p := fun z => decide (f121 z ≥ a1)) (l := a0) i.toNat
  rw [br_dec]
  refine ⟨fun hi => ?_, fun hi => hK _ ?_⟩
  · rw [br_false_, wr (n := i + 1) (by omega) (by omega)]
    refine ⟨by simp only [Bool.and_eq_true, decide_eq_true_eq]; omega, ?_⟩
    have hT : (i.toNat : Int) = i := by omega
    rw [br_dec]
    refine ⟨fun h => ?_, fun h => ?_⟩
    · rw [br_false_, roomOk_iff]
      refine ⟨by omega, hag _ hi ?_⟩
      show _ = placesN _ _ _
      rw [show (i + 1).toNat = i.toNat + 1 by omega]
      simp only [placesN, h, decide_true, if_true, hT]
    · refine hag _ hi ?_
      show _ = placesN _ _ _
      rw [show (i + 1).toNat = i.toNat + 1 by omega]
      simp only [placesN, h, decide_false, Bool.false_eq_true, if_false]
  · rw [f68, show i.toNat = a0.length by omega]
theorem f68_fn : f68_e.fn = f68 := rfl
theorem f68_ok : EntryOK Try.prog 68 f68_e := by
  refine entryF progOK (EnvOK.cons f121_ok (EnvOK.nil)) (A := f68_A) (d := 6) Try.func68 rfl rfl (fun h => by cases h) fun x hpre => ?_
  obtain ⟨a0, a1⟩ := x
  exact f68_t a0 a1 hpre _ fun _ h => h.trans (congrFun f68_fn.symm _)
end Go.Proofs.Ytdhekhichomoiaa
end

section
namespace Go.Proofs.Ytdhekhichomoiaa
open Go Go.Pi Go.RowKit
set_option maxRecDepth 100000
set_option linter.unusedVariables false
set_option linter.unusedSimpArgs false

def clE (l : List (Int × Int)) (n : Int) : Int := f42 ((f33 l).2, f94 (f95 (n, 1, 1000), 2))
def f66 (x : List (Int × Int) × Int) : List Int × Int :=
  if clE x.1 x.2 ≠ 0 then ([], clE x.1 x.2) else (placesN (fun z => !f117 (z, IntKind.i64.wrap (x.2 - 1))) x.1 x.1.length, 0)
theorem f42_zero {a b : Int} (h : f42 (a, b) = 0) : a = 0 ∧ b = 0 := by
  unfold f42 at h
  split at h
  · contradiction
  · rename_i h1
    exact ⟨Classical.not_not.1 h1, h⟩
def f66_e : Entry := { doms := [(false, (.sl (.pair (.int .i64) (.int .i64)))), (false, (.int .i64))], cods := [(false, (.sl (.int .i64))), (false, (.int .i64))], pre := fun _ => True, fn := f66, uq := false, total := true }
def f66_E : Env := [(93, f93_e), (94, f94_e), (95, f95_e), (97, f97_e), (117, f117_e), (68, f68_e), (42, f42_e)]
def f66_A : Anns := { loops := [(1048576, { tms := [(1, .keep), (7, .ref 1057795), (20, .keep), (21, .keep), (22, .data false (.int .i64))], obs := [(1057795, .arr (.uniq) (.int .i64))], fz := [] })], own := [] }
theorem f66_run (a0 : List (Int × Int)) (a1 : Int) (K : (List Int × Int) → Prop) : runF Try.prog f66_E f66_A 6 Try.f66 f66_e.doms f66_e.cods (a0, a1) K =
    (br ((f93 ([(f97 a0), (f94 ((f95 (a1, (1, 1000))), 2))] : List Int)) != 0)
    (K (([] : List Int), (f93 ([(f97 a0), (f94 ((f95 (a1, (1, 1000))), 2))] : List Int))))
    (br (lenOk (a0.length))
    (LoopP (V := Int × List Int × Unit) (fun again v => (fun (again1 : Int → List Int → Prop) (v1_0 : Int) (v1_1 : List Int) =>
    br (decide (v1_0 < ((a0.length) : Int)))
    (br (decide (0 ≤ v1_0) && decide (v1_0 < ((a0.length) : Int)))
    (br (!(f117 ((a0.getD v1_0.toNat (0, 0)), (IntKind.i64.wrap (a1 - 1)))))
    (br (roomOk ((v1_1.length) + 1) 8)
    (again1 (IntKind.i64.wrap (v1_0 + 1)) (v1_1 ++ ([v1_0] : List Int)))
    False)
    (again1 (IntKind.i64.wrap (v1_0 + 1)) v1_1))
    False)
    (K (v1_1, 0)))
    (fun v1_0 v1_1 => again (v1_0, v1_1, ())) v.1 v.2.1) (0, ([] : List Int), ()))
    True)) := by kernel_rfl
theorem f66_t (a0 : List (Int × Int)) (a1 : Int) (K : (List Int × Int) → Prop) (hK : ∀ y : List Int × Int, y = f66 (a0, a1) → K y) : RunF Try.prog f66_E f66_A 6 Try.f66 f66_e.doms f66_e.cods (a0, a1) K := by
  refine ⟨?_⟩
  rw [f66_run a0 a1 K]
  have e : f93 [f97 a0, f94 (f95 (a1, 1, 1000), 2)] = clE a0 a1 := by
    simp only [f93_cons, f93_nil, clE, f42, f97]
    by_cases h : (f33 a0).2 = 0 <;> by_cases h2 : f94 (f95 (a1, 1, 1000), 2) = 0 <;> simp [h, h2]
  rw [e, br_both]
  refine ⟨fun h => hK _ ?_, fun h => ?_⟩
  · have h : clE a0 a1 ≠ 0 := by simpa using h
    simp only [f66]
    rw [if_pos h]
  have h : clE a0 a1 = 0 := by simpa using h
  have hb := blk_ok (f42_zero h).1
  rw [br_true_]
  intro _
  refine LoopP.up a0.length (fun i v => v.1 = placesN (fun z => !f117 (z, IntKind.i64.wrap (a1 - 1))) a0 i.toNat) (fun again i v hi0 hn hI hag => ?_) (by omega) rfl
  obtain ⟨v, u⟩ := v
  simp only at hI hag ⊢
  subst hI
  have hlen := placesN_len (p := fun z => !f117 (z, IntKind.i64.wrap (a1 - 1))) (l := a0) i.toNat
  rw [br_dec]
  refine ⟨fun hi => ?_, fun hi => hK _ ?_⟩
  · rw [br_false_, wr (n := i + 1) (by omega) (by omega)]
    refine ⟨by simp only [Bool.and_eq_true, decide_eq_true_eq]; omega, ?_⟩
    have hT : (i.toNat : Int) = i := by omega
    rw [br_both]
    refine ⟨fun h => ?_, fun h => ?_⟩
    · rw [br_false_, roomOk_iff]
      refine ⟨by omega, hag _ hi ?_⟩
      show _ = placesN _ _ _
      rw [show (i + 1).toNat = i.toNat + 1 by omega]
      simp only [placesN, h, if_true, hT]
    · refine hag _ hi ?_
      show _ = placesN _ _ _
      rw [show (i + 1).toNat = i.toNat + 1 by omega]
      simp only [placesN, h, Bool.false_eq_true, if_false]
  · simp only [f66]
    rw [if_neg (by simpa using h), show i.toNat = a0.length by omega]
theorem f66_fn : f66_e.fn = f66 := rfl
theorem f66_ok : EntryOK Try.prog 66 f66_e := by
  refine entryF progOK (EnvOK.cons f93_ok (EnvOK.cons f94_ok (EnvOK.cons f95_ok (EnvOK.cons f97_ok (EnvOK.cons f117_ok (EnvOK.cons f68_ok (EnvOK.cons f42_ok (EnvOK.nil)))))))) (A := f66_A) (d := 6) Try.func66 rfl rfl (fun _ _ => trivial) fun x hpre => ?_
  obtain ⟨a0, a1⟩ := x
  exact f66_t a0 a1 _ fun _ h => h.trans (congrFun f66_fn.symm _)
end Go.Proofs.Ytdhekhichomoiaa
end

section
namespace Go.Proofs.Ytdhekhichomoiaa
open Go Go.Pi Go.RowKit
set_option maxRecDepth 100000
set_option linter.unusedVariables false
set_option linter.unusedSimpArgs false

/-- A sample of a gate. -/
def cutAt (g : Int × Int × Int × List Int) (l : List (Int × Int)) (gate later : Int) (j : Nat) : Int × Int :=
  let at_ := IntKind.i64.wrap (IntKind.i64.wrap (f110 (g, gate) + j) + later)
  if 0 ≤ at_ ∧ at_ < l.length then (IntKind.i64.wrap (g.2.2.2.getD j 0 * (l.getD at_.toNat (0, 0)).1), IntKind.i64.wrap (g.2.2.2.getD j 0 * (l.getD at_.toNat (0, 0)).2)) else (0, 0)
def f109 (x : (Int × Int × Int × List Int) × List (Int × Int) × Int × Int) : List (Int × Int) := (List.range x.1.2.2.2.length).map (cutAt x.1 x.2.1 x.2.2.1 x.2.2.2)
def f109_pre (x : (Int × Int × Int × List Int) × List (Int × Int) × Int × Int) : Prop := x.1.2.2.2.length ≤ 1048576
def f109_e : Entry := { doms := [(true, (.pair (.int .i64) (.pair (.int .i64) (.pair (.int .i64) (.sl (.int .i64)))))), (false, (.sl (.pair (.int .i64) (.int .i64)))), (false, (.int .i64)), (false, (.int .i64))], cods := [(false, (.sl (.pair (.int .i64) (.int .i64))))], pre := f109_pre, fn := f109, uq := false, total := false }
def f109_E : Env := [(95, f95_e), (110, f110_e)]
def f109_A : Anns := { loops := [(1048576, { tms := [(1, .keep), (2, .keep), (3, .keep), (4, .keep), (9, .ref 1057803), (15, .keep), (16, .keep), (17, .data false (.int .i64))], obs := [(1048576, .keep), (1057803, .arr (.uniq) (.pair (.int .i64) (.int .i64)))], fz := [] })], own := [] }
theorem f109_run (a0 : Int × Int × Int × List Int) (a1 : List (Int × Int)) (a2 : Int) (a3 : Int) (K : (List (Int × Int)) → Prop) : runF Try.prog f109_E f109_A 6 Try.f109 f109_e.doms f109_e.cods (a0, a1, a2, a3) K =
    (br (lenOk (a0.2.2.2.length))
    (LoopP (V := Int × List (Int × Int) × Unit) (fun again v => (fun (again1 : Int → List (Int × Int) → Prop) (v1_0 : Int) (v1_1 : List (Int × Int)) =>
    br (decide (v1_0 < ((a0.2.2.2.length) : Int)))
    (br (decide (0 ≤ v1_0) && decide (v1_0 < ((a0.2.2.2.length) : Int)))
    (br (lenOk (a1.length))
    (br (f95 ((IntKind.i64.wrap ((IntKind.i64.wrap ((f110 (a0, a2)) + v1_0)) + a3)), (0, (IntKind.i64.wrap (((a1.length) : Int) - 1)))))
    (br (decide (0 ≤ (IntKind.i64.wrap ((IntKind.i64.wrap ((f110 (a0, a2)) + v1_0)) + a3))) && decide ((IntKind.i64.wrap ((IntKind.i64.wrap ((f110 (a0, a2)) + v1_0)) + a3)) < ((a1.length) : Int)))
    (br (roomOk ((v1_1.length) + 1) 16)
    (again1 (IntKind.i64.wrap (v1_0 + 1)) (v1_1 ++ ([((IntKind.i64.wrap ((a0.2.2.2.getD v1_0.toNat 0) * (a1.getD ((IntKind.i64.wrap ((IntKind.i64.wrap ((f110 (a0, a2)) + v1_0)) + a3)).toNat) (0, 0)).1)), (IntKind.i64.wrap ((a0.2.2.2.getD v1_0.toNat 0) * (a1.getD ((IntKind.i64.wrap ((IntKind.i64.wrap ((f110 (a0, a2)) + v1_0)) + a3)).toNat) (0, 0)).2)))] : List (Int × Int))))
    False)
    False)
    (br (roomOk ((v1_1.length) + 1) 16)
    (again1 (IntKind.i64.wrap (v1_0 + 1)) (v1_1 ++ ([((IntKind.i64.wrap ((a0.2.2.2.getD v1_0.toNat 0) * 0)), (IntKind.i64.wrap ((a0.2.2.2.getD v1_0.toNat 0) * 0)))] : List (Int × Int))))
    False))
    True)
    False)
    (K v1_1))
    (fun v1_0 v1_1 => again (v1_0, v1_1, ())) v.1 v.2.1) (0, ([] : List (Int × Int)), ()))
    True) := by kernel_rfl
theorem f109_t (a0 : Int × Int × Int × List Int) (a1 : List (Int × Int)) (a2 : Int) (a3 : Int) (hpre : f109_pre (a0, a1, a2, a3)) (K : (List (Int × Int)) → Prop) (hK : ∀ y : List (Int × Int), y = f109 (a0, a1, a2, a3) → K y) : RunF Try.prog f109_E f109_A 6 Try.f109 f109_e.doms f109_e.cods (a0, a1, a2, a3) K := by
  refine ⟨?_⟩
  rw [f109_run a0 a1 a2 a3 K]
  have hpl : a0.2.2.2.length ≤ 1048576 := hpre
  rw [br_true_]
  intro _
  refine LoopP.up a0.2.2.2.length (fun i v => v.1 = (List.range i.toNat).map (cutAt a0 a1 a2 a3)) (fun again i v hi0 hn hI hag => ?_) (by omega) rfl
  obtain ⟨v, u⟩ := v
  simp only at hI hag ⊢
  subst hI
  rw [br_both]
  refine ⟨fun hi => ?_, fun hi => hK _ ?_⟩
  · simp only [decide_eq_true_eq] at hi
    rw [br_false_]
    refine ⟨by simp only [Bool.and_eq_true, decide_eq_true_eq]; exact ⟨hi0, hi⟩, ?_⟩
    rw [br_true_, lenOk_iff]
    intro hll
    rw [wr (n := (a1.length : Int) - 1) (by omega) (by omega), wr (n := i + 1) (by omega) (by omega)]
    have hroom : roomOk (((List.range i.toNat).map (cutAt a0 a1 a2 a3)).length + 1) 16 = true := by rw [roomOk_iff]; simp; omega
    have hcast : ((i.toNat : Nat) : Int) = i := Int.toNat_of_nonneg hi0
    have next : ∀ z, z = cutAt a0 a1 a2 a3 i.toNat → again (i + 1, (List.range i.toNat).map (cutAt a0 a1 a2 a3) ++ [z], ()) := fun z hz => hag _ hi (by
      show _ = (List.range (i + 1).toNat).map (cutAt a0 a1 a2 a3)
      rw [← app_step hi0, hz])
    rw [br_both]
    refine ⟨fun h => ?_, fun h => ?_⟩
    · simp only [f95, Bool.and_eq_true, decide_eq_true_eq] at h
      rw [br_false_]
      refine ⟨by simp only [Bool.and_eq_true, decide_eq_true_eq]; omega, ?_⟩
      rw [hroom, br_t]
      refine next _ ?_
      unfold cutAt
      rw [hcast]
      simp only
      rw [if_pos (by omega)]
    · simp only [f95, Bool.and_eq_false_iff, decide_eq_false_iff_not] at h
      rw [hroom, br_t]
      refine next _ ?_
      unfold cutAt
      rw [hcast]
      simp only
      rw [if_neg (by omega), Int.mul_zero, wrap_zero]
  · simp only [decide_eq_false_iff_not] at hi
    rw [f109, show i.toNat = a0.2.2.2.length by omega]
theorem f109_fn : f109_e.fn = f109 := rfl
theorem f109_ok : EntryOK Try.prog 109 f109_e := by
  refine entryF progOK (EnvOK.cons f95_ok (EnvOK.cons f110_ok (EnvOK.nil))) (A := f109_A) (d := 6) Try.func109 rfl rfl (fun h => by cases h) fun x hpre => ?_
  obtain ⟨a0, a1, a2, a3⟩ := x
  exact f109_t a0 a1 a2 a3 hpre _ fun _ h => h.trans (congrFun f109_fn.symm _)
end Go.Proofs.Ytdhekhichomoiaa
end

section
namespace Go.Proofs.Ytdhekhichomoiaa
open Go Go.Pi Go.RowKit
set_option maxRecDepth 100000
set_option linter.unusedVariables false
set_option linter.unusedSimpArgs false

/-- The least or the greatest one of some number and the first ones. -/
def mmN (b : Bool) (s : Int) (e : Nat → Int) : Nat → Int
  | 0 => s
  | n + 1 => minmax b (mmN b s e n) (e n)
theorem minmax_self (b : Bool) (n : Int) : minmax b n n = n := by cases b <;> simp [minmax]
theorem mmN_lo {s : Int} {e : Nat → Int} : ∀ n, mmN false s e n ≤ s ∧ (∀ j, j < n → mmN false s e n ≤ e j) ∧ (mmN false s e n = s ∨ ∃ j, j < n ∧ mmN false s e n = e j)
  | 0 => ⟨Int.le_refl _, fun j h => by omega, .inl rfl⟩
  | n + 1 => by
    obtain ⟨h1, h2, h3⟩ := mmN_lo (s := s) (e := e) n
    simp only [mmN, minmax]
    split
    · refine ⟨by omega, fun j hj => ?_, .inr ⟨n, by omega, rfl⟩⟩
      rcases Nat.lt_succ_iff_lt_or_eq.1 hj with h | h
      · have := h2 j h; omega
      · subst h; omega
    · refine ⟨h1, fun j hj => ?_, ?_⟩
      · rcases Nat.lt_succ_iff_lt_or_eq.1 hj with h | h
        · exact h2 j h
        · subst h; omega
      · rcases h3 with h | ⟨j, hj, h⟩
        · exact .inl h
        · exact .inr ⟨j, by omega, h⟩
theorem mmN_hi {s : Int} {e : Nat → Int} : ∀ n, s ≤ mmN true s e n ∧ (∀ j, j < n → e j ≤ mmN true s e n) ∧ (mmN true s e n = s ∨ ∃ j, j < n ∧ mmN true s e n = e j)
  | 0 => ⟨Int.le_refl _, fun j h => by omega, .inl rfl⟩
  | n + 1 => by
    obtain ⟨h1, h2, h3⟩ := mmN_hi (s := s) (e := e) n
    simp only [mmN, minmax]
    split
    · refine ⟨by omega, fun j hj => ?_, .inr ⟨n, by omega, rfl⟩⟩
      rcases Nat.lt_succ_iff_lt_or_eq.1 hj with h | h
      · have := h2 j h; omega
      · subst h; omega
    · refine ⟨h1, fun j hj => ?_, ?_⟩
      · rcases Nat.lt_succ_iff_lt_or_eq.1 hj with h | h
        · exact h2 j h
        · subst h; omega
      · rcases h3 with h | ⟨j, hj, h⟩
        · exact .inl h
        · exact .inr ⟨j, by omega, h⟩
/-- The same numbers, begun with any of them. -/
theorem mmN_same {s s' : Int} {e e' : Nat → Int} {n i i' : Nat} (he : ∀ j, j < n → e j = e' j) (hi : i < n) (hi' : i' < n) (hs : s = e i) (hs' : s' = e' i') (b : Bool) : mmN b s e n = mmN b s' e' n := by
  cases b with
  | false =>
    obtain ⟨a1, a2, a3⟩ := mmN_lo (s := s) (e := e) n
    obtain ⟨b1, b2, b3⟩ := mmN_lo (s := s') (e := e') n
    refine Int.le_antisymm ?_ ?_
    · rcases b3 with h | ⟨j, hj, h⟩
      · rw [h, hs', ← he i' hi']; exact a2 i' hi'
      · rw [h, ← he j hj]; exact a2 j hj
    · rcases a3 with h | ⟨j, hj, h⟩
      · rw [h, hs, he i hi]; exact b2 i hi
      · rw [h, he j hj]; exact b2 j hj
  | true =>
    obtain ⟨a1, a2, a3⟩ := mmN_hi (s := s) (e := e) n
    obtain ⟨b1, b2, b3⟩ := mmN_hi (s := s') (e := e') n
    refine Int.le_antisymm ?_ ?_
    · rcases a3 with h | ⟨j, hj, h⟩
      · rw [h, hs, he i hi]; exact b2 i hi
      · rw [h, he j hj]; exact b2 j hj
    · rcases b3 with h | ⟨j, hj, h⟩
      · rw [h, hs', ← he i' hi']; exact a2 i' hi'
      · rw [h, ← he j hj]; exact a2 j hj
/-- Of fewer numbers. -/
theorem mmN_less {s s' : Int} {e e' : Nat → Int} {n n' d i' : Nat} (he : ∀ j, j < n' → e' j = e (j + d)) (hn : n' + d ≤ n) (hi' : i' < n') (hs' : s' = e' i') :
    mmN false s e n ≤ mmN false s' e' n' ∧ mmN true s' e' n' ≤ mmN true s e n := by
  obtain ⟨a1, a2, a3⟩ := mmN_lo (s := s) (e := e) n
  obtain ⟨b1, b2, b3⟩ := mmN_lo (s := s') (e := e') n'
  obtain ⟨c1, c2, c3⟩ := mmN_hi (s := s) (e := e) n
  obtain ⟨d1, d2, d3⟩ := mmN_hi (s := s') (e := e') n'
  constructor
  · rcases b3 with h | ⟨j, hj, h⟩
    · rw [h, hs', he i' hi']; exact a2 _ (by omega)
    · rw [h, he j hj]; exact a2 _ (by omega)
  · rcases d3 with h | ⟨j, hj, h⟩
    · rw [h, hs', he i' hi']; exact c2 _ (by omega)
    · rw [h, he j hj]; exact c2 _ (by omega)
def f119 (l : List Int) : Int := mmN false (l.getD 0 0) (fun j => l.getD j 0) l.length
def f119_pre (l : List Int) : Prop := 0 < l.length
def f119_e : Entry := { doms := [(false, (.sl (.int .i64)))], cods := [(false, (.int .i64))], pre := f119_pre, fn := f119, uq := false, total := false }
def f119_E : Env := []
def f119_A : Anns := { loops := [(1048576, { tms := [(0, .keep), (3, .data false (.int .i64)), (4, .data false (.int .i64))], obs := [], fz := [] })], own := [] }
theorem f119_run (a0 : List Int) (K : Int → Prop) : runF Try.prog f119_E f119_A 6 Try.f119 f119_e.doms f119_e.cods a0 K =
    (br (lenOk (a0.length))
    (br (decide (((a0.length) : Int) < 1))
    (False)
    (br (decide (0 ≤ 0) && decide (0 < ((a0.length) : Int)))
    (LoopP (V := Int × Int × Unit) (fun again v => (fun (again1 : Int → Int → Prop) (v1_0 : Int) (v1_1 : Int) =>
    br (lenOk (a0.length))
    (br (decide (v1_1 < ((a0.length) : Int)))
    (br (decide (0 ≤ v1_1) && decide (v1_1 < ((a0.length) : Int)))
    (again1 (minmax false v1_0 (a0.getD v1_1.toNat 0)) (IntKind.i64.wrap (v1_1 + 1)))
    False)
    (K v1_0))
    True)
    (fun v1_0 v1_1 => again (v1_0, v1_1, ())) v.1 v.2.1) ((a0.getD 0 0), 1, ()))
    False))
    True) := by kernel_rfl
theorem f119_t (a0 : List Int) (hpre : f119_pre a0) (K : Int → Prop) (hK : ∀ y : Int, y = f119 a0 → K y) : RunF Try.prog f119_E f119_A 6 Try.f119 f119_e.doms f119_e.cods a0 K := by
  refine ⟨?_⟩
  rw [f119_run a0 K]
  have hp : 0 < a0.length := hpre
  rw [br_true_, lenOk_iff]
  intro hl
  rw [br_dec]
  refine ⟨fun h => by omega, fun _ => ?_⟩
  rw [br_false_]
  refine ⟨by simp [hp], ?_⟩
  refine LoopP.upFrom2 1 a0.length (fun i m _ => m = mmN false (a0.getD 0 0) (fun j => a0.getD j 0) i.toNat) (fun again m i v hi0 hn hI hag => ?_) ?_
  · dsimp only
    subst hI
    rw [br_true_]
    intro _
    rw [br_dec]
    refine ⟨fun hi => ?_, fun hi => hK _ ?_⟩
    · rw [br_false_, wr (n := i + 1) (by omega) (by omega)]
      refine ⟨by simp only [Bool.and_eq_true, decide_eq_true_eq]; omega, hag _ _ hi ?_⟩
      rw [show (i + 1).toNat = i.toNat + 1 by omega]
      rfl
    · rw [f119, show i.toNat = a0.length by omega]
  · show a0.getD 0 0 = minmax false (a0.getD 0 0) (a0.getD 0 0)
    rw [minmax_self]
theorem f119_fn : f119_e.fn = f119 := rfl
theorem f119_ok : EntryOK Try.prog 119 f119_e := by
  refine entryF progOK (EnvOK.nil) (A := f119_A) (d := 6) Try.func119 rfl rfl (fun h => by cases h) fun x hpre => ?_
  exact f119_t x hpre _ fun _ h => h.trans (congrFun f119_fn.symm _)
end Go.Proofs.Ytdhekhichomoiaa
end

section
namespace Go.Proofs.Ytdhekhichomoiaa
open Go Go.Pi Go.RowKit
set_option maxRecDepth 100000
set_option linter.unusedVariables false
set_option linter.unusedSimpArgs false

def f120 (l : List Int) : Int := mmN true (l.getD 0 0) (fun j => l.getD j 0) l.length
def f120_pre (l : List Int) : Prop := 0 < l.length
def f120_e : Entry := { doms := [(false, (.sl (.int .i64)))], cods := [(false, (.int .i64))], pre := f120_pre, fn := f120, uq := false, total := false }
def f120_E : Env := [(119, f119_e)]
def f120_A : Anns := { loops := [(1048576, { tms := [(0, .keep), (3, .data false (.int .i64)), (4, .data false (.int .i64))], obs := [], fz := [] })], own := [] }
theorem f120_run (a0 : List Int) (K : Int → Prop) : runF Try.prog f120_E f120_A 6 Try.f120 f120_e.doms f120_e.cods a0 K =
    (br (lenOk (a0.length))
    (br (decide (((a0.length) : Int) < 1))
    (False)
    (br (decide (0 ≤ 0) && decide (0 < ((a0.length) : Int)))
    (LoopP (V := Int × Int × Unit) (fun again v => (fun (again1 : Int → Int → Prop) (v1_0 : Int) (v1_1 : Int) =>
    br (lenOk (a0.length))
    (br (decide (v1_1 < ((a0.length) : Int)))
    (br (decide (0 ≤ v1_1) && decide (v1_1 < ((a0.length) : Int)))
    (again1 (minmax true v1_0 (a0.getD v1_1.toNat 0)) (IntKind.i64.wrap (v1_1 + 1)))
    False)
    (K v1_0))
    True)
    (fun v1_0 v1_1 => again (v1_0, v1_1, ())) v.1 v.2.1) ((a0.getD 0 0), 1, ()))
    False))
    True) := by kernel_rfl
theorem f120_t (a0 : List Int) (hpre : f120_pre a0) (K : Int → Prop) (hK : ∀ y : Int, y = f120 a0 → K y) : RunF Try.prog f120_E f120_A 6 Try.f120 f120_e.doms f120_e.cods a0 K := by
  refine ⟨?_⟩
  rw [f120_run a0 K]
  have hp : 0 < a0.length := hpre
  rw [br_true_, lenOk_iff]
  intro hl
  rw [br_dec]
  refine ⟨fun h => by omega, fun _ => ?_⟩
  rw [br_false_]
  refine ⟨by simp [hp], ?_⟩
  refine LoopP.upFrom2 1 a0.length (fun i m _ => m = mmN true (a0.getD 0 0) (fun j => a0.getD j 0) i.toNat) (fun again m i v hi0 hn hI hag => ?_) ?_
  · dsimp only
    subst hI
    rw [br_true_]
    intro _
    rw [br_dec]
    refine ⟨fun hi => ?_, fun hi => hK _ ?_⟩
    · rw [br_false_, wr (n := i + 1) (by omega) (by omega)]
      refine ⟨by simp only [Bool.and_eq_true, decide_eq_true_eq]; omega, hag _ _ hi ?_⟩
      rw [show (i + 1).toNat = i.toNat + 1 by omega]
      rfl
    · rw [f120, show i.toNat = a0.length by omega]
  · show a0.getD 0 0 = minmax true (a0.getD 0 0) (a0.getD 0 0)
    rw [minmax_self]
theorem f120_fn : f120_e.fn = f120 := rfl
theorem f120_ok : EntryOK Try.prog 120 f120_e := by
  refine entryF progOK (EnvOK.cons f119_ok (EnvOK.nil)) (A := f120_A) (d := 6) Try.func120 rfl rfl (fun h => by cases h) fun x hpre => ?_
  exact f120_t x hpre _ fun _ h => h.trans (congrFun f120_fn.symm _)
end Go.Proofs.Ytdhekhichomoiaa
end

section
namespace Go.Proofs.Ytdhekhichomoiaa
open Go Go.Pi Go.RowKit
set_option maxRecDepth 100000
set_option linter.unusedVariables false
set_option linter.unusedSimpArgs false

def f81 (x : Int × Int) : Int := f118 x
def f81_e : Entry := { doms := [(true, (.pair (.int .i64) (.int .i64)))], cods := [(false, (.int .i64))], pre := fun _ => True, fn := f81, uq := false, total := true }
def f81_E : Env := [(118, f118_e)]
def f81_A : Anns := { loops := [], own := [] }
theorem f81_run (a0 : Int × Int) (K : Int → Prop) : runF Try.prog f81_E f81_A 6 Try.f81 f81_e.doms f81_e.cods a0 K =
    (K (IntKind.i64.wrap ((IntKind.i64.wrap (a0.1 * a0.1)) + (IntKind.i64.wrap (a0.2 * a0.2))))) := by kernel_rfl
theorem f81_t (a0 : Int × Int) (K : Int → Prop) (hK : ∀ y : Int, y = f81 a0 → K y) : RunF Try.prog f81_E f81_A 6 Try.f81 f81_e.doms f81_e.cods a0 K := by
  refine ⟨?_⟩
  rw [f81_run a0 K]
  exact hK _ (by simp only [f81, f118])
theorem f81_fn : f81_e.fn = f81 := rfl
theorem f81_ok : EntryOK Try.prog 81 f81_e := by
  refine entryF progOK (EnvOK.cons f118_ok (EnvOK.nil)) (A := f81_A) (d := 6) Try.func81 rfl rfl (fun _ _ => trivial) fun x hpre => ?_
  exact f81_t x _ fun _ h => h.trans (congrFun f81_fn.symm _)
end Go.Proofs.Ytdhekhichomoiaa
end
