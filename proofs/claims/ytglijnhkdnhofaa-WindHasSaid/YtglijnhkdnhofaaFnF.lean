/- What functions of the program compute, each proved once, part 6. -/
import Derived.Test.YtglijnhkdnhofaaPiD
import Derived.Test.YtglijnhkdnhofaaFnA

section
namespace Go.Proofs.Ytglijnhkdnhofaa
open Go Go.Pi Go.RowKit
set_option maxRecDepth 100000
set_option linter.unusedVariables false
set_option linter.unusedSimpArgs false

def f21 (l : List ((Int × Int × Int) × Int × Int)) : Bool := decide (l.length ≤ 8)
def f21_e : Entry := { doms := [(false, (.sl (.pair (.pair (.int .i64) (.pair (.int .i64) (.int .i64))) (.pair (.int .i64) (.int .i64)))))], cods := [(false, .bool)], pre := fun _ => True, fn := f21, uq := false, total := true }
def f21_E : Env := []
def f21_A : Anns := { loops := [], own := [] }
theorem f21_run (a0 : List ((Int × Int × Int) × Int × Int)) (K : Bool → Prop) : runF Try.prog f21_E f21_A 6 Try.f21 f21_e.doms f21_e.cods a0 K =
    (br (lenOk (a0.length))
    (K (decide (((a0.length) : Int) ≤ 8)))
    True) := by kernel_rfl
theorem f21_t (a0 : List ((Int × Int × Int) × Int × Int)) (K : Bool → Prop) (hK : ∀ y : Bool, y = f21 a0 → K y) : RunF Try.prog f21_E f21_A 6 Try.f21 f21_e.doms f21_e.cods a0 K := by
  refine ⟨?_⟩
  rw [f21_run a0 K]
  rw [br_true_]
  intro _
  refine hK _ ?_
  show _ = decide (a0.length ≤ 8)
  rw [Bool.eq_iff_iff, decide_eq_true_iff, decide_eq_true_iff]
  omega
theorem f21_fn : f21_e.fn = f21 := rfl
theorem f21_ok : EntryOK Try.prog 21 f21_e := by
  refine entryF progOK (EnvOK.nil) (A := f21_A) (d := 6) Try.func21 rfl rfl rfl rfl (fun _ _ => trivial) fun x hpre => ?_
  exact f21_t x _ fun _ h => h.trans (congrFun f21_fn.symm _)
end Go.Proofs.Ytglijnhkdnhofaa
end

section
namespace Go.Proofs.Ytglijnhkdnhofaa
open Go Go.Pi Go.RowKit
set_option maxRecDepth 100000
set_option linter.unusedVariables false
set_option linter.unusedSimpArgs false

def f23 (l : List ((Int × Int × Int) × Int × Int)) : List ((Int × Int × Int) × Int × Int) := l
def f23_pre (l : List ((Int × Int × Int) × Int × Int)) : Prop := l.length ≤ 1048576
def f23_e : Entry := { doms := [(false, (.sl (.pair (.pair (.int .i64) (.pair (.int .i64) (.int .i64))) (.pair (.int .i64) (.int .i64)))))], cods := [(false, (.sl (.pair (.pair (.int .i64) (.pair (.int .i64) (.int .i64))) (.pair (.int .i64) (.int .i64)))))], pre := f23_pre, fn := f23, uq := true, total := false }
def f23_E : Env := []
def f23_A : Anns := { loops := [], own := [1049600] }
theorem f23_run (a0 : List ((Int × Int × Int) × Int × Int)) (K : (List ((Int × Int × Int) × Int × Int)) → Prop) : runU Try.prog f23_E f23_A 6 Try.f23 f23_e.doms f23_e.cods a0 K =
    (br (roomOk (0 + (a0.length)) 40)
    (K (([] : List ((Int × Int × Int) × Int × Int)) ++ a0))
    False) := by kernel_rfl
theorem f23_t (a0 : List ((Int × Int × Int) × Int × Int)) (hpre : f23_pre a0) (K : (List ((Int × Int × Int) × Int × Int)) → Prop) (hK : ∀ y : List ((Int × Int × Int) × Int × Int), y = f23 a0 → K y) : RunU Try.prog f23_E f23_A 6 Try.f23 f23_e.doms f23_e.cods a0 K := by
  refine ⟨?_⟩
  rw [f23_run a0 K]
  simp only [br_false_, roomOk_iff]
  have : a0.length ≤ 1048576 := hpre
  exact ⟨by omega, hK _ (by simp [f23])⟩
theorem f23_fn : f23_e.fn = f23 := rfl
theorem f23_ok : EntryOK Try.prog 23 f23_e := by
  refine entryFU progOK (EnvOK.nil) (A := f23_A) (d := 6) Try.func23 rfl rfl rfl (fun h => by cases h) fun x hpre => ?_
  exact f23_t x hpre _ fun _ h => h.trans (congrFun f23_fn.symm _)
end Go.Proofs.Ytglijnhkdnhofaa
end

section
namespace Go.Proofs.Ytglijnhkdnhofaa
open Go Go.Pi Go.RowKit
set_option maxRecDepth 100000
set_option linter.unusedVariables false
set_option linter.unusedSimpArgs false

def f82 (v : Int × Int × Int × Int) : Int := windE v
def f82_e : Entry := { doms := [(true, (.pair (.int .i64) (.pair (.int .i64) (.pair (.int .i64) (.int .i64)))))], cods := [(false, (.int .i64))], pre := fun _ => True, fn := f82, uq := false, total := true }
def f82_E : Env := [(60, f60_e), (61, f61_e), (97, f97_e), (109, f109_e)]
def f82_A : Anns := { loops := [], own := [] }
theorem f82_run (a0 : Int × Int × Int × Int) (K : Int → Prop) : runF Try.prog f82_E f82_A 6 Try.f82 f82_e.doms f82_e.cods a0 K =
    (br (f61 (a0.2.2.2, (1, 1000000000)))
    (br (f97 (a0.1, 1000000000000))
    (br (f97 (a0.2.1, 1000000000000))
    (br (!(f97 (a0.2.2.1, 1000000000000)))
    (K 2)
    (f109_pre ([a0.2.2.2, a0.1, a0.2.1, a0.2.2.1] : List Int) ∧
    K (f60 (((f109 ([a0.2.2.2, a0.1, a0.2.1, a0.2.2.1] : List Int)) == 1), 3))))
    (K 2))
    (K 2))
    (K 2)) := by kernel_rfl
theorem f82_t (a0 : Int × Int × Int × Int) (K : Int → Prop) (hK : ∀ y : Int, y = f82 a0 → K y) : RunF Try.prog f82_E f82_A 6 Try.f82 f82_e.doms f82_e.cods a0 K := by
  refine ⟨?_⟩
  rw [f82_run a0 K]
  have e : ∀ n : Int, f97 (n, 1000000000000) = decide (-1000000000000 ≤ n ∧ n ≤ 1000000000000) := fun n => f97_eq (by omega) (by omega)
  rw [f61_eq]
  simp only [e]
  refine br_two (fun h1 => br_two (fun h2 => br_two (fun h3 => br_two (fun h4 => hK _ ?_) fun h4 => ⟨?_, hK _ ?_⟩) fun h3 => hK _ ?_) fun h2 => hK _ ?_) fun h1 => hK _ ?_
  · rw [f82, windE, if_pos (fun h => nd_t.1 h4 h.2.2.2)]
  · simp only [decide_eq_true_eq] at h1 h2 h3
    have h4 := nd_f.1 h4
    intro n hn
    simp only [List.mem_cons, List.not_mem_nil, or_false] at hn
    rcases hn with rfl | rfl | rfl | rfl <;> constructor <;> omega
  · simp only [decide_eq_true_eq] at h1 h2 h3
    have h4 := nd_f.1 h4
    rw [f82, windE, if_neg (fun h => h ⟨h1, h2, h3, h4⟩), f60, f109]
    by_cases hg : gcdL [a0.2.2.2, a0.1, a0.2.1, a0.2.2.1] = 1
    · rw [hg]; rfl
    · rw [if_neg hg]
      have : (((gcdL [a0.2.2.2, a0.1, a0.2.1, a0.2.2.1] : Nat) : Int) == 1) = false := by rw [beq_eq_false_iff_ne]; omega
      rw [this]; rfl
  · rw [f82, windE, if_pos (fun h => by rw [decide_eq_false_iff_not] at h3; exact h3 h.2.2.1)]
  · rw [f82, windE, if_pos (fun h => by rw [decide_eq_false_iff_not] at h2; exact h2 h.2.1)]
  · rw [f82, windE, if_pos (fun h => by rw [decide_eq_false_iff_not] at h1; exact h1 h.1)]
theorem f82_fn : f82_e.fn = f82 := rfl
theorem f82_ok : EntryOK Try.prog 82 f82_e := by
  refine entryF progOK (EnvOK.cons f60_ok (EnvOK.cons f61_ok (EnvOK.cons f97_ok (EnvOK.cons f109_ok (EnvOK.nil))))) (A := f82_A) (d := 6) Try.func82 rfl rfl rfl rfl (fun _ _ => trivial) fun x hpre => ?_
  exact f82_t x _ fun _ h => h.trans (congrFun f82_fn.symm _)
end Go.Proofs.Ytglijnhkdnhofaa
end

section
namespace Go.Proofs.Ytglijnhkdnhofaa
open Go Go.Pi Go.RowKit
set_option maxRecDepth 100000
set_option linter.unusedVariables false
set_option linter.unusedSimpArgs false

def f31 (x : List ((Int × Int × Int) × Int × Int) × Int × Int × Int × Int) : Bool × Int := if (rdOf x.1).2 ≠ 0 then (false, (rdOf x.1).2) else if windE x.2 ≠ 0 then (false, windE x.2) else (x.1.all (agR · x.2), 0)
def f31_e : Entry := { doms := [(false, (.sl (.pair (.pair (.int .i64) (.pair (.int .i64) (.int .i64))) (.pair (.int .i64) (.int .i64))))), (true, (.pair (.int .i64) (.pair (.int .i64) (.pair (.int .i64) (.int .i64)))))], cods := [(false, .bool), (false, (.int .i64))], pre := fun _ => True, fn := f31, uq := false, total := true }
def f31_E : Env := [(59, f59_e), (71, f71_e), (82, f82_e), (83, f83_e)]
def f31_A : Anns := { loops := [], own := [] }
theorem f31_run (a0 : List ((Int × Int × Int) × Int × Int)) (a1 : Int × Int × Int × Int) (K : (Bool × Int) → Prop) : runF Try.prog f31_E f31_A 6 Try.f31 f31_e.doms f31_e.cods (a0, a1) K =
    (br ((f59 ([(f71 a0).2, (f82 a1)] : List Int)) != 0)
    (K (false, (f59 ([(f71 a0).2, (f82 a1)] : List Int))))
    (K ((f83 ((f71 a0).1, a1)), 0))) := by kernel_rfl
theorem f31_t (a0 : List ((Int × Int × Int) × Int × Int)) (a1 : Int × Int × Int × Int) (K : (Bool × Int) → Prop) (hK : ∀ y : Bool × Int, y = f31 (a0, a1) → K y) : RunF Try.prog f31_E f31_A 6 Try.f31 f31_e.doms f31_e.cods (a0, a1) K := by
  refine ⟨?_⟩
  rw [f31_run a0 a1 K]
  have e : f59 [(f71 a0).2, f82 a1] = if (rdOf a0).2 ≠ 0 then (rdOf a0).2 else windE a1 := by
    rw [f59_cons, f59_cons, f59_nil]
    show (if (rdOf a0).2 = 0 then if windE a1 = 0 then 0 else windE a1 else (rdOf a0).2) = _
    by_cases h1 : (rdOf a0).2 = 0 <;> by_cases h2 : windE a1 = 0 <;> simp [h1, h2]
  rw [e]
  refine br_two (fun h => hK _ ?_) fun h => hK _ ?_
  · have h := bne_t.1 h
    rw [f31]
    by_cases h1 : (rdOf a0).2 = 0
    · by_cases h2 : windE a1 = 0
      · simp [h1, h2] at h
      · simp [h1, h2]
    · simp [h1]
  · have h := bne_f.1 h
    rw [f31]
    by_cases h1 : (rdOf a0).2 = 0
    · by_cases h2 : windE a1 = 0
      · simp [h1, h2]; rfl
      · simp [h1, h2] at h
    · simp [h1] at h
theorem f31_fn : f31_e.fn = f31 := rfl
theorem f31_ok : EntryOK Try.prog 31 f31_e := by
  refine entryF progOK (EnvOK.cons f59_ok (EnvOK.cons f71_ok (EnvOK.cons f82_ok (EnvOK.cons f83_ok (EnvOK.nil))))) (A := f31_A) (d := 6) Try.func31 rfl rfl rfl rfl (fun _ _ => trivial) fun x hpre => ?_
  obtain ⟨a0, a1⟩ := x
  exact f31_t a0 a1 _ fun _ h => h.trans (congrFun f31_fn.symm _)
end Go.Proofs.Ytglijnhkdnhofaa
end

section
namespace Go.Proofs.Ytglijnhkdnhofaa
open Go Go.Pi Go.RowKit
set_option maxRecDepth 100000
set_option linter.unusedVariables false
set_option linter.unusedSimpArgs false

def f35 (x : Int × Int × Int) : Bool := decide (x.2.1 ≤ x.1) && decide (x.1 ≤ x.2.2)
def f35_e : Entry := { doms := [(false, (.int .i64)), (false, (.int .i64)), (false, (.int .i64))], cods := [(false, .bool)], pre := fun _ => True, fn := f35, uq := false, total := true }
def f35_E : Env := []
def f35_A : Anns := { loops := [], own := [] }
theorem f35_run (a0 : Int) (a1 : Int) (a2 : Int) (K : Bool → Prop) : runF Try.prog f35_E f35_A 6 Try.f35 f35_e.doms f35_e.cods (a0, a1, a2) K =
    (br (decide (a1 ≤ a0))
    (K (decide (a0 ≤ a2)))
    (K false)) := by kernel_rfl
theorem f35_t (a0 : Int) (a1 : Int) (a2 : Int) (K : Bool → Prop) (hK : ∀ y : Bool, y = f35 (a0, a1, a2) → K y) : RunF Try.prog f35_E f35_A 6 Try.f35 f35_e.doms f35_e.cods (a0, a1, a2) K := by
  refine ⟨?_⟩
  rw [f35_run a0 a1 a2 K]
  rw [br_dec]
  exact ⟨fun h => hK _ (by simp [f35, h]), fun h => hK _ (by simp [f35, h])⟩
theorem f35_fn : f35_e.fn = f35 := rfl
theorem f35_ok : EntryOK Try.prog 35 f35_e := by
  refine entryF progOK (EnvOK.nil) (A := f35_A) (d := 6) Try.func35 rfl rfl rfl rfl (fun _ _ => trivial) fun x hpre => ?_
  obtain ⟨a0, a1, a2⟩ := x
  exact f35_t a0 a1 a2 _ fun _ h => h.trans (congrFun f35_fn.symm _)
theorem f35_t1 {a b c : Int} : f35 (a, b, c) = true ↔ b ≤ a ∧ a ≤ c := by simp [f35]
theorem f35_f1 {a b c : Int} : f35 (a, b, c) = false ↔ ¬ (b ≤ a ∧ a ≤ c) := by rw [← Bool.not_eq_true, f35_t1]
end Go.Proofs.Ytglijnhkdnhofaa
end

section
namespace Go.Proofs.Ytglijnhkdnhofaa
open Go Go.Pi Go.RowKit
set_option maxRecDepth 100000
set_option linter.unusedVariables false
set_option linter.unusedSimpArgs false

def f77 (d : Int × Int × Int) : Int := dirE d
def f77_e : Entry := { doms := [(true, (.pair (.int .i64) (.pair (.int .i64) (.int .i64))))], cods := [(false, (.int .i64))], pre := fun _ => True, fn := f77, uq := false, total := true }
def f77_E : Env := [(35, f35_e)]
def f77_A : Anns := { loops := [], own := [], unroll := 4 }
theorem f77_run (a0 : Int × Int × Int) (K : Int → Prop) : runF Try.prog f77_E f77_A 6 Try.f77 f77_e.doms f77_e.cods a0 K =
    (br (!(f35 (a0.1, ((-9), 9))))
    (K 2)
    (br (!(f35 (a0.2.1, ((-9), 9))))
    (K 2)
    (br (!(f35 (a0.2.2, ((-9), 9))))
    (K 2)
    (br ((a0.1 == 0) && ((a0.2.1 == 0) && ((a0.2.2 == 0) && true)))
    (K 11)
    (K 0))))) := by kernel_rfl
theorem f77_t (a0 : Int × Int × Int) (K : Int → Prop) (hK : ∀ y : Int, y = f77 a0 → K y) : RunF Try.prog f77_E f77_A 6 Try.f77 f77_e.doms f77_e.cods a0 K := by
  refine ⟨?_⟩
  rw [f77_run a0 K]
  have e : ∀ n : Int, f35 (n, -9, 9) = decide (-9 ≤ n ∧ n ≤ 9) := fun n => by simp [f35]
  simp only [e]
  refine br_two (fun h1 => hK _ ?_) fun h1 => br_two (fun h2 => hK _ ?_) fun h2 => br_two (fun h3 => hK _ ?_) fun h3 => br_two (fun h4 => hK _ ?_) fun h4 => hK _ ?_
  · simp only [Bool.not_eq_true', decide_eq_false_iff_not] at h1
    rw [f77, dirE, if_pos (fun h => h1 h.1)]
  · simp only [Bool.not_eq_true', decide_eq_false_iff_not] at h2
    rw [f77, dirE, if_pos (fun h => h2 h.2.1)]
  · simp only [Bool.not_eq_true', decide_eq_false_iff_not] at h3
    rw [f77, dirE, if_pos (fun h => h3 h.2.2)]
  · simp only [Bool.not_eq_false', decide_eq_true_iff] at h1 h2 h3
    rw [f77, dirE, if_neg (fun h => h ⟨h1, h2, h3⟩)]
    obtain ⟨x, y, z⟩ := a0
    simp at h4
    simp [h4]
  · simp only [Bool.not_eq_false', decide_eq_true_iff] at h1 h2 h3
    rw [f77, dirE, if_neg (fun h => h ⟨h1, h2, h3⟩)]
    obtain ⟨x, y, z⟩ := a0
    simp at h4
    rw [if_neg (by simpa using h4)]
theorem f77_fn : f77_e.fn = f77 := rfl
theorem f77_ok : EntryOK Try.prog 77 f77_e := by
  refine entryF progOK (EnvOK.cons f35_ok (EnvOK.nil)) (A := f77_A) (d := 6) Try.func77 rfl rfl rfl rfl (fun _ _ => trivial) fun x hpre => ?_
  exact f77_t x _ fun _ h => h.trans (congrFun f77_fn.symm _)
end Go.Proofs.Ytglijnhkdnhofaa
end

section
namespace Go.Proofs.Ytglijnhkdnhofaa
open Go Go.Pi Go.RowKit
set_option maxRecDepth 100000
set_option linter.unusedVariables false
set_option linter.unusedSimpArgs false

def f26 (l : List ((Int × Int × Int) × Int × Int)) : Int × Int := rdOf l
def f26_e : Entry := { doms := [(false, (.sl (.pair (.pair (.int .i64) (.pair (.int .i64) (.int .i64))) (.pair (.int .i64) (.int .i64)))))], cods := [(false, (.int .i64)), (false, (.int .i64))], pre := fun _ => True, fn := f26, uq := false, total := true }
def f26_E : Env := [(35, f35_e), (77, f77_e)]
def f26_A : Anns := { loops := [(1048576, { tms := [(0, .keep), (4, .data false (.int .i64))], obs := [], fz := [] })], own := [] }
theorem f26_run (a0 : List ((Int × Int × Int) × Int × Int)) (K : (Int × Int) → Prop) : runF Try.prog f26_E f26_A 6 Try.f26 f26_e.doms f26_e.cods a0 K =
    (br (lenOk (a0.length))
    (br (((a0.length) : Int) == 0)
    (K (0, 10))
    (br (lenOk (a0.length))
    (br (decide (((a0.length) : Int) > 6))
    (K (0, 8))
    (LoopP (V := Int × Unit) (fun again v => (fun (again1 : Int → Prop) (v1_0 : Int) =>
    br (lenOk (a0.length))
    (br (decide (v1_0 < ((a0.length) : Int)))
    (br (decide (0 ≤ v1_0) && decide (v1_0 < ((a0.length) : Int)))
    (br ((f77 (((a0.getD v1_0.toNat ((0, (0, 0)), (0, 0))).1).1, (((a0.getD v1_0.toNat ((0, (0, 0)), (0, 0))).1).2))) != 0)
    (K (v1_0, (f77 (((a0.getD v1_0.toNat ((0, (0, 0)), (0, 0))).1).1, (((a0.getD v1_0.toNat ((0, (0, 0)), (0, 0))).1).2)))))
    (br (decide (0 ≤ v1_0) && decide (v1_0 < ((a0.length) : Int)))
    (br (!(f35 (((a0.getD v1_0.toNat ((0, (0, 0)), (0, 0))).2).1, ((-10000), 10000))))
    (K (v1_0, 2))
    (br (decide (0 ≤ v1_0) && decide (v1_0 < ((a0.length) : Int)))
    (br (!(f35 (((a0.getD v1_0.toNat ((0, (0, 0)), (0, 0))).2).2, ((-10000), 10000))))
    (K (v1_0, 2))
    (br (decide (0 ≤ v1_0) && decide (v1_0 < ((a0.length) : Int)))
    (br (decide (0 ≤ v1_0) && decide (v1_0 < ((a0.length) : Int)))
    (br (decide (((a0.getD v1_0.toNat ((0, (0, 0)), (0, 0))).2).1 > ((a0.getD v1_0.toNat ((0, (0, 0)), (0, 0))).2).2))
    (K (v1_0, 9))
    (again1 (IntKind.i64.wrap (v1_0 + 1))))
    False)
    False))
    False))
    False))
    False)
    (K (0, 0)))
    True)
    (fun v1_0 => again (v1_0, ())) v.1) (0, ())))
    True))
    True) := by kernel_rfl
theorem f26_t (a0 : List ((Int × Int × Int) × Int × Int)) (K : (Int × Int) → Prop) (hK : ∀ y : Int × Int, y = f26 a0 → K y) : RunF Try.prog f26_E f26_A 6 Try.f26 f26_e.doms f26_e.cods a0 K := by
  refine ⟨?_⟩
  rw [f26_run a0 K]
  rw [br_true_, lenOk_iff]
  intro hl
  refine br_two (fun h => hK _ ?_) fun h => br_weak (br_if (fun h2 => hK _ ?_) fun h2 => ?_)
  · have h : a0.length = 0 := by have := beq_iff_eq.1 h; omega
    rw [f26, rdOf, if_pos h]
  · have h : ¬ a0.length = 0 := by have := beq_eq_false_iff_ne.1 h; omega
    rw [f26, rdOf, if_neg h, if_pos (by omega)]
  · have h0 : ¬ a0.length = 0 := by have := beq_eq_false_iff_ne.1 h; omega
    have h1 : ¬ a0.length > 6 := by omega
    refine each_loop (K := K) (n := a0.length) (e := fun i => rdE (a0.getD i rd0)) (hK _ (by rw [f26, rdOf, if_neg h0, if_neg h1])) (fun again i hi hI good bad fin => ?_)
    dsimp only
    refine br_weak (br_if (fun hlt => ?_) fun hlt => fin (by omega))
    have hlt : i < a0.length := by omega
    have b0 : (decide (0 ≤ (i : Int)) && decide ((i : Int) < (a0.length : Int))) = true := inb (by omega) (by omega)
    have e35 : ∀ n : Int, f35 (n, -10000, 10000) = decide (-10000 ≤ n ∧ n ≤ 10000) := fun n => by simp [f35]
    rw [wr (n := (i : Int) + 1) (by omega) (by omega), Int.toNat_natCast]
    generalize hx : a0.getD i ((0, 0, 0), 0, 0) = x at *
    have hx : a0.getD i rd0 = x := hx
    rw [hx] at good bad
    have hd : f77 x.1 = dirE x.1 := rfl
    refine br_must b0 (br_two (fun he => ?_) fun he => br_must b0 (br_two (fun h3 => ?_) fun h3 => br_must b0 (br_two (fun h4 => ?_) fun h4 => br_must b0 (br_must b0 (br_if (fun h5 => ?_) fun h5 => ?_)))))
    · have he : dirE x.1 ≠ 0 := bne_t.1 he
      have := bad hlt (by rw [rdE, if_pos he]; exact he)
      rwa [rdE, if_pos he] at this
    · have he : dirE x.1 = 0 := bne_f.1 he
      rw [e35] at h3
      have e : rdE x = 2 := by rw [rdE, if_neg (fun h => h he), rngE, if_pos (fun h => nd_t.1 h3 h.1)]
      have := bad hlt (by rw [e]; decide)
      rwa [e] at this
    · have he : dirE x.1 = 0 := bne_f.1 he
      rw [e35] at h4
      have e : rdE x = 2 := by rw [rdE, if_neg (fun h => h he), rngE, if_pos (fun h => nd_t.1 h4 h.2)]
      have := bad hlt (by rw [e]; decide)
      rwa [e] at this
    · have he : dirE x.1 = 0 := bne_f.1 he
      rw [e35] at h3 h4
      have e : rdE x = 9 := by rw [rdE, if_neg (fun h => h he), rngE, if_neg (fun h => h ⟨nd_f.1 h3, nd_f.1 h4⟩), if_neg (by omega)]
      have := bad hlt (by rw [e]; decide)
      rwa [e] at this
    · have he : dirE x.1 = 0 := bne_f.1 he
      rw [e35] at h3 h4
      have e : rdE x = 0 := by rw [rdE, if_neg (fun h => h he), rngE, if_neg (fun h => h ⟨nd_f.1 h3, nd_f.1 h4⟩), if_pos (by omega)]
      exact good hlt e
theorem f26_fn : f26_e.fn = f26 := rfl
theorem f26_ok : EntryOK Try.prog 26 f26_e := by
  refine entryF progOK (EnvOK.cons f35_ok (EnvOK.cons f77_ok (EnvOK.nil))) (A := f26_A) (d := 6) Try.func26 rfl rfl rfl rfl (fun _ _ => trivial) fun x hpre => ?_
  exact f26_t x _ fun _ h => h.trans (congrFun f26_fn.symm _)
end Go.Proofs.Ytglijnhkdnhofaa
end

section
namespace Go.Proofs.Ytglijnhkdnhofaa
open Go Go.Pi Go.RowKit
set_option maxRecDepth 100000
set_option linter.unusedVariables false
set_option linter.unusedSimpArgs false

def f32 (l : List ((Int × Int × Int) × Int × Int)) : Int := (rdOf l).2
def f32_e : Entry := { doms := [(false, (.sl (.pair (.pair (.int .i64) (.pair (.int .i64) (.int .i64))) (.pair (.int .i64) (.int .i64)))))], cods := [(false, (.int .i64))], pre := fun _ => True, fn := f32, uq := false, total := true }
def f32_E : Env := [(26, f26_e)]
def f32_A : Anns := { loops := [], own := [] }
theorem f32_run (a0 : List ((Int × Int × Int) × Int × Int)) (K : Int → Prop) : runF Try.prog f32_E f32_A 6 Try.f32 f32_e.doms f32_e.cods a0 K =
    (K ((f26 a0).2)) := by kernel_rfl
theorem f32_t (a0 : List ((Int × Int × Int) × Int × Int)) (K : Int → Prop) (hK : ∀ y : Int, y = f32 a0 → K y) : RunF Try.prog f32_E f32_A 6 Try.f32 f32_e.doms f32_e.cods a0 K := by
  refine ⟨?_⟩
  rw [f32_run a0 K]
  exact hK _ rfl
theorem f32_fn : f32_e.fn = f32 := rfl
theorem f32_ok : EntryOK Try.prog 32 f32_e := by
  refine entryF progOK (EnvOK.cons f26_ok (EnvOK.nil)) (A := f32_A) (d := 6) Try.func32 rfl rfl rfl rfl (fun _ _ => trivial) fun x hpre => ?_
  exact f32_t x _ fun _ h => h.trans (congrFun f32_fn.symm _)
end Go.Proofs.Ytglijnhkdnhofaa
end

section
namespace Go.Proofs.Ytglijnhkdnhofaa
open Go Go.Pi Go.RowKit
set_option maxRecDepth 100000
set_option linter.unusedVariables false
set_option linter.unusedSimpArgs false

def f113 (n : Int) : Int := minmax true n (IntKind.i64.wrap (0 - n))
def f113_e : Entry := { doms := [(false, (.int .i64))], cods := [(false, (.int .i64))], pre := fun _ => True, fn := f113, uq := false, total := true }
def f113_E : Env := []
def f113_A : Anns := { loops := [], own := [] }
theorem f113_run (a0 : Int) (K : Int → Prop) : runF Try.prog f113_E f113_A 6 Try.f113 f113_e.doms f113_e.cods a0 K =
    (K (minmax true a0 (IntKind.i64.wrap (0 - a0)))) := by kernel_rfl
theorem f113_t (a0 : Int) (K : Int → Prop) (hK : ∀ y : Int, y = f113 a0 → K y) : RunF Try.prog f113_E f113_A 6 Try.f113 f113_e.doms f113_e.cods a0 K := by
  refine ⟨?_⟩
  rw [f113_run a0 K]
  exact hK _ rfl
theorem f113_fn : f113_e.fn = f113 := rfl
theorem f113_ok : EntryOK Try.prog 113 f113_e := by
  refine entryF progOK (EnvOK.nil) (A := f113_A) (d := 6) Try.func113 rfl rfl rfl rfl (fun _ _ => trivial) fun x hpre => ?_
  exact f113_t x _ fun _ h => h.trans (congrFun f113_fn.symm _)
end Go.Proofs.Ytglijnhkdnhofaa
end

section
namespace Go.Proofs.Ytglijnhkdnhofaa
open Go Go.Pi Go.RowKit
set_option maxRecDepth 100000
set_option linter.unusedVariables false
set_option linter.unusedSimpArgs false

def f84 (x : Int × Int) : Int := (Nat.gcd x.1.natAbs x.2.natAbs : Int)
def f84_pre (x : Int × Int) : Prop := Fit x.1 ∧ Fit x.2
def f84_e : Entry := { doms := [(false, (.int .i64)), (false, (.int .i64))], cods := [(false, (.int .i64))], pre := f84_pre, fn := f84, uq := false, total := false }
def f84_E : Env := [(113, f113_e)]
def f84_A : Anns := { loops := [(1048576, { tms := [(0, .data false (.int .i64)), (1, .data false (.int .i64))], obs := [], fz := [] })], own := [] }
theorem f84_run (a0 : Int) (a1 : Int) (K : Int → Prop) : runF Try.prog f84_E f84_A 6 Try.f84 f84_e.doms f84_e.cods (a0, a1) K =
    (LoopP (V := Int × Int × Unit) (fun again v => (fun (again1 : Int → Int → Prop) (v1_0 : Int) (v1_1 : Int) =>
    br (v1_1 != 0)
    (br (!(decide (v1_1 = 0)))
    (again1 v1_1 (v1_0.tmod v1_1))
    False)
    (K (f113 v1_0)))
    (fun v1_0 v1_1 => again (v1_0, v1_1, ())) v.1 v.2.1) (a0, a1, ())) := by kernel_rfl
theorem f84_t (a0 : Int) (a1 : Int) (hpre : f84_pre (a0, a1)) (K : Int → Prop) (hK : ∀ y : Int, y = f84 (a0, a1) → K y) : RunF Try.prog f84_E f84_A 6 Try.f84 f84_e.doms f84_e.cods (a0, a1) K := by
  refine ⟨?_⟩
  rw [f84_run a0 a1 K]
  obtain ⟨h1, h2⟩ := hpre
  refine LoopP.of (fun q : Int × Int × Unit => Fit q.1 ∧ Fit q.2.1 ∧ Nat.gcd q.1.natAbs q.2.1.natAbs = Nat.gcd a0.natAbs a1.natAbs) (fun q => q.2.1.natAbs) (fun again q hq hag => ?_) ⟨h1, h2, rfl⟩
  obtain ⟨a, b, u⟩ := q
  obtain ⟨f1, f2, hg⟩ := hq
  dsimp only at f1 f2 hg ⊢
  refine br_two (fun hb => ?_) fun hb => ?_
  · have hb := bne_t.1 hb
    exact br_must (ne_zero_b hb) (hag (b, a.tmod b, ()) ⟨f2, tmod_fit f1 hb, (gcd_step a b hb).trans hg⟩ (tmod_lt hb))
  · have hb := bne_f.1 hb
    subst hb
    refine hK _ ?_
    simp only [f113, f84, minmax_abs f1, ← hg]
    simp
theorem f84_fn : f84_e.fn = f84 := rfl
theorem f84_ok : EntryOK Try.prog 84 f84_e := by
  refine entryF progOK (EnvOK.cons f113_ok (EnvOK.nil)) (A := f84_A) (d := 6) Try.func84 rfl rfl rfl rfl (fun h => by cases h) fun x hpre => ?_
  obtain ⟨a0, a1⟩ := x
  exact f84_t a0 a1 hpre _ fun _ h => h.trans (congrFun f84_fn.symm _)
end Go.Proofs.Ytglijnhkdnhofaa
end

section
namespace Go.Proofs.Ytglijnhkdnhofaa
open Go Go.Pi Go.RowKit
set_option maxRecDepth 100000
set_option linter.unusedVariables false
set_option linter.unusedSimpArgs false

def f33 (v : Int × Int × Int × Int) : Int := windE v
def f33_e : Entry := { doms := [(true, (.pair (.int .i64) (.pair (.int .i64) (.pair (.int .i64) (.int .i64)))))], cods := [(false, (.int .i64))], pre := fun _ => True, fn := f33, uq := false, total := true }
def f33_E : Env := [(35, f35_e), (84, f84_e)]
def f33_A : Anns := { loops := [], own := [] }
theorem f33_run (a0 : Int × Int × Int × Int) (K : Int → Prop) : runF Try.prog f33_E f33_A 6 Try.f33 f33_e.doms f33_e.cods a0 K =
    (br (!(f35 (a0.2.2.2, (1, 1000000000))))
    (K 2)
    (br (!(f35 (a0.1, ((-1000000000000), 1000000000000))))
    (K 2)
    (br (!(f35 (a0.2.1, ((-1000000000000), 1000000000000))))
    (K 2)
    (br (!(f35 (a0.2.2.1, ((-1000000000000), 1000000000000))))
    (K 2)
    (f84_pre (a0.2.1, a0.2.2.1) ∧
    f84_pre (a0.1, (f84 (a0.2.1, a0.2.2.1))) ∧
    f84_pre (a0.2.2.2, (f84 (a0.1, (f84 (a0.2.1, a0.2.2.1))))) ∧
    br ((f84 (a0.2.2.2, (f84 (a0.1, (f84 (a0.2.1, a0.2.2.1)))))) != 1)
    (K 3)
    (K 0)))))) := by kernel_rfl
theorem f33_t (a0 : Int × Int × Int × Int) (K : Int → Prop) (hK : ∀ y : Int, y = f33 a0 → K y) : RunF Try.prog f33_E f33_A 6 Try.f33 f33_e.doms f33_e.cods a0 K := by
  refine ⟨?_⟩
  rw [f33_run a0 K]
  have e : ∀ a b c : Int, f35 (a, b, c) = decide (b ≤ a ∧ a ≤ c) := fun a b c => by simp [f35]
  simp only [e]
  refine br_two (fun h1 => hK _ ?_) fun h1 => br_two (fun h2 => hK _ ?_) fun h2 => br_two (fun h3 => hK _ ?_) fun h3 => br_two (fun h4 => hK _ ?_) fun h4 => ?_
  · rw [f33, windE, if_pos (fun h => nd_t.1 h1 h.1)]
  · rw [f33, windE, if_pos (fun h => nd_t.1 h2 h.2.1)]
  · rw [f33, windE, if_pos (fun h => nd_t.1 h3 h.2.2.1)]
  · rw [f33, windE, if_pos (fun h => nd_t.1 h4 h.2.2.2)]
  · have h1 := nd_f.1 h1
    have h2 := nd_f.1 h2
    have h3 := nd_f.1 h3
    have h4 := nd_f.1 h4
    have q1 : Fit a0.1 := fit_le h2 (by omega)
    have q2 : Fit a0.2.1 := fit_le h3 (by omega)
    have q3 : Fit a0.2.2.1 := fit_le h4 (by omega)
    have q4 : Fit a0.2.2.2 := ⟨by omega, by omega⟩
    have g1 := gcd_fit (fit_abs q2) (fit_abs q3)
    have g2 := gcd_fit (fit_abs q1) g1
    have hg : f84 (a0.2.2.2, f84 (a0.1, f84 (a0.2.1, a0.2.2.1))) = (gcdL [a0.2.2.2, a0.1, a0.2.1, a0.2.2.1] : Int) := by
      rw [gcdL_four]; simp only [f84, Int.natAbs_natCast]
    rw [hg]
    refine ⟨⟨q2, q3⟩, ⟨q1, fit_nat g1⟩, ⟨q4, ?_⟩, br_two (fun h => hK _ ?_) fun h => hK _ ?_⟩
    · have := fit_nat g2
      simpa only [f84, Int.natAbs_natCast] using this
    · have h := bne_t.1 h
      rw [f33, windE, if_neg (fun h => h ⟨h1, h2, h3, h4⟩), if_neg (by omega)]
    · have h := bne_f.1 h
      rw [f33, windE, if_neg (fun h => h ⟨h1, h2, h3, h4⟩), if_pos (by omega)]
theorem f33_fn : f33_e.fn = f33 := rfl
theorem f33_ok : EntryOK Try.prog 33 f33_e := by
  refine entryF progOK (EnvOK.cons f35_ok (EnvOK.cons f84_ok (EnvOK.nil))) (A := f33_A) (d := 6) Try.func33 rfl rfl rfl rfl (fun _ _ => trivial) fun x hpre => ?_
  exact f33_t x _ fun _ h => h.trans (congrFun f33_fn.symm _)
end Go.Proofs.Ytglijnhkdnhofaa
end

section
namespace Go.Proofs.Ytglijnhkdnhofaa
open Go Go.Pi Go.RowKit
set_option maxRecDepth 100000
set_option linter.unusedVariables false
set_option linter.unusedSimpArgs false

def f36 (x : Int × Int × Int × Int) : Int × Int × Int := (x.1, x.2.1, x.2.2.1)
def f36_e : Entry := { doms := [(true, (.pair (.int .i64) (.pair (.int .i64) (.pair (.int .i64) (.int .i64)))))], cods := [(true, (.pair (.int .i64) (.pair (.int .i64) (.int .i64))))], pre := fun _ => True, fn := f36, uq := false, total := true }
def f36_E : Env := []
def f36_A : Anns := { loops := [], own := [] }
theorem f36_run (a0 : Int × Int × Int × Int) (K : (Int × Int × Int) → Prop) : runF Try.prog f36_E f36_A 6 Try.f36 f36_e.doms f36_e.cods a0 K =
    (K (a0.1, (a0.2.1, a0.2.2.1))) := by kernel_rfl
theorem f36_t (a0 : Int × Int × Int × Int) (K : (Int × Int × Int) → Prop) (hK : ∀ y : Int × Int × Int, y = f36 a0 → K y) : RunF Try.prog f36_E f36_A 6 Try.f36 f36_e.doms f36_e.cods a0 K := by
  refine ⟨?_⟩
  rw [f36_run a0 K]
  exact hK _ rfl
theorem f36_fn : f36_e.fn = f36 := rfl
theorem f36_ok : EntryOK Try.prog 36 f36_e := by
  refine entryF progOK (EnvOK.nil) (A := f36_A) (d := 6) Try.func36 rfl rfl rfl rfl (fun _ _ => trivial) fun x hpre => ?_
  exact f36_t x _ fun _ h => h.trans (congrFun f36_fn.symm _)
end Go.Proofs.Ytglijnhkdnhofaa
end

section
namespace Go.Proofs.Ytglijnhkdnhofaa
open Go Go.Pi Go.RowKit
set_option maxRecDepth 100000
set_option linter.unusedVariables false
set_option linter.unusedSimpArgs false

def f37 (x : (Int × Int × Int) × Int × Int × Int) : Int := w64 (dot x.1 x.2)
def f37_e : Entry := { doms := [(true, (.pair (.int .i64) (.pair (.int .i64) (.int .i64)))), (true, (.pair (.int .i64) (.pair (.int .i64) (.int .i64))))], cods := [(false, (.int .i64))], pre := fun _ => True, fn := f37, uq := false, total := true }
def f37_E : Env := []
def f37_A : Anns := { loops := [], own := [] }
theorem f37_run (a0 : Int × Int × Int) (a1 : Int × Int × Int) (K : Int → Prop) : runF Try.prog f37_E f37_A 6 Try.f37 f37_e.doms f37_e.cods (a0, a1) K =
    (K (IntKind.i64.wrap ((IntKind.i64.wrap ((IntKind.i64.wrap (a0.1 * a1.1)) + (IntKind.i64.wrap (a0.2.1 * a1.2.1)))) + (IntKind.i64.wrap (a0.2.2 * a1.2.2))))) := by kernel_rfl
theorem f37_t (a0 : Int × Int × Int) (a1 : Int × Int × Int) (K : Int → Prop) (hK : ∀ y : Int, y = f37 (a0, a1) → K y) : RunF Try.prog f37_E f37_A 6 Try.f37 f37_e.doms f37_e.cods (a0, a1) K := by
  refine ⟨?_⟩
  rw [f37_run a0 a1 K]
  exact hK _ (by simp only [f37, w64, dot, wrap_add_l, wrap_add_r])
theorem f37_fn : f37_e.fn = f37 := rfl
theorem f37_ok : EntryOK Try.prog 37 f37_e := by
  refine entryF progOK (EnvOK.nil) (A := f37_A) (d := 6) Try.func37 rfl rfl rfl rfl (fun _ _ => trivial) fun x hpre => ?_
  obtain ⟨a0, a1⟩ := x
  exact f37_t a0 a1 _ fun _ h => h.trans (congrFun f37_fn.symm _)
end Go.Proofs.Ytglijnhkdnhofaa
end

section
namespace Go.Proofs.Ytglijnhkdnhofaa
open Go Go.Pi Go.RowKit
set_option maxRecDepth 100000
set_option linter.unusedVariables false
set_option linter.unusedSimpArgs false

def f85 (x : ((Int × Int × Int) × Int × Int) × Int × Int × Int × Int) : Bool := agR x.1 x.2
def f85_e : Entry := { doms := [(true, (.pair (.pair (.int .i64) (.pair (.int .i64) (.int .i64))) (.pair (.int .i64) (.int .i64)))), (true, (.pair (.int .i64) (.pair (.int .i64) (.pair (.int .i64) (.int .i64)))))], cods := [(false, .bool)], pre := fun _ => True, fn := f85, uq := false, total := true }
def f85_E : Env := [(36, f36_e), (37, f37_e)]
def f85_A : Anns := { loops := [], own := [] }
theorem f85_run (a0 : (Int × Int × Int) × Int × Int) (a1 : Int × Int × Int × Int) (K : Bool → Prop) : runF Try.prog f85_E f85_A 6 Try.f85 f85_e.doms f85_e.cods (a0, a1) K =
    (br (decide ((IntKind.i64.wrap (a0.2.1 * a1.2.2.2)) ≤ (f37 (a0.1, ((f36 a1).1, ((f36 a1).2))))))
    (K (decide ((f37 (a0.1, ((f36 a1).1, ((f36 a1).2)))) ≤ (IntKind.i64.wrap (a0.2.2 * a1.2.2.2)))))
    (K false)) := by kernel_rfl
theorem f85_t (a0 : (Int × Int × Int) × Int × Int) (a1 : Int × Int × Int × Int) (K : Bool → Prop) (hK : ∀ y : Bool, y = f85 (a0, a1) → K y) : RunF Try.prog f85_E f85_A 6 Try.f85 f85_e.doms f85_e.cods (a0, a1) K := by
  refine ⟨?_⟩
  rw [f85_run a0 a1 K]
  have e : f37 (a0.1, f36 a1) = w64 (dot a0.1 (wpt a1)) := rfl
  show br (decide (w64 _ ≤ f37 (a0.1, f36 a1))) (K (decide (f37 (a0.1, f36 a1) ≤ w64 _))) _
  rw [e]
  refine br_if (fun h => hK _ ?_) fun h => hK _ ?_
  · simp [f85, agR, h]
  · simp [f85, agR, h]
theorem f85_fn : f85_e.fn = f85 := rfl
theorem f85_ok : EntryOK Try.prog 85 f85_e := by
  refine entryF progOK (EnvOK.cons f36_ok (EnvOK.cons f37_ok (EnvOK.nil))) (A := f85_A) (d := 6) Try.func85 rfl rfl rfl rfl (fun _ _ => trivial) fun x hpre => ?_
  obtain ⟨a0, a1⟩ := x
  exact f85_t a0 a1 _ fun _ h => h.trans (congrFun f85_fn.symm _)
end Go.Proofs.Ytglijnhkdnhofaa
end

section
namespace Go.Proofs.Ytglijnhkdnhofaa
open Go Go.Pi Go.RowKit
set_option maxRecDepth 100000
set_option linter.unusedVariables false
set_option linter.unusedSimpArgs false

def f34 (x : List ((Int × Int × Int) × Int × Int) × Int × Int × Int × Int) : Bool := x.1.all (agR · x.2)
def f34_e : Entry := { doms := [(false, (.sl (.pair (.pair (.int .i64) (.pair (.int .i64) (.int .i64))) (.pair (.int .i64) (.int .i64))))), (true, (.pair (.int .i64) (.pair (.int .i64) (.pair (.int .i64) (.int .i64)))))], cods := [(false, .bool)], pre := fun _ => True, fn := f34, uq := false, total := true }
def f34_E : Env := [(85, f85_e)]
def f34_A : Anns := { loops := [(1048576, { tms := [(0, .keep), (3, .keep), (5, .data false (.int .i64))], obs := [(1048576, .keep)], fz := [] })], own := [] }
theorem f34_run (a0 : List ((Int × Int × Int) × Int × Int)) (a1 : Int × Int × Int × Int) (K : Bool → Prop) : runF Try.prog f34_E f34_A 6 Try.f34 f34_e.doms f34_e.cods (a0, a1) K =
    (LoopP (V := Int × Unit) (fun again v => (fun (again1 : Int → Prop) (v1_0 : Int) =>
    br (lenOk (a0.length))
    (br (decide (v1_0 < ((a0.length) : Int)))
    (br (decide (0 ≤ v1_0) && decide (v1_0 < ((a0.length) : Int)))
    (br (!(f85 (((((a0.getD v1_0.toNat ((0, (0, 0)), (0, 0))).1).1, (((a0.getD v1_0.toNat ((0, (0, 0)), (0, 0))).1).2)), ((a0.getD v1_0.toNat ((0, (0, 0)), (0, 0))).2)), a1)))
    (K false)
    (again1 (IntKind.i64.wrap (v1_0 + 1))))
    False)
    (K true))
    True)
    (fun v1_0 => again (v1_0, ())) v.1) (0, ())) := by kernel_rfl
theorem f34_t (a0 : List ((Int × Int × Int) × Int × Int)) (a1 : Int × Int × Int × Int) (K : Bool → Prop) (hK : ∀ y : Bool, y = f34 (a0, a1) → K y) : RunF Try.prog f34_E f34_A 6 Try.f34 f34_e.doms f34_e.cods (a0, a1) K := by
  refine ⟨?_⟩
  rw [f34_run a0 a1 K]
  refine LoopP.up a0.length (fun i _ => ∀ r ∈ a0.take i.toNat, agR r a1 = true) (fun again i v h0 hn hI hag => ?_) (by omega) all_zero
  dsimp only
  rw [br_true_, lenOk_iff]
  intro hl
  refine br_if (fun hlt => br_must (inb h0 hlt) ?_) fun hlt => hK _ ?_
  · rw [wr (n := i + 1) (by omega) (by omega)]
    generalize hx : a0.getD i.toNat ((0, 0, 0), 0, 0) = x at *
    show br (!(agR x a1)) _ _
    refine br_two (fun h => hK _ ?_) fun h => hag () hlt (all_step (d := ((0, 0, 0), 0, 0)) h0 hlt hI ?_)
    · rw [f34]
      refine (List.all_eq_false.2 ⟨x, ?_, by simpa using h⟩).symm
      rw [← hx, getD_lt (by omega)]; exact List.getElem_mem _
    · rw [hx]; simpa using h
  · exact (List.all_eq_true.2 (all_done hlt hI)).symm
theorem f34_fn : f34_e.fn = f34 := rfl
theorem f34_ok : EntryOK Try.prog 34 f34_e := by
  refine entryF progOK (EnvOK.cons f85_ok (EnvOK.nil)) (A := f34_A) (d := 6) Try.func34 rfl rfl rfl rfl (fun _ _ => trivial) fun x hpre => ?_
  obtain ⟨a0, a1⟩ := x
  exact f34_t a0 a1 _ fun _ h => h.trans (congrFun f34_fn.symm _)
end Go.Proofs.Ytglijnhkdnhofaa
end
