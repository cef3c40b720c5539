/- What functions of the program compute, each proved once, part 10. -/
import Derived.Test.YtglijnhkdnhofaaPiD
import Derived.Test.YtglijnhkdnhofaaFnA
import Derived.Test.YtglijnhkdnhofaaFnF

section
namespace Go.Proofs.Ytglijnhkdnhofaa
open Go Go.Pi Go.RowKit
set_option maxRecDepth 100000
set_option linter.unusedVariables false
set_option linter.unusedSimpArgs false

def f14 (l : List Int) : List Int := l
def f14_pre (l : List Int) : Prop := l.length ≤ 1048576
def f14_e : Entry := { doms := [(false, (.sl (.int .i64)))], cods := [(false, (.sl (.int .i64)))], pre := f14_pre, fn := f14, uq := true, total := false }
def f14_E : Env := []
def f14_A : Anns := { loops := [], own := [1049600] }
theorem f14_run (a0 : List Int) (K : (List Int) → Prop) : runU Try.prog f14_E f14_A 6 Try.f14 f14_e.doms f14_e.cods a0 K =
    (br (roomOk (0 + (a0.length)) 8)
    (K (([] : List Int) ++ a0))
    False) := by kernel_rfl
theorem f14_t (a0 : List Int) (hpre : f14_pre a0) (K : (List Int) → Prop) (hK : ∀ y : List Int, y = f14 a0 → K y) : RunU Try.prog f14_E f14_A 6 Try.f14 f14_e.doms f14_e.cods a0 K := by
  refine ⟨?_⟩
  rw [f14_run a0 K]
  simp only [br_false_, roomOk_iff]
  have : a0.length ≤ 1048576 := hpre
  exact ⟨by omega, hK _ (by simp [f14])⟩
theorem f14_fn : f14_e.fn = f14 := rfl
theorem f14_ok : EntryOK Try.prog 14 f14_e := by
  refine entryFU progOK (EnvOK.nil) (A := f14_A) (d := 6) Try.func14 rfl rfl rfl (fun h => by cases h) fun x hpre => ?_
  exact f14_t x hpre _ fun _ h => h.trans (congrFun f14_fn.symm _)
end Go.Proofs.Ytglijnhkdnhofaa
end

section
namespace Go.Proofs.Ytglijnhkdnhofaa
open Go Go.Pi Go.RowKit
set_option maxRecDepth 100000
set_option linter.unusedVariables false
set_option linter.unusedSimpArgs false

def f35 (x : Int × Int × Int) : Bool := decide (x.2.1 ≤ x.1) && decide (x.1 ≤ x.2.2)
def f35_e : Entry := { doms := [(false, (.int .i64)), (false, (.int .i64)), (false, (.int .i64))], cods := [(false, .bool)], pre := fun _ => True, fn := f35, uq := false, total := true }
def f35_E : Env := []
def f35_A : Anns := { loops := [], own := [] }
theorem f35_run (a0 : Int) (a1 : Int) (a2 : Int) (K : Bool → Prop) : runF Try.prog f35_E f35_A 6 Try.f35 f35_e.doms f35_e.cods (a0, a1, a2) K =
    (br (decide (a1 ≤ a0))
    (K (decide (a0 ≤ a2)))
    (K false)) := by kernel_rfl
theorem f35_t (a0 : Int) (a1 : Int) (a2 : Int) (K : Bool → Prop) (hK : ∀ y : Bool, y = f35 (a0, a1, a2) → K y) : RunF Try.prog f35_E f35_A 6 Try.f35 f35_e.doms f35_e.cods (a0, a1, a2) K := by
  refine ⟨?_⟩
  rw [f35_run a0 a1 a2 K]
  rw [br_dec]
  exact ⟨fun h => hK _ (by simp [f35, h]), fun h => hK _ (by simp [f35, h])⟩
theorem f35_fn : f35_e.fn = f35 := rfl
theorem f35_ok : EntryOK Try.prog 35 f35_e := by
  refine entryF progOK (EnvOK.nil) (A := f35_A) (d := 6) Try.func35 rfl rfl rfl rfl (fun _ _ => trivial) fun x hpre => ?_
  obtain ⟨a0, a1, a2⟩ := x
  exact f35_t a0 a1 a2 _ fun _ h => h.trans (congrFun f35_fn.symm _)
theorem f35_t1 {a b c : Int} : f35 (a, b, c) = true ↔ b ≤ a ∧ a ≤ c := by simp [f35]
theorem f35_f1 {a b c : Int} : f35 (a, b, c) = false ↔ ¬ (b ≤ a ∧ a ≤ c) := by rw [← Bool.not_eq_true, f35_t1]
end Go.Proofs.Ytglijnhkdnhofaa
end

section
namespace Go.Proofs.Ytglijnhkdnhofaa
open Go Go.Pi Go.RowKit
set_option maxRecDepth 100000
set_option linter.unusedVariables false
set_option linter.unusedSimpArgs false

def f64 (x : Int × Int) : Int := if 1 ≤ x.2 ∧ x.2 ≤ w64 (x.1 - 1) then 0 else 2
def f64_e : Entry := { doms := [(false, (.int .i64)), (false, (.int .i64))], cods := [(false, (.int .i64))], pre := fun _ => True, fn := f64, uq := false, total := true }
def f64_E : Env := [(35, f35_e)]
def f64_A : Anns := { loops := [], own := [] }
theorem f64_run (a0 : Int) (a1 : Int) (K : Int → Prop) : runF Try.prog f64_E f64_A 6 Try.f64 f64_e.doms f64_e.cods (a0, a1) K =
    (br (!(f35 (a1, (1, (IntKind.i64.wrap (a0 - 1))))))
    (K 2)
    (K 0)) := by kernel_rfl
theorem f64_t (a0 : Int) (a1 : Int) (K : Int → Prop) (hK : ∀ y : Int, y = f64 (a0, a1) → K y) : RunF Try.prog f64_E f64_A 6 Try.f64 f64_e.doms f64_e.cods (a0, a1) K := by
  refine ⟨?_⟩
  rw [f64_run a0 a1 K]
  have e : f35 (a1, 1, w64 (a0 - 1)) = decide (1 ≤ a1 ∧ a1 ≤ w64 (a0 - 1)) := by simp [f35]
  show br (!(f35 (a1, 1, w64 (a0 - 1)))) _ _
  rw [e]
  refine br_two (fun h => hK _ ?_) fun h => hK _ ?_
  · rw [f64, if_neg (nd_t.1 h)]
  · rw [f64, if_pos (nd_f.1 h)]
theorem f64_fn : f64_e.fn = f64 := rfl
theorem f64_ok : EntryOK Try.prog 64 f64_e := by
  refine entryF progOK (EnvOK.cons f35_ok (EnvOK.nil)) (A := f64_A) (d := 6) Try.func64 rfl rfl rfl rfl (fun _ _ => trivial) fun x hpre => ?_
  obtain ⟨a0, a1⟩ := x
  exact f64_t a0 a1 _ fun _ h => h.trans (congrFun f64_fn.symm _)
end Go.Proofs.Ytglijnhkdnhofaa
end

section
namespace Go.Proofs.Ytglijnhkdnhofaa
open Go Go.Pi Go.RowKit
set_option maxRecDepth 100000
set_option linter.unusedVariables false
set_option linter.unusedSimpArgs false

def f15 (x : List Int × Int) : Int := strE (x.1.map fun n => (n, n)) x.2
def f15_e : Entry := { doms := [(false, (.sl (.int .i64))), (false, (.int .i64))], cods := [(false, (.int .i64))], pre := fun _ => True, fn := f15, uq := false, total := true }
def f15_E : Env := [(35, f35_e), (64, f64_e)]
def f15_A : Anns := { loops := [(1048576, { tms := [(0, .keep), (1, .keep), (5, .data false (.int .i64))], obs := [], fz := [] })], own := [] }
theorem f15_run (a0 : List Int) (a1 : Int) (K : Int → Prop) : runF Try.prog f15_E f15_A 6 Try.f15 f15_e.doms f15_e.cods (a0, a1) K =
    (br (lenOk (a0.length))
    (br (((a0.length) : Int) == 0)
    (K 10)
    (br (lenOk (a0.length))
    (br (decide (((a0.length) : Int) > 30))
    (K 8)
    (LoopP (V := Int × Unit) (fun again v => (fun (again1 : Int → Prop) (v1_0 : Int) =>
    br (lenOk (a0.length))
    (br (decide (v1_0 < ((a0.length) : Int)))
    (br (decide (0 ≤ v1_0) && decide (v1_0 < ((a0.length) : Int)))
    (br (!(f35 ((a0.getD v1_0.toNat 0), ((-10000), 10000))))
    (K 2)
    (again1 (IntKind.i64.wrap (v1_0 + 1))))
    False)
    (br (lenOk (a0.length))
    (K (f64 (((a0.length) : Int), a1)))
    True))
    True)
    (fun v1_0 => again (v1_0, ())) v.1) (0, ())))
    True))
    True) := by kernel_rfl
theorem f15_t (a0 : List Int) (a1 : Int) (K : Int → Prop) (hK : ∀ y : Int, y = f15 (a0, a1) → K y) : RunF Try.prog f15_E f15_A 6 Try.f15 f15_e.doms f15_e.cods (a0, a1) K := by
  refine ⟨?_⟩
  rw [f15_run a0 a1 K]
  have e0 : f15 (a0, a1) = strE (a0.map fun n => (n, n)) a1 := rfl
  have e35 : ∀ n : Int, f35 (n, -10000, 10000) = decide (-10000 ≤ n ∧ n ≤ 10000) := fun n => by simp [f35]
  have el : (a0.map fun n => (n, n)).length = a0.length := by simp
  rw [br_true_, lenOk_iff]
  intro hl
  refine br_two (fun h => hK _ ?_) fun h => br_weak (br_if (fun h2 => hK _ ?_) fun h2 => ?_)
  · have h : a0.length = 0 := by have := beq_iff_eq.1 h; omega
    rw [e0, strE, rgsE, el, if_pos h, if_pos (by decide)]
  · have h : ¬ a0.length = 0 := by have := beq_eq_false_iff_ne.1 h; omega
    rw [e0, strE, rgsE, el, if_neg h, if_pos (show a0.length > 30 by omega), if_pos (show (8 : Int) ≠ 0 by decide)]
  · have h0 : ¬ a0.length = 0 := by have := beq_eq_false_iff_ne.1 h; omega
    have h1 : ¬ a0.length > 30 := by omega
    have er : rgsE (a0.map fun n => (n, n)) = (eachE a0.length fun i => rngE ((a0.map fun n => (n, n)).getD i (0, 0)) 10000).2 := by rw [rgsE, el, if_neg h0, if_neg h1]
    have e64 : f64 ((a0.length : Int), a1) = lagE a0.length a1 := by
      show (if 1 ≤ a1 ∧ a1 ≤ w64 ((a0.length : Int) - 1) then (0 : Int) else 2) = _
      rw [w64_in (by omega) (by omega)]; rfl
    have hK1 : rgsE (a0.map fun n => (n, n)) ≠ 0 → K (rgsE (a0.map fun n => (n, n))) := fun h => hK _ (by rw [e0, strE, if_pos h])
    have hK0 : rgsE (a0.map fun n => (n, n)) = 0 → K (lagE a0.length a1) := fun h => hK _ (by rw [e0, strE, if_neg (fun hh => hh h), el])
    refine each_loop (K := fun q => (q.2 ≠ 0 → K q.2) ∧ (q.2 = 0 → K (lagE a0.length a1))) (n := a0.length) (e := fun i => rngE ((a0.map fun n => (n, n)).getD i (0, 0)) 10000) ⟨fun h => by rw [← er] at h ⊢; exact hK1 h, fun h => hK0 (er.trans h)⟩ (fun again i hi hI good bad fin => ?_)
    dsimp only
    refine br_weak (br_if (fun hlt => ?_) fun hlt => br_weak (by rw [e64]; exact (fin (by omega)).2 rfl))
    have hlt : i < a0.length := by omega
    have eg : (a0.map fun n => (n, n)).getD i (0, 0) = (a0.getD i 0, a0.getD i 0) := by rw [getD_lt (by simpa using hlt), getD_lt hlt, List.getElem_map]
    rw [eg] at good bad
    rw [wr (n := (i : Int) + 1) (by omega) (by omega), Int.toNat_natCast]
    generalize a0.getD i 0 = x at *
    rw [e35]
    refine br_must (inb (by omega) (by omega)) (br_two (fun h3 => ?_) fun h3 => ?_)
    · have e : rngE (x, x) 10000 = 2 := by rw [rngE, if_pos (fun h => nd_t.1 h3 h.1)]
      have := bad hlt (by rw [e]; decide)
      rw [e] at this
      exact this.1 (fun hh => by cases hh)
    · exact good hlt (by rw [rngE, if_neg (fun h => h ⟨nd_f.1 h3, nd_f.1 h3⟩), if_pos (by simp)])
theorem f15_fn : f15_e.fn = f15 := rfl
theorem f15_ok : EntryOK Try.prog 15 f15_e := by
  refine entryF progOK (EnvOK.cons f35_ok (EnvOK.cons f64_ok (EnvOK.nil))) (A := f15_A) (d := 6) Try.func15 rfl rfl rfl rfl (fun _ _ => trivial) fun x hpre => ?_
  obtain ⟨a0, a1⟩ := x
  exact f15_t a0 a1 _ fun _ h => h.trans (congrFun f15_fn.symm _)
end Go.Proofs.Ytglijnhkdnhofaa
end

section
namespace Go.Proofs.Ytglijnhkdnhofaa
open Go Go.Pi Go.RowKit
set_option maxRecDepth 100000
set_option linter.unusedVariables false
set_option linter.unusedSimpArgs false

def f113 (n : Int) : Int := minmax true n (IntKind.i64.wrap (0 - n))
def f113_e : Entry := { doms := [(false, (.int .i64))], cods := [(false, (.int .i64))], pre := fun _ => True, fn := f113, uq := false, total := true }
def f113_E : Env := []
def f113_A : Anns := { loops := [], own := [] }
theorem f113_run (a0 : Int) (K : Int → Prop) : runF Try.prog f113_E f113_A 6 Try.f113 f113_e.doms f113_e.cods a0 K =
    (K (minmax true a0 (IntKind.i64.wrap (0 - a0)))) := by kernel_rfl
theorem f113_t (a0 : Int) (K : Int → Prop) (hK : ∀ y : Int, y = f113 a0 → K y) : RunF Try.prog f113_E f113_A 6 Try.f113 f113_e.doms f113_e.cods a0 K := by
  refine ⟨?_⟩
  rw [f113_run a0 K]
  exact hK _ rfl
theorem f113_fn : f113_e.fn = f113 := rfl
theorem f113_ok : EntryOK Try.prog 113 f113_e := by
  refine entryF progOK (EnvOK.nil) (A := f113_A) (d := 6) Try.func113 rfl rfl rfl rfl (fun _ _ => trivial) fun x hpre => ?_
  exact f113_t x _ fun _ h => h.trans (congrFun f113_fn.symm _)
end Go.Proofs.Ytglijnhkdnhofaa
end

section
namespace Go.Proofs.Ytglijnhkdnhofaa
open Go Go.Pi Go.RowKit
set_option maxRecDepth 100000
set_option linter.unusedVariables false
set_option linter.unusedSimpArgs false

def f84 (x : Int × Int) : Int := (Nat.gcd x.1.natAbs x.2.natAbs : Int)
def f84_pre (x : Int × Int) : Prop := Fit x.1 ∧ Fit x.2
def f84_e : Entry := { doms := [(false, (.int .i64)), (false, (.int .i64))], cods := [(false, (.int .i64))], pre := f84_pre, fn := f84, uq := false, total := false }
def f84_E : Env := [(113, f113_e)]
def f84_A : Anns := { loops := [(1048576, { tms := [(0, .data false (.int .i64)), (1, .data false (.int .i64))], obs := [], fz := [] })], own := [] }
theorem f84_run (a0 : Int) (a1 : Int) (K : Int → Prop) : runF Try.prog f84_E f84_A 6 Try.f84 f84_e.doms f84_e.cods (a0, a1) K =
    (LoopP (V := Int × Int × Unit) (fun again v => (fun (again1 : Int → Int → Prop) (v1_0 : Int) (v1_1 : Int) =>
    br (v1_1 != 0)
    (br (!(decide (v1_1 = 0)))
    (again1 v1_1 (v1_0.tmod v1_1))
    False)
    (K (f113 v1_0)))
    (fun v1_0 v1_1 => again (v1_0, v1_1, ())) v.1 v.2.1) (a0, a1, ())) := by kernel_rfl
theorem f84_t (a0 : Int) (a1 : Int) (hpre : f84_pre (a0, a1)) (K : Int → Prop) (hK : ∀ y : Int, y = f84 (a0, a1) → K y) : RunF Try.prog f84_E f84_A 6 Try.f84 f84_e.doms f84_e.cods (a0, a1) K := by
  refine ⟨?_⟩
  rw [f84_run a0 a1 K]
  obtain ⟨h1, h2⟩ := hpre
  refine LoopP.of (fun q : Int × Int × Unit => Fit q.1 ∧ Fit q.2.1 ∧ Nat.gcd q.1.natAbs q.2.1.natAbs = Nat.gcd a0.natAbs a1.natAbs) (fun q => q.2.1.natAbs) (fun again q hq hag => ?_) ⟨h1, h2, rfl⟩
  obtain ⟨a, b, u⟩ := q
  obtain ⟨f1, f2, hg⟩ := hq
  dsimp only at f1 f2 hg ⊢
  refine br_two (fun hb => ?_) fun hb => ?_
  · have hb := bne_t.1 hb
    exact br_must (ne_zero_b hb) (hag (b, a.tmod b, ()) ⟨f2, tmod_fit f1 hb, (gcd_step a b hb).trans hg⟩ (tmod_lt hb))
  · have hb := bne_f.1 hb
    subst hb
    refine hK _ ?_
    simp only [f113, f84, minmax_abs f1, ← hg]
    simp
theorem f84_fn : f84_e.fn = f84 := rfl
theorem f84_ok : EntryOK Try.prog 84 f84_e := by
  refine entryF progOK (EnvOK.cons f113_ok (EnvOK.nil)) (A := f84_A) (d := 6) Try.func84 rfl rfl rfl rfl (fun h => by cases h) fun x hpre => ?_
  obtain ⟨a0, a1⟩ := x
  exact f84_t a0 a1 hpre _ fun _ h => h.trans (congrFun f84_fn.symm _)
end Go.Proofs.Ytglijnhkdnhofaa
end

section
namespace Go.Proofs.Ytglijnhkdnhofaa
open Go Go.Pi Go.RowKit
set_option maxRecDepth 100000
set_option linter.unusedVariables false
set_option linter.unusedSimpArgs false

def f65 (x : Int × Int) : Int × Int := low x.1 x.2
def f65_pre (x : Int × Int) : Prop := Fit x.1 ∧ Fit x.2 ∧ x.2 ≠ 0
def f65_e : Entry := { doms := [(false, (.int .i64)), (false, (.int .i64))], cods := [(true, (.pair (.int .i64) (.int .i64)))], pre := f65_pre, fn := f65, uq := false, total := false }
def f65_E : Env := [(84, f84_e)]
def f65_A : Anns := { loops := [], own := [] }
theorem f65_run (a0 : Int) (a1 : Int) (K : (Int × Int) → Prop) : runF Try.prog f65_E f65_A 6 Try.f65 f65_e.doms f65_e.cods (a0, a1) K =
    (f84_pre (a0, a1) ∧
    br (decide (a1 < 0))
    (br (!(decide ((IntKind.i64.wrap (0 - (f84 (a0, a1)))) = 0)))
    (br (!(decide ((IntKind.i64.wrap (0 - (f84 (a0, a1)))) = 0)))
    (K ((IntKind.i64.wrap (a0.tdiv (IntKind.i64.wrap (0 - (f84 (a0, a1)))))), (IntKind.i64.wrap (a1.tdiv (IntKind.i64.wrap (0 - (f84 (a0, a1))))))))
    False)
    False)
    (br (!(decide ((f84 (a0, a1)) = 0)))
    (br (!(decide ((f84 (a0, a1)) = 0)))
    (K ((IntKind.i64.wrap (a0.tdiv (f84 (a0, a1)))), (IntKind.i64.wrap (a1.tdiv (f84 (a0, a1))))))
    False)
    False)) := by kernel_rfl
theorem f65_t (a0 : Int) (a1 : Int) (hpre : f65_pre (a0, a1)) (K : (Int × Int) → Prop) (hK : ∀ y : Int × Int, y = f65 (a0, a1) → K y) : RunF Try.prog f65_E f65_A 6 Try.f65 f65_e.doms f65_e.cods (a0, a1) K := by
  refine ⟨?_⟩
  rw [f65_run a0 a1 K]
  obtain ⟨h1, h2, h3⟩ := hpre
  dsimp only at h1 h2 h3
  have hg : f84 (a0, a1) = (Nat.gcd a0.natAbs a1.natAbs : Int) := rfl
  have hpos : 0 < Nat.gcd a0.natAbs a1.natAbs := Nat.gcd_pos_of_pos_right _ (by omega)
  have hle2 : Nat.gcd a0.natAbs a1.natAbs ≤ 9223372036854775807 := Nat.le_trans (Nat.gcd_le_right _ (by omega)) (by have := h2.1; have := h2.2; omega)
  have hng : IntKind.i64.wrap (0 - (Nat.gcd a0.natAbs a1.natAbs : Int)) = -(Nat.gcd a0.natAbs a1.natAbs : Int) := by rw [wr (by omega) (by omega)]; omega
  have hw : ∀ n : Int, Fit n → IntKind.i64.wrap n = n := fun n h => w64_fit h
  rw [hg, hng]
  refine ⟨⟨h1, h2⟩, br_if (fun hd => br_must (ne_zero_b (by omega)) (br_must (ne_zero_b (by omega)) (hK _ ?_))) fun hd => br_must (ne_zero_b (by omega)) (br_must (ne_zero_b (by omega)) (hK _ ?_))⟩
  · rw [hw _ (tdiv_fit h1), hw _ (tdiv_fit h2), f65, low, if_pos hd]
  · rw [hw _ (tdiv_fit h1), hw _ (tdiv_fit h2), f65, low, if_neg hd]
theorem f65_fn : f65_e.fn = f65 := rfl
theorem f65_ok : EntryOK Try.prog 65 f65_e := by
  refine entryF progOK (EnvOK.cons f84_ok (EnvOK.nil)) (A := f65_A) (d := 6) Try.func65 rfl rfl rfl rfl (fun h => by cases h) fun x hpre => ?_
  obtain ⟨a0, a1⟩ := x
  exact f65_t a0 a1 hpre _ fun _ h => h.trans (congrFun f65_fn.symm _)
end Go.Proofs.Ytglijnhkdnhofaa
end
