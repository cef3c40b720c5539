/- What functions of the program compute, each proved once, part 3. -/
import Derived.Test.YtdhekhichomoiaaPiC
import Derived.Test.YtdhekhichomoiaaFnA
import Derived.Test.YtdhekhichomoiaaFnB

section
namespace Go.Proofs.Ytdhekhichomoiaa
open Go Go.Pi Go.RowKit
set_option maxRecDepth 100000
set_option linter.unusedVariables false
set_option linter.unusedSimpArgs false

def rot1 (z : Int × Int) : Int × Int := (z.2, IntKind.i64.wrap (0 - z.1))
def rotN : Nat → (Int × Int) → Int × Int
  | 0, z => z
  | k + 1, z => rot1 (rotN k z)
def f52 (x : (Int × Int) × Int) : Int × Int := rotN (f78 (x.2, 4)).toNat x.1
def f52_e : Entry := { doms := [(true, (.pair (.int .i64) (.int .i64))), (false, (.int .i64))], cods := [(true, (.pair (.int .i64) (.int .i64)))], pre := fun _ => True, fn := f52, uq := false, total := true }
def f52_E : Env := [(78, f78_e), (98, f98_e)]
def f52_A : Anns := { loops := [(1048576, { tms := [(1, .keep), (2, .keep), (4, .keep), (5, .data false (.int .i64))], obs := [(1048576, .cells [.data (.int .i64), .data (.int .i64)]), (1048577, .keep)], fz := [] })], own := [] }
theorem f52_run (a0 : Int × Int) (a1 : Int) (K : (Int × Int) → Prop) : runF Try.prog f52_E f52_A 6 Try.f52 f52_e.doms f52_e.cods (a0, a1) K =
    (LoopP (V := Int × Int × Int × Unit) (fun again v => (fun (again1 : Int → Int → Int → Prop) (v1_0 : Int) (v1_1 : Int) (v1_2 : Int) =>
    f78_pre (a1, 4) ∧
    br (decide (v1_0 < (f78 (a1, 4))))
    (again1 (IntKind.i64.wrap (v1_0 + 1)) v1_2 (IntKind.i64.wrap (0 - v1_1)))
    (K (v1_1, v1_2)))
    (fun v1_0 v1_1 v1_2 => again (v1_0, v1_1, v1_2, ())) v.1 v.2.1 v.2.2.1) (0, a0.1, a0.2, ())) := by kernel_rfl
theorem f52_t (a0 : Int × Int) (a1 : Int) (K : (Int × Int) → Prop) (hK : ∀ y : Int × Int, y = f52 (a0, a1) → K y) : RunF Try.prog f52_E f52_A 6 Try.f52 f52_e.doms f52_e.cods (a0, a1) K := by
  refine ⟨?_⟩
  rw [f52_run a0 a1 K]
  have h4 := f78_four a1
  refine LoopP.up (f78 (a1, 4)) (fun i v => (v.1, v.2.1) = rotN i.toNat a0) (fun again i v hi0 hn hI hag => ?_) h4.1 rfl
  obtain ⟨v1, v2, u⟩ := v
  simp only at hI hag ⊢
  refine ⟨by simp [f78_pre], ?_⟩
  rw [br_dec]
  refine ⟨fun hi => ?_, fun hi => hK _ ?_⟩
  · rw [wr (by omega) (by omega)]
    refine hag _ hi ?_
    show (_, _) = _
    rw [show (i + 1).toNat = i.toNat + 1 by omega]
    show _ = rot1 (rotN i.toNat a0)
    rw [← hI]
    rfl
  · rw [hI]
    unfold f52
    simp only
    rw [show i = f78 (a1, 4) by omega]
theorem f52_fn : f52_e.fn = f52 := rfl
theorem f52_ok : EntryOK Try.prog 52 f52_e := by
  refine entryF progOK (EnvOK.cons f78_ok (EnvOK.cons f98_ok (EnvOK.nil))) (A := f52_A) (d := 6) Try.func52 rfl rfl (fun _ _ => trivial) fun x hpre => ?_
  obtain ⟨a0, a1⟩ := x
  exact f52_t a0 a1 _ fun _ h => h.trans (congrFun f52_fn.symm _)
/-- Turned by a table, or step by step. -/
theorem turn_eq {z : Int × Int} {p : Int} (hp : 0 ≤ p) (h1 : -9223372036854775808 ≤ z.1) (h2 : z.1 ≤ 9223372036854775807) : f98 (z, p) = f52 (z, p) := by
  obtain ⟨a, b⟩ := z
  simp only at h1 h2
  unfold f98 f52
  simp only
  rw [f78_nonneg hp]
  have h0 : 0 ≤ p.tmod 4 := Int.tmod_nonneg 4 hp
  have h3 : p.tmod 4 < 4 := Int.tmod_lt_of_pos p (by omega)
  generalize hk : (p.tmod 4).toNat = k
  have hk4 : k < 4 := by omega
  match k, hk4 with
  | 0, _ => rfl
  | 1, _ => rfl
  | 2, _ => rfl
  | 3, _ =>
    show _ = rot1 (rot1 (rot1 (a, b)))
    simp only [rot1, wrap_sub_r]
    rw [show (0 : Int) - (0 - a) = a by omega, wr h1 h2]
end Go.Proofs.Ytdhekhichomoiaa
end

section
namespace Go.Proofs.Ytdhekhichomoiaa
open Go Go.Pi Go.RowKit
set_option maxRecDepth 100000
set_option linter.unusedVariables false
set_option linter.unusedSimpArgs false

def f30 (x : List (Int × Int) × Int) : List (Int × Int) := (List.range x.1.length).map fun j : Nat => f52 (x.1.getD j (0, 0), j * x.2)
def f30_pre (x : List (Int × Int) × Int) : Prop := x.1.length ≤ 1048576 ∧ 0 ≤ x.2 ∧ x.2 ≤ 3
def f30_e : Entry := { doms := [(false, (.sl (.pair (.int .i64) (.int .i64)))), (false, (.int .i64))], cods := [(false, (.sl (.pair (.int .i64) (.int .i64))))], pre := f30_pre, fn := f30, uq := false, total := false }
def f30_E : Env := [(52, f52_e)]
def f30_A : Anns := { loops := [(1048576, { tms := [(0, .keep), (1, .keep), (5, .ref 1053706), (6, .data false (.int .i64))], obs := [(1053706, .arr (.uniq) (.pair (.int .i64) (.int .i64)))], fz := [] })], own := [] }
theorem f30_run (a0 : List (Int × Int)) (a1 : Int) (K : (List (Int × Int)) → Prop) : runF Try.prog f30_E f30_A 6 Try.f30 f30_e.doms f30_e.cods (a0, a1) K =
    (LoopP (V := Int × List (Int × Int) × Unit) (fun again v => (fun (again1 : Int → List (Int × Int) → Prop) (v1_0 : Int) (v1_1 : List (Int × Int)) =>
    br (lenOk (a0.length))
    (br (decide (v1_0 < ((a0.length) : Int)))
    (br (decide (0 ≤ v1_0) && decide (v1_0 < ((a0.length) : Int)))
    (br (roomOk ((v1_1.length) + 1) 16)
    (again1 (IntKind.i64.wrap (v1_0 + 1)) (v1_1 ++ ([(f52 ((a0.getD v1_0.toNat (0, 0)), (IntKind.i64.wrap (v1_0 * a1))))] : List (Int × Int))))
    False)
    False)
    (K v1_1))
    True)
    (fun v1_0 v1_1 => again (v1_0, v1_1, ())) v.1 v.2.1) (0, ([] : List (Int × Int)), ())) := by kernel_rfl
theorem f30_t (a0 : List (Int × Int)) (a1 : Int) (hpre : f30_pre (a0, a1)) (K : (List (Int × Int)) → Prop) (hK : ∀ y : List (Int × Int), y = f30 (a0, a1) → K y) : RunF Try.prog f30_E f30_A 6 Try.f30 f30_e.doms f30_e.cods (a0, a1) K := by
  refine ⟨?_⟩
  rw [f30_run a0 a1 K]
  obtain ⟨hl, hq0, hq3⟩ := hpre
  simp only at hl hq0 hq3
  refine LoopP.up a0.length (fun i v => v.1 = (List.range i.toNat).map fun j : Nat => f52 (a0.getD j (0, 0), j * a1)) (fun again i v hi0 hn hI hag => ?_) (by omega) rfl
  obtain ⟨v, u⟩ := v
  simp only at hI hag ⊢
  subst hI
  rw [br_true_]
  intro _
  rw [br_both]
  refine ⟨fun hi => ?_, fun hi => hK _ ?_⟩
  · simp only [decide_eq_true_eq] at hi
    have hm : 0 ≤ i * a1 := Int.mul_nonneg hi0 hq0
    have hm2 : i * a1 ≤ 1048576 * 3 := Int.mul_le_mul (by omega) hq3 hq0 (by omega)
    rw [wr (n := i * a1) (by omega) (by omega), wr (n := i + 1) (by omega) (by omega)]
    simp only [br_false_, Bool.and_eq_true, decide_eq_true_eq]
    refine ⟨⟨hi0, hi⟩, by rw [roomOk_iff]; simp; omega, hag _ hi ?_⟩
    show _ = (List.range (i + 1).toNat).map fun j : Nat => f52 (a0.getD j (0, 0), j * a1)
    rw [← app_step hi0]
    congr 2
    rw [Int.toNat_of_nonneg hi0]
  · simp only [decide_eq_false_iff_not] at hi
    rw [f30, show i.toNat = a0.length by omega]
theorem f30_fn : f30_e.fn = f30 := rfl
theorem f30_ok : EntryOK Try.prog 30 f30_e := by
  refine entryF progOK (EnvOK.cons f52_ok (EnvOK.nil)) (A := f30_A) (d := 6) Try.func30 rfl rfl (fun h => by cases h) fun x hpre => ?_
  obtain ⟨a0, a1⟩ := x
  exact f30_t a0 a1 hpre _ fun _ h => h.trans (congrFun f30_fn.symm _)
end Go.Proofs.Ytdhekhichomoiaa
end

section
namespace Go.Proofs.Ytdhekhichomoiaa
open Go Go.Pi Go.RowKit
set_option maxRecDepth 100000
set_option linter.unusedVariables false
set_option linter.unusedSimpArgs false

def f80 (x : (Int × Int) × (Int × Int)) : Int × Int := f126 x
def f80_e : Entry := { doms := [(true, (.pair (.int .i64) (.int .i64))), (true, (.pair (.int .i64) (.int .i64)))], cods := [(true, (.pair (.int .i64) (.int .i64)))], pre := fun _ => True, fn := f80, uq := false, total := true }
def f80_E : Env := [(126, f126_e)]
def f80_A : Anns := { loops := [], own := [] }
theorem f80_run (a0 : Int × Int) (a1 : Int × Int) (K : (Int × Int) → Prop) : runF Try.prog f80_E f80_A 6 Try.f80 f80_e.doms f80_e.cods (a0, a1) K =
    (K ((IntKind.i64.wrap (a0.1 + a1.1)), (IntKind.i64.wrap (a0.2 + a1.2)))) := by kernel_rfl
theorem f80_t (a0 : Int × Int) (a1 : Int × Int) (K : (Int × Int) → Prop) (hK : ∀ y : Int × Int, y = f80 (a0, a1) → K y) : RunF Try.prog f80_E f80_A 6 Try.f80 f80_e.doms f80_e.cods (a0, a1) K := by
  refine ⟨?_⟩
  rw [f80_run a0 a1 K]
  exact hK _ (by simp only [f80, f126])
theorem f80_fn : f80_e.fn = f80 := rfl
theorem f80_ok : EntryOK Try.prog 80 f80_e := by
  refine entryF progOK (EnvOK.cons f126_ok (EnvOK.nil)) (A := f80_A) (d := 6) Try.func80 rfl rfl (fun _ _ => trivial) fun x hpre => ?_
  obtain ⟨a0, a1⟩ := x
  exact f80_t a0 a1 _ fun _ h => h.trans (congrFun f80_fn.symm _)
end Go.Proofs.Ytdhekhichomoiaa
end

section
namespace Go.Proofs.Ytdhekhichomoiaa
open Go Go.Pi Go.RowKit
set_option maxRecDepth 100000
set_option linter.unusedVariables false
set_option linter.unusedSimpArgs false

def f100 (x : (Int × Int) × (Int × Int)) : Int × Int := (IntKind.i64.wrap (IntKind.i64.wrap (x.1.1 * x.2.1) - IntKind.i64.wrap (x.1.2 * x.2.2)), IntKind.i64.wrap (IntKind.i64.wrap (x.1.1 * x.2.2) + IntKind.i64.wrap (x.1.2 * x.2.1)))
def f100_e : Entry := { doms := [(true, (.pair (.int .i64) (.int .i64))), (true, (.pair (.int .i64) (.int .i64)))], cods := [(true, (.pair (.int .i64) (.int .i64)))], pre := fun _ => True, fn := f100, uq := false, total := true }
def f100_E : Env := []
def f100_A : Anns := { loops := [], own := [] }
theorem f100_run (a0 : Int × Int) (a1 : Int × Int) (K : (Int × Int) → Prop) : runF Try.prog f100_E f100_A 6 Try.f100 f100_e.doms f100_e.cods (a0, a1) K =
    (K ((IntKind.i64.wrap ((IntKind.i64.wrap (a0.1 * a1.1)) - (IntKind.i64.wrap (a0.2 * a1.2)))), (IntKind.i64.wrap ((IntKind.i64.wrap (a0.1 * a1.2)) + (IntKind.i64.wrap (a0.2 * a1.1)))))) := by kernel_rfl
theorem f100_t (a0 : Int × Int) (a1 : Int × Int) (K : (Int × Int) → Prop) (hK : ∀ y : Int × Int, y = f100 (a0, a1) → K y) : RunF Try.prog f100_E f100_A 6 Try.f100 f100_e.doms f100_e.cods (a0, a1) K := by
  refine ⟨?_⟩
  rw [f100_run a0 a1 K]
  exact hK _ (by simp only [f100])
theorem f100_fn : f100_e.fn = f100 := rfl
theorem f100_ok : EntryOK Try.prog 100 f100_e := by
  refine entryF progOK (EnvOK.nil) (A := f100_A) (d := 6) Try.func100 rfl rfl (fun _ _ => trivial) fun x hpre => ?_
  obtain ⟨a0, a1⟩ := x
  exact f100_t a0 a1 _ fun _ h => h.trans (congrFun f100_fn.symm _)
end Go.Proofs.Ytdhekhichomoiaa
end

section
namespace Go.Proofs.Ytdhekhichomoiaa
open Go Go.Pi Go.RowKit
set_option maxRecDepth 100000
set_option linter.unusedVariables false
set_option linter.unusedSimpArgs false

def f101 (x : Int × Int) : Int × Int := (x.1, IntKind.i64.wrap (0 - x.2))
def f101_e : Entry := { doms := [(true, (.pair (.int .i64) (.int .i64)))], cods := [(true, (.pair (.int .i64) (.int .i64)))], pre := fun _ => True, fn := f101, uq := false, total := true }
def f101_E : Env := [(100, f100_e), (127, f127_e)]
def f101_A : Anns := { loops := [], own := [] }
theorem f101_run (a0 : Int × Int) (K : (Int × Int) → Prop) : runF Try.prog f101_E f101_A 6 Try.f101 f101_e.doms f101_e.cods a0 K =
    (K (a0.1, (IntKind.i64.wrap (0 - a0.2)))) := by kernel_rfl
theorem f101_t (a0 : Int × Int) (K : (Int × Int) → Prop) (hK : ∀ y : Int × Int, y = f101 a0 → K y) : RunF Try.prog f101_E f101_A 6 Try.f101 f101_e.doms f101_e.cods a0 K := by
  refine ⟨?_⟩
  rw [f101_run a0 K]
  exact hK _ (by simp only [f101])
theorem f101_fn : f101_e.fn = f101 := rfl
theorem f101_ok : EntryOK Try.prog 101 f101_e := by
  refine entryF progOK (EnvOK.cons f100_ok (EnvOK.cons f127_ok (EnvOK.nil))) (A := f101_A) (d := 6) Try.func101 rfl rfl (fun _ _ => trivial) fun x hpre => ?_
  exact f101_t x _ fun _ h => h.trans (congrFun f101_fn.symm _)
theorem mul_conj (a b : Int × Int) : f100 (f101 a, b) = f127 (a, b) := by
  simp only [f100, f101, f127, wrap_sub_l, wrap_sub_r, wrap_mul_l, wrap_mul_r, wrap_add_l, wrap_add_r]
  congr 2 <;> grind
end Go.Proofs.Ytdhekhichomoiaa
end

section
namespace Go.Proofs.Ytdhekhichomoiaa
open Go Go.Pi Go.RowKit
set_option maxRecDepth 100000
set_option linter.unusedVariables false
set_option linter.unusedSimpArgs false

def f31 (x : List (Int × Int) × Int) : Int × Int := f99 x
def f31_pre (x : List (Int × Int) × Int) : Prop := 0 ≤ x.2 ∧ x.2 ≤ 1048576 ∧ x.1.length ≤ 1048576
def f31_e : Entry := { doms := [(false, (.sl (.pair (.int .i64) (.int .i64)))), (false, (.int .i64))], cods := [(true, (.pair (.int .i64) (.int .i64)))], pre := f31_pre, fn := f31, uq := false, total := false }
def f31_E : Env := [(80, f80_e), (100, f100_e), (101, f101_e), (99, f99_e)]
def f31_A : Anns := { loops := [(1048576, { tms := [(0, .keep), (1, .keep), (4, .keep), (5, .keep), (6, .data false (.int .i64))], obs := [(1048576, .keep), (1049601, .cells [.data (.int .i64), .data (.int .i64)])], fz := [] })], own := [] }
theorem f31_run (a0 : List (Int × Int)) (a1 : Int) (K : (Int × Int) → Prop) : runF Try.prog f31_E f31_A 6 Try.f31 f31_e.doms f31_e.cods (a0, a1) K =
    (LoopP (V := Int × Int × Int × Unit) (fun again v => (fun (again1 : Int → Int → Int → Prop) (v1_0 : Int) (v1_1 : Int) (v1_2 : Int) =>
    br (lenOk (a0.length))
    (br (decide ((IntKind.i64.wrap (v1_0 + a1)) < ((a0.length) : Int)))
    (br (decide (0 ≤ v1_0) && decide (v1_0 < ((a0.length) : Int)))
    (br (decide (0 ≤ (IntKind.i64.wrap (v1_0 + a1))) && decide ((IntKind.i64.wrap (v1_0 + a1)) < ((a0.length) : Int)))
    (again1 (IntKind.i64.wrap (v1_0 + 1)) ((f80 ((v1_1, v1_2), (f100 ((f101 (a0.getD v1_0.toNat (0, 0))), (a0.getD ((IntKind.i64.wrap (v1_0 + a1)).toNat) (0, 0)))))).1) ((f80 ((v1_1, v1_2), (f100 ((f101 (a0.getD v1_0.toNat (0, 0))), (a0.getD ((IntKind.i64.wrap (v1_0 + a1)).toNat) (0, 0)))))).2))
    False)
    False)
    (K (v1_1, v1_2)))
    True)
    (fun v1_0 v1_1 v1_2 => again (v1_0, v1_1, v1_2, ())) v.1 v.2.1 v.2.2.1) (0, 0, 0, ())) := by kernel_rfl
theorem f31_t (a0 : List (Int × Int)) (a1 : Int) (hpre : f31_pre (a0, a1)) (K : (Int × Int) → Prop) (hK : ∀ y : Int × Int, y = f31 (a0, a1) → K y) : RunF Try.prog f31_E f31_A 6 Try.f31 f31_e.doms f31_e.cods (a0, a1) K := by
  refine ⟨?_⟩
  rw [f31_run a0 a1 K]
  obtain ⟨h0, h1, h2⟩ := hpre
  simp only at h0 h1 h2
  refine LoopP.up (a0.length - a1.toNat : Nat) (fun i v => (v.1, v.2.1) = sumN (corAt a0 a1) i.toNat) (fun again i v hi0 hn hI hag => ?_) (by omega) (by simp [sumN])
  obtain ⟨v1, v2, u⟩ := v
  simp only at hI hag ⊢
  rw [br_true_, lenOk_iff]
  intro hl
  rw [wr (n := i + a1) (by omega) (by omega), br_both]
  refine ⟨fun hi => ?_, fun hi => hK _ ?_⟩
  · simp only [decide_eq_true_eq] at hi
    rw [wr (n := i + 1) (by omega) (by omega)]
    simp only [br_false_, Bool.and_eq_true, decide_eq_true_eq]
    refine ⟨⟨by omega, by omega⟩, ⟨by omega, hi⟩, hag _ (by omega) ?_⟩
    show (_, _) = _
    rw [hI, mul_conj, show (i + 1).toNat = i.toNat + 1 by omega]
    have e : corAt a0 a1 i.toNat = f127 (a0.getD i.toNat (0, 0), a0.getD (i + a1).toNat (0, 0)) := by
      unfold corAt
      rw [show i.toNat + a1.toNat = (i + a1).toNat by omega]
    show f80 _ = f126 (sumN (corAt a0 a1) i.toNat, corAt a0 a1 i.toNat)
    rw [e]
    rfl
  · simp only [decide_eq_false_iff_not] at hi
    rw [hI]
    unfold f31 f99
    simp only
    congr 1
    omega
theorem f31_fn : f31_e.fn = f31 := rfl
theorem f31_ok : EntryOK Try.prog 31 f31_e := by
  refine entryF progOK (EnvOK.cons f80_ok (EnvOK.cons f100_ok (EnvOK.cons f101_ok (EnvOK.cons f99_ok (EnvOK.nil))))) (A := f31_A) (d := 6) Try.func31 rfl rfl (fun h => by cases h) fun x hpre => ?_
  obtain ⟨a0, a1⟩ := x
  exact f31_t a0 a1 hpre _ fun _ h => h.trans (congrFun f31_fn.symm _)
end Go.Proofs.Ytdhekhichomoiaa
end

section
namespace Go.Proofs.Ytdhekhichomoiaa
open Go Go.Pi Go.RowKit
set_option maxRecDepth 100000
set_option linter.unusedVariables false
set_option linter.unusedSimpArgs false

def f4 (x : List (Int × Int) × Int × Int) : Bool := true
def f4_e : Entry := { doms := [(false, (.sl (.pair (.int .i64) (.int .i64)))), (false, (.int .i64)), (false, (.int .i64))], cods := [(false, .bool)], pre := fun _ => True, fn := f4, uq := false, total := true }
def f4_E : Env := [(16, f16_e), (18, f18_e), (24, f24_e), (25, f25_e), (26, f26_e), (27, f27_e), (28, f28_e), (29, f29_e), (30, f30_e), (31, f31_e)]
def f4_A : Anns := { loops := [], own := [] }
theorem f4_run (a0 : List (Int × Int)) (a1 : Int) (a2 : Int) (K : Bool → Prop) : runF Try.prog f4_E f4_A 6 Try.f4 f4_e.doms f4_e.cods (a0, a1, a2) K =
    (br (!(f16 ()))
    (K false)
    (br (!(f24 a0))
    (K true)
    (f26_pre a0 ∧
    f26_pre a0 ∧
    br ((f28 a0) != 0)
    (br ((f25 ((f26 a0), a1)).2 == (f28 a0))
    (br (lenOk (((f25 ((f26 a0), a1)).1).length))
    (br (((((f25 ((f26 a0), a1)).1).length) : Int) == 0)
    (br ((f27 ((f26 a0), a2)).2 == (f28 a0))
    (K ((((f27 ((f26 a0), a2)).1).1 == 0) && ((((f27 ((f26 a0), a2)).1).2 == 0) && true)))
    (K false))
    (K false))
    True)
    (K false))
    (br (!(f18 (a1, (0, 3))))
    (br ((f25 ((f26 a0), a1)).2 != 2)
    (K false)
    (br (lenOk (((f25 ((f26 a0), a1)).1).length))
    (br (((((f25 ((f26 a0), a1)).1).length) : Int) != 0)
    (K false)
    (br (f18 (a1, (0, 3)))
    (br ((f25 ((f26 a0), a1)).2 != 0)
    (K false)
    (f30_pre (a0, a1) ∧
    br (!(f29 ((f25 ((f26 a0), a1)).1, (f30 (a0, a1)))))
    (K false)
    (br (!(f18 (a2, (0, 48))))
    (br ((f27 ((f26 a0), a2)).2 == 2)
    (K ((((f27 ((f26 a0), a2)).1).1 == 0) && ((((f27 ((f26 a0), a2)).1).2 == 0) && true)))
    (K false))
    (br ((f27 ((f26 a0), a2)).2 == 0)
    (f31_pre (a0, a2) ∧
    K ((((f27 ((f26 a0), a2)).1).1 == (f31 (a0, a2)).1) && ((((f27 ((f26 a0), a2)).1).2 == (f31 (a0, a2)).2) && true)))
    (K false)))))
    (br (!(f18 (a2, (0, 48))))
    (br ((f27 ((f26 a0), a2)).2 == 2)
    (K ((((f27 ((f26 a0), a2)).1).1 == 0) && ((((f27 ((f26 a0), a2)).1).2 == 0) && true)))
    (K false))
    (br ((f27 ((f26 a0), a2)).2 == 0)
    (f31_pre (a0, a2) ∧
    K ((((f27 ((f26 a0), a2)).1).1 == (f31 (a0, a2)).1) && ((((f27 ((f26 a0), a2)).1).2 == (f31 (a0, a2)).2) && true)))
    (K false)))))
    True))
    (br (f18 (a1, (0, 3)))
    (br ((f25 ((f26 a0), a1)).2 != 0)
    (K false)
    (f30_pre (a0, a1) ∧
    br (!(f29 ((f25 ((f26 a0), a1)).1, (f30 (a0, a1)))))
    (K false)
    (br (!(f18 (a2, (0, 48))))
    (br ((f27 ((f26 a0), a2)).2 == 2)
    (K ((((f27 ((f26 a0), a2)).1).1 == 0) && ((((f27 ((f26 a0), a2)).1).2 == 0) && true)))
    (K false))
    (br ((f27 ((f26 a0), a2)).2 == 0)
    (f31_pre (a0, a2) ∧
    K ((((f27 ((f26 a0), a2)).1).1 == (f31 (a0, a2)).1) && ((((f27 ((f26 a0), a2)).1).2 == (f31 (a0, a2)).2) && true)))
    (K false)))))
    (br (!(f18 (a2, (0, 48))))
    (br ((f27 ((f26 a0), a2)).2 == 2)
    (K ((((f27 ((f26 a0), a2)).1).1 == 0) && ((((f27 ((f26 a0), a2)).1).2 == 0) && true)))
    (K false))
    (br ((f27 ((f26 a0), a2)).2 == 0)
    (f31_pre (a0, a2) ∧
    K ((((f27 ((f26 a0), a2)).1).1 == (f31 (a0, a2)).1) && ((((f27 ((f26 a0), a2)).1).2 == (f31 (a0, a2)).2) && true)))
    (K false)))))))) := by kernel_rfl
theorem f4_t (a0 : List (Int × Int)) (a1 : Int) (a2 : Int) (K : Bool → Prop) (hK : ∀ y : Bool, y = f4 (a0, a1, a2) → K y) : RunF Try.prog f4_E f4_A 6 Try.f4 f4_e.doms f4_e.cods (a0, a1, a2) K := by
  refine ⟨?_⟩
  rw [f4_run a0 a1 a2 K]
  have kt : K true := hK _ (by simp [f4])
  rw [show f16 () = true from rfl, Bool.not_true, br_f]
  by_cases h24 : f24 a0 = false
  · rw [h24, Bool.not_false, br_t]
    exact kt
  have h24 : f24 a0 = true := by simpa using h24
  rw [h24, Bool.not_true, br_f]
  have hlen : a0.length ≤ 50 := by simpa [f24] using h24
  have hpc : f26_pre a0 := by simp only [f26_pre]; omega
  refine ⟨hpc, hpc, ?_⟩
  rw [show f26 a0 = a0 from rfl]
  by_cases hB : (f33 a0).2 ≠ 0
  · have e25 : f25 (a0, a1) = ([], (f33 a0).2) := by simp [f25, f42, hB]
    have e27 : f27 (a0, a2) = ((0, 0), (f33 a0).2) := by simp [f27, f42, hB]
    have hne : (f28 a0 != 0) = true := by simpa [f28] using hB
    rw [hne, br_t, e25, e27]
    simp [br, f28, lenOk, kt]
  have hB : (f33 a0).2 = 0 := by simpa using hB
  have hne : (f28 a0 != 0) = false := by simpa [f28] using hB
  rw [hne, br_f]
  obtain ⟨hl0, hl48, hrg⟩ := blk_ok hB
  have lagpart : (br (!(f18 (a2, (0, 48))))
      (br ((f27 (a0, a2)).2 == 2)
      (K ((((f27 (a0, a2)).1).1 == 0) && ((((f27 (a0, a2)).1).2 == 0) && true)))
      (K false))
      (br ((f27 (a0, a2)).2 == 0)
      (f31_pre (a0, a2) ∧
      K ((((f27 (a0, a2)).1).1 == (f31 (a0, a2)).1) && ((((f27 (a0, a2)).1).2 == (f31 (a0, a2)).2) && true)))
      (K false))) := by
    by_cases hlag : 0 ≤ a2 ∧ a2 ≤ 48
    · have e27 : f27 (a0, a2) = (f99 (a0, a2), 0) := by simp [f27, f42, hB, hlag]
      have h18 : f18 (a2, 0, 48) = true := by simp [f18, hlag]
      rw [h18, Bool.not_true, br_f, e27]
      refine ⟨⟨hlag.1, by show a2 ≤ _; omega, by show a0.length ≤ _; omega⟩, ?_⟩
      simpa [f31] using kt
    · have e27 : f27 (a0, a2) = ((0, 0), 2) := by simp [f27, f42, hB, hlag]
      have h18 : f18 (a2, 0, 48) = false := by
        simp only [f18, Bool.and_eq_false_iff, decide_eq_false_iff_not]
        omega
      rw [h18, Bool.not_false, br_t, e27]
      simpa [br] using kt
  by_cases hq : 0 ≤ a1 ∧ a1 ≤ 3
  · have e25 : f25 (a0, a1) = ((List.range a0.length).map (mixAt a0 a1), 0) := by simp [f25, f42, hB, hq]
    have h18 : f18 (a1, 0, 3) = true := by simp [f18, hq]
    have e29 : f29 ((f25 (a0, a1)).1, f30 (a0, a1)) = true := by
      rw [e25, f29, f30]
      simp only [decide_eq_true_eq]
      apply List.map_congr_left
      intro j hj
      rw [List.mem_range] at hj
      unfold mixAt
      have hx := hrg (a0.getD j (0, 0)) (by rw [getD_lt hj]; exact List.getElem_mem hj)
      exact turn_eq (Int.mul_nonneg (by omega) hq.1) (by omega) (by omega)
    rw [h18, Bool.not_true, br_f, br_t, show ((f25 (a0, a1)).2 != 0) = false by rw [e25]; rfl, br_f, e29, Bool.not_true, br_f]
    exact ⟨⟨by show a0.length ≤ _; omega, hq.1, hq.2⟩, lagpart⟩
  · have e25 : f25 (a0, a1) = ([], 2) := by simp [f25, f42, hB, hq]
    have h18 : f18 (a1, 0, 3) = false := by
      simp only [f18, Bool.and_eq_false_iff, decide_eq_false_iff_not]
      omega
    rw [h18, Bool.not_false, br_t, show ((f25 (a0, a1)).2 != 2) = false by rw [e25]; rfl, br_f, e25, br_true_]
    intro _
    exact lagpart
theorem f4_fn : f4_e.fn = f4 := rfl
theorem f4_ok : EntryOK Try.prog 4 f4_e := by
  refine entryF progOK (EnvOK.cons f16_ok (EnvOK.cons f18_ok (EnvOK.cons f24_ok (EnvOK.cons f25_ok (EnvOK.cons f26_ok (EnvOK.cons f27_ok (EnvOK.cons f28_ok (EnvOK.cons f29_ok (EnvOK.cons f30_ok (EnvOK.cons f31_ok (EnvOK.nil))))))))))) (A := f4_A) (d := 6) Try.func4 rfl rfl (fun _ _ => trivial) fun x hpre => ?_
  obtain ⟨a0, a1, a2⟩ := x
  exact f4_t a0 a1 a2 _ fun _ h => h.trans (congrFun f4_fn.symm _)
end Go.Proofs.Ytdhekhichomoiaa
end
