/- What functions of the program compute, each proved once, part 3. -/
import Derived.Test.YtdhekhichomoiaaPiC
import Derived.Test.YtdhekhichomoiaaFnA

section
namespace Go.Proofs.Ytdhekhichomoiaa
open Go Go.Pi Go.RowKit
set_option maxRecDepth 100000
set_option linter.unusedVariables false
set_option linter.unusedSimpArgs false

def f18 (x : Int × Int × Int) : Bool := decide (x.2.1 ≤ x.1) && decide (x.1 ≤ x.2.2)
def f18_e : Entry := { doms := [(false, (.int .i64)), (false, (.int .i64)), (false, (.int .i64))], cods := [(false, .bool)], pre := fun _ => True, fn := f18, uq := false, total := true }
def f18_E : Env := []
def f18_A : Anns := { loops := [], own := [] }
theorem f18_run (a0 : Int) (a1 : Int) (a2 : Int) (K : Bool → Prop) : runF Try.prog f18_E f18_A 6 Try.f18 f18_e.doms f18_e.cods (a0, a1, a2) K =
    (br (decide (a1 ≤ a0))
    (K (decide (a0 ≤ a2)))
    (K false)) := by kernel_rfl
theorem f18_t (a0 : Int) (a1 : Int) (a2 : Int) (K : Bool → Prop) (hK : ∀ y : Bool, y = f18 (a0, a1, a2) → K y) : RunF Try.prog f18_E f18_A 6 Try.f18 f18_e.doms f18_e.cods (a0, a1, a2) K := by
  refine ⟨?_⟩
  rw [f18_run a0 a1 a2 K]
  rw [br_dec]
  exact ⟨fun h => hK _ (by simp [f18, h]), fun h => hK _ (by simp [f18, h])⟩
theorem f18_fn : f18_e.fn = f18 := rfl
theorem f18_ok : EntryOK Try.prog 18 f18_e := by
  refine entryF progOK (EnvOK.nil) (A := f18_A) (d := 6) Try.func18 rfl rfl rfl (fun _ _ => trivial) fun x hpre => ?_
  obtain ⟨a0, a1, a2⟩ := x
  exact f18_t a0 a1 a2 _ fun _ h => h.trans (congrFun f18_fn.symm _)
end Go.Proofs.Ytdhekhichomoiaa
end

section
namespace Go.Proofs.Ytdhekhichomoiaa
open Go Go.Pi Go.RowKit
set_option maxRecDepth 100000
set_option linter.unusedVariables false
set_option linter.unusedSimpArgs false

def f19 (n : Int) : Int := minmax true n (IntKind.i64.wrap (0 - n))
def f19_e : Entry := { doms := [(false, (.int .i64))], cods := [(false, (.int .i64))], pre := fun _ => True, fn := f19, uq := false, total := true }
def f19_E : Env := []
def f19_A : Anns := { loops := [], own := [] }
theorem f19_run (a0 : Int) (K : Int → Prop) : runF Try.prog f19_E f19_A 6 Try.f19 f19_e.doms f19_e.cods a0 K =
    (K (minmax true a0 (IntKind.i64.wrap (0 - a0)))) := by kernel_rfl
theorem f19_t (a0 : Int) (K : Int → Prop) (hK : ∀ y : Int, y = f19 a0 → K y) : RunF Try.prog f19_E f19_A 6 Try.f19 f19_e.doms f19_e.cods a0 K := by
  refine ⟨?_⟩
  rw [f19_run a0 K]
  exact hK _ rfl
theorem f19_fn : f19_e.fn = f19 := rfl
theorem f19_ok : EntryOK Try.prog 19 f19_e := by
  refine entryF progOK (EnvOK.nil) (A := f19_A) (d := 6) Try.func19 rfl rfl rfl (fun _ _ => trivial) fun x hpre => ?_
  exact f19_t x _ fun _ h => h.trans (congrFun f19_fn.symm _)
end Go.Proofs.Ytdhekhichomoiaa
end

section
namespace Go.Proofs.Ytdhekhichomoiaa
open Go Go.Pi Go.RowKit
set_option maxRecDepth 100000
set_option linter.unusedVariables false
set_option linter.unusedSimpArgs false

def f47 (x : List Int × Int) : Bool := decide (x.2 ∈ x.1)
def f47_e : Entry := { doms := [(false, (.sl (.int .i64))), (false, (.int .i64))], cods := [(false, .bool)], pre := fun _ => True, fn := f47, uq := false, total := true }
def f47_E : Env := []
def f47_A : Anns := { loops := [(1048576, { tms := [(0, .keep), (1, .keep), (5, .data false (.int .i64))], obs := [], fz := [] })], own := [] }
theorem f47_run (a0 : List Int) (a1 : Int) (K : Bool → Prop) : runF Try.prog f47_E f47_A 6 Try.f47 f47_e.doms f47_e.cods (a0, a1) K =
    (LoopP (V := Int × Unit) (fun again v => (fun (again1 : Int → Prop) (v1_0 : Int) =>
    br (lenOk (a0.length))
    (br (decide (v1_0 < ((a0.length) : Int)))
    (br (decide (0 ≤ v1_0) && decide (v1_0 < ((a0.length) : Int)))
    (br ((a0.getD v1_0.toNat 0) == a1)
    (K true)
    (again1 (IntKind.i64.wrap (v1_0 + 1))))
    False)
    (K false))
    True)
    (fun v1_0 => again (v1_0, ())) v.1) (0, ())) := by kernel_rfl
theorem f47_t (a0 : List Int) (a1 : Int) (K : Bool → Prop) (hK : ∀ y : Bool, y = f47 (a0, a1) → K y) : RunF Try.prog f47_E f47_A 6 Try.f47 f47_e.doms f47_e.cods (a0, a1) K := by
  refine ⟨?_⟩
  rw [f47_run a0 a1 K]
  refine LoopP.up a0.length (fun i _ => ∀ x ∈ a0.take i.toNat, (x == a1) = false) (fun again i v hi0 hn hI hag => ?_) (by omega) all_zero
  dsimp only
  rw [br_true_, lenOk_iff]
  intro hl
  rw [br_both]
  refine ⟨fun hi => ?_, fun hi => hK _ ?_⟩
  · simp only [decide_eq_true_eq] at hi
    simp only [br_false_, Bool.and_eq_true, decide_eq_true_eq]
    refine ⟨⟨hi0, hi⟩, ?_⟩
    rw [br_both]
    refine ⟨fun he => hK _ ?_, fun hne => ?_⟩
    · have h1 : i.toNat < a0.length := by omega
      have : a1 ∈ a0 := by
        have h2 : a0[i.toNat] = a1 := by rw [← getD_lt (d := (0 : Int)) h1]; simpa using he
        rw [← h2]
        exact List.getElem_mem h1
      simp [f47, this]
    · rw [wr (by omega) (by omega)]
      exact hag () hi (all_step hi0 hi hI hne)
  · simp only [decide_eq_false_iff_not] at hi
    have h2 := all_done hi hI
    have : a1 ∉ a0 := fun hm => by simpa using h2 a1 hm
    simp [f47, this]
theorem f47_fn : f47_e.fn = f47 := rfl
theorem f47_ok : EntryOK Try.prog 47 f47_e := by
  refine entryF progOK (EnvOK.nil) (A := f47_A) (d := 6) Try.func47 rfl rfl rfl (fun _ _ => trivial) fun x hpre => ?_
  obtain ⟨a0, a1⟩ := x
  exact f47_t a0 a1 _ fun _ h => h.trans (congrFun f47_fn.symm _)
end Go.Proofs.Ytdhekhichomoiaa
end

section
namespace Go.Proofs.Ytdhekhichomoiaa
open Go Go.Pi Go.RowKit
set_option maxRecDepth 100000
set_option linter.unusedVariables false
set_option linter.unusedSimpArgs false

def f78 (x : Int × Int) : Int := if x.1.tmod x.2 < 0 then IntKind.i64.wrap (x.1.tmod x.2 + x.2) else x.1.tmod x.2
def f78_pre (x : Int × Int) : Prop := x.2 ≠ 0
def f78_e : Entry := { doms := [(false, (.int .i64)), (false, (.int .i64))], cods := [(false, (.int .i64))], pre := f78_pre, fn := f78, uq := false, total := false }
def f78_E : Env := []
def f78_A : Anns := { loops := [], own := [] }
theorem f78_run (a0 : Int) (a1 : Int) (K : Int → Prop) : runF Try.prog f78_E f78_A 6 Try.f78 f78_e.doms f78_e.cods (a0, a1) K =
    (br (!(decide (a1 = 0)))
    (br (decide ((a0.tmod a1) < 0))
    (K (IntKind.i64.wrap ((a0.tmod a1) + a1)))
    (K (a0.tmod a1)))
    False) := by kernel_rfl
theorem f78_t (a0 : Int) (a1 : Int) (hpre : f78_pre (a0, a1)) (K : Int → Prop) (hK : ∀ y : Int, y = f78 (a0, a1) → K y) : RunF Try.prog f78_E f78_A 6 Try.f78 f78_e.doms f78_e.cods (a0, a1) K := by
  refine ⟨?_⟩
  rw [f78_run a0 a1 K]
  have h : (!(decide (a1 = 0))) = true := by
    have h1 : a1 ≠ 0 := hpre
    simpa using h1
  rw [br_false_]
  refine ⟨h, ?_⟩
  rw [br_dec]
  exact ⟨fun h => hK _ (by simp [f78, h]), fun h => hK _ (by simp [f78, h])⟩
theorem f78_fn : f78_e.fn = f78 := rfl
theorem f78_ok : EntryOK Try.prog 78 f78_e := by
  refine entryF progOK (EnvOK.nil) (A := f78_A) (d := 6) Try.func78 rfl rfl rfl (fun h => by cases h) fun x hpre => ?_
  obtain ⟨a0, a1⟩ := x
  exact f78_t a0 a1 hpre _ fun _ h => h.trans (congrFun f78_fn.symm _)
theorem f78_four (t : Int) : 0 ≤ f78 (t, 4) ∧ f78 (t, 4) < 4 := by
  have h1 : t.tmod 4 < 4 := Int.tmod_lt_of_pos t (by omega)
  have h2 : -4 < t.tmod 4 := by
    have := Int.lt_tmod_of_pos t (show (0 : Int) < 4 by omega)
    omega
  simp only [f78]
  split
  · rw [wr (by omega) (by omega)]
    omega
  · omega
theorem f78_nonneg {t : Int} (h : 0 ≤ t) : f78 (t, 4) = t.tmod 4 := by
  have : 0 ≤ t.tmod 4 := Int.tmod_nonneg 4 h
  simp only [f78]
  rw [if_neg (by omega)]
end Go.Proofs.Ytdhekhichomoiaa
end

section
namespace Go.Proofs.Ytdhekhichomoiaa
open Go Go.Pi Go.RowKit
set_option maxRecDepth 100000
set_option linter.unusedVariables false
set_option linter.unusedSimpArgs false

def f140 (x : Int × Int) : Bool := f95 (x.1, IntKind.i64.wrap (0 - x.2), x.2)
def f140_e : Entry := { doms := [(false, (.int .i64)), (false, (.int .i64))], cods := [(false, .bool)], pre := fun _ => True, fn := f140, uq := false, total := true }
def f140_E : Env := [(95, f95_e)]
def f140_A : Anns := { loops := [], own := [] }
theorem f140_run (a0 : Int) (a1 : Int) (K : Bool → Prop) : runF Try.prog f140_E f140_A 6 Try.f140 f140_e.doms f140_e.cods (a0, a1) K =
    (K (f95 (a0, ((IntKind.i64.wrap (0 - a1)), a1)))) := by kernel_rfl
theorem f140_t (a0 : Int) (a1 : Int) (K : Bool → Prop) (hK : ∀ y : Bool, y = f140 (a0, a1) → K y) : RunF Try.prog f140_E f140_A 6 Try.f140 f140_e.doms f140_e.cods (a0, a1) K := by
  refine ⟨?_⟩
  rw [f140_run a0 a1 K]
  exact hK _ rfl
theorem f140_fn : f140_e.fn = f140 := rfl
theorem f140_ok : EntryOK Try.prog 140 f140_e := by
  refine entryF progOK (EnvOK.cons f95_ok (EnvOK.nil)) (A := f140_A) (d := 6) Try.func140 rfl rfl rfl (fun _ _ => trivial) fun x hpre => ?_
  obtain ⟨a0, a1⟩ := x
  exact f140_t a0 a1 _ fun _ h => h.trans (congrFun f140_fn.symm _)
end Go.Proofs.Ytdhekhichomoiaa
end

section
namespace Go.Proofs.Ytdhekhichomoiaa
open Go Go.Pi Go.RowKit
set_option maxRecDepth 100000
set_option linter.unusedVariables false
set_option linter.unusedSimpArgs false

def fitsF (f : Int × Int × Int) (v : Int) : Bool := decide ((v - f.1) % f.2.1 ≤ f.2.2) || decide (f.2.1 - (v - f.1) % f.2.1 ≤ f.2.2)
def inF (f : Int × Int × Int) : Bool := (decide (-20000 ≤ f.1) && decide (f.1 ≤ 20000)) && ((decide (1 ≤ f.2.1) && decide (f.2.1 ≤ 20000)) && (decide (0 ≤ f.2.2) && decide (f.2.2 ≤ 20000)))
theorem inF_iff (f : Int × Int × Int) : inF f = true ↔ (-20000 ≤ f.1 ∧ f.1 ≤ 20000) ∧ (1 ≤ f.2.1 ∧ f.2.1 ≤ 20000) ∧ 0 ≤ f.2.2 ∧ f.2.2 ≤ 20000 := by
  simp only [inF, Bool.and_eq_true, decide_eq_true_eq]
def f134 (x : (Int × Int × Int) × Int) : Bool := fitsF x.1 x.2
def f134_pre (x : (Int × Int × Int) × Int) : Prop := inF x.1 = true ∧ -20000 ≤ x.2 ∧ x.2 ≤ 20000
theorem tmod_mod {n p : Int} (hp : 0 < p) : (n.tmod p < 0 → n.tmod p + p = n % p) ∧ (¬ n.tmod p < 0 → n.tmod p = n % p) := by
  have h1 := Int.tmod_lt_of_pos n hp
  have h2 := Int.lt_tmod_of_pos n hp
  have e : n % p = n.tmod p % p := by
    have := Int.tmod_add_mul_tdiv n p
    rw [show n % p = (n.tmod p + p * n.tdiv p) % p by rw [this], Int.add_mul_emod_self_left]
  refine ⟨fun h => ?_, fun h => ?_⟩
  · rw [e, ← Int.add_emod_right, Int.emod_eq_of_lt (by omega) (by omega)]
  · rw [e, Int.emod_eq_of_lt (by omega) (by omega)]
def f134_e : Entry := { doms := [(true, (.pair (.int .i64) (.pair (.int .i64) (.int .i64)))), (false, (.int .i64))], cods := [(false, .bool)], pre := f134_pre, fn := f134, uq := false, total := false }
def f134_E : Env := []
def f134_A : Anns := { loops := [], own := [] }
theorem f134_run (a0 : Int × Int × Int) (a1 : Int) (K : Bool → Prop) : runF Try.prog f134_E f134_A 6 Try.f134 f134_e.doms f134_e.cods (a0, a1) K =
    (br (!(decide (a0.2.1 = 0)))
    (br (decide (((IntKind.i64.wrap (a1 - a0.1)).tmod a0.2.1) < 0))
    (br (decide ((IntKind.i64.wrap (((IntKind.i64.wrap (a1 - a0.1)).tmod a0.2.1) + a0.2.1)) ≤ a0.2.2))
    (K true)
    (K (decide ((IntKind.i64.wrap (a0.2.1 - (IntKind.i64.wrap (((IntKind.i64.wrap (a1 - a0.1)).tmod a0.2.1) + a0.2.1)))) ≤ a0.2.2))))
    (br (decide (((IntKind.i64.wrap (a1 - a0.1)).tmod a0.2.1) ≤ a0.2.2))
    (K true)
    (K (decide ((IntKind.i64.wrap (a0.2.1 - ((IntKind.i64.wrap (a1 - a0.1)).tmod a0.2.1))) ≤ a0.2.2)))))
    False) := by kernel_rfl
theorem f134_t (a0 : Int × Int × Int) (a1 : Int) (hpre : f134_pre (a0, a1)) (K : Bool → Prop) (hK : ∀ y : Bool, y = f134 (a0, a1) → K y) : RunF Try.prog f134_E f134_A 6 Try.f134 f134_e.doms f134_e.cods (a0, a1) K := by
  refine ⟨?_⟩
  rw [f134_run a0 a1 K]
  obtain ⟨v, p, o⟩ := a0
  dsimp only
  obtain ⟨hf, h1, h2⟩ := hpre
  rw [inF_iff] at hf
  simp only at hf h1 h2
  obtain ⟨⟨h3, h4⟩, ⟨h5, h6⟩, h7, h8⟩ := hf
  obtain ⟨t1, t2⟩ := tmod_mod (n := a1 - v) (p := p) (by omega)
  have t3 := Int.emod_lt_of_pos (a1 - v) (show 0 < p by omega)
  have t4 := Int.emod_nonneg (a1 - v) (show p ≠ 0 by omega)
  rw [wr (n := a1 - v) (by omega) (by omega)]
  rw [br_false_]
  refine ⟨by simp; omega, ?_⟩
  rw [br_dec]
  refine ⟨fun h => ?_, fun h => ?_⟩
  · rw [t1 h, wr (n := (a1 - v) % p) (by omega) (by omega), wr (by omega) (by omega), br_dec]
    exact ⟨fun h9 => hK _ (by simp [f134, fitsF, h9]), fun h9 => hK _ (by simp [f134, fitsF, h9])⟩
  · rw [t2 h, wr (by omega) (by omega), br_dec]
    exact ⟨fun h9 => hK _ (by simp [f134, fitsF, h9]), fun h9 => hK _ (by simp [f134, fitsF, h9])⟩
theorem f134_fn : f134_e.fn = f134 := rfl
theorem f134_ok : EntryOK Try.prog 134 f134_e := by
  refine entryF progOK (EnvOK.nil) (A := f134_A) (d := 6) Try.func134 rfl rfl rfl (fun h => by cases h) fun x hpre => ?_
  obtain ⟨a0, a1⟩ := x
  exact f134_t a0 a1 hpre _ fun _ h => h.trans (congrFun f134_fn.symm _)
end Go.Proofs.Ytdhekhichomoiaa
end

section
namespace Go.Proofs.Ytdhekhichomoiaa
open Go Go.Pi Go.RowKit
set_option maxRecDepth 100000
set_option linter.unusedVariables false
set_option linter.unusedSimpArgs false

def f86 (x : List (Int × Int × Int) × Int) : Int := if x.1.length = 0 then 10 else if 8 < x.1.length then 8 else if x.1.all inF then (if 0 ≤ x.2 ∧ x.2 ≤ 20000 then 0 else 2) else 2
def f86_e : Entry := { doms := [(false, (.sl (.pair (.int .i64) (.pair (.int .i64) (.int .i64))))), (false, (.int .i64))], cods := [(false, (.int .i64))], pre := fun _ => True, fn := f86, uq := false, total := true }
def f86_E : Env := [(18, f18_e), (134, f134_e)]
def f86_A : Anns := { loops := [(1048576, { tms := [(0, .keep), (1, .keep), (5, .data false (.int .i64))], obs := [], fz := [] })], own := [] }
theorem f86_run (a0 : List (Int × Int × Int)) (a1 : Int) (K : Int → Prop) : runF Try.prog f86_E f86_A 6 Try.f86 f86_e.doms f86_e.cods (a0, a1) K =
    (br (lenOk (a0.length))
    (br (((a0.length) : Int) == 0)
    (K 10)
    (br (lenOk (a0.length))
    (br (decide (((a0.length) : Int) > 8))
    (K 8)
    (LoopP (V := Int × Unit) (fun again v => (fun (again1 : Int → Prop) (v1_0 : Int) =>
    br (lenOk (a0.length))
    (br (decide (v1_0 < ((a0.length) : Int)))
    (br (decide (0 ≤ v1_0) && decide (v1_0 < ((a0.length) : Int)))
    (br (!(f18 ((a0.getD v1_0.toNat (0, (0, 0))).1, ((-20000), 20000))))
    (K 2)
    (br (decide (0 ≤ v1_0) && decide (v1_0 < ((a0.length) : Int)))
    (br (!(f18 (((a0.getD v1_0.toNat (0, (0, 0))).2).1, (1, 20000))))
    (K 2)
    (br (decide (0 ≤ v1_0) && decide (v1_0 < ((a0.length) : Int)))
    (br (!(f18 (((a0.getD v1_0.toNat (0, (0, 0))).2).2, (0, 20000))))
    (K 2)
    (again1 (IntKind.i64.wrap (v1_0 + 1))))
    False))
    False))
    False)
    (br (!(f18 (a1, (0, 20000))))
    (K 2)
    (K 0)))
    True)
    (fun v1_0 => again (v1_0, ())) v.1) (0, ())))
    True))
    True) := by kernel_rfl
theorem f86_t (a0 : List (Int × Int × Int)) (a1 : Int) (K : Int → Prop) (hK : ∀ y : Int, y = f86 (a0, a1) → K y) : RunF Try.prog f86_E f86_A 6 Try.f86 f86_e.doms f86_e.cods (a0, a1) K := by
  refine ⟨?_⟩
  rw [f86_run a0 a1 K]
  rw [br_true_, lenOk_iff]
  intro hl
  rw [br_both]
  refine ⟨fun h => hK _ ?_, fun h => ?_⟩
  · have h : (a0.length : Int) = 0 := by simpa using h
    rw [f86, if_pos (by simp only; omega)]
  have h0 : a0.length ≠ 0 := fun e => by rw [e] at h; simp at h
  rw [br_true_]
  intro _
  rw [br_dec]
  refine ⟨fun h => hK _ ?_, fun h4 => ?_⟩
  · rw [f86, if_neg h0, if_pos (by simp only; omega)]
  have h8 : ¬ 8 < a0.length := by omega
  refine LoopP.up a0.length (fun i _ => ∀ x ∈ a0.take i.toNat, inF x = true) (fun again i v hi0 hn hI hag => ?_) (by omega) all_zero
  dsimp only
  rw [br_true_]
  intro _
  rw [br_dec]
  refine ⟨fun hi => ?_, fun hi => ?_⟩
  · have b0 : (decide (0 ≤ i) && decide (i < (a0.length : Int))) = true := by simp; omega
    have bad : inF (a0.getD i.toNat (0, 0, 0)) = false → f86 (a0, a1) = 2 := fun hne => by
      rw [f86, if_neg h0, if_neg h8, if_neg]
      intro hall
      have := List.all_eq_true.1 hall (a0.getD i.toNat (0, 0, 0)) (by rw [getD_lt (by omega)]; exact List.getElem_mem _)
      rw [hne] at this
      simp at this
    rw [br_false_]
    refine ⟨b0, ?_⟩
    rw [br_both]
    have hin : inF (a0.getD i.toNat (0, 0, 0)) = (f18 ((a0.getD i.toNat (0, 0, 0)).1, -20000, 20000) && (f18 ((a0.getD i.toNat (0, 0, 0)).2.1, 1, 20000) && f18 ((a0.getD i.toNat (0, 0, 0)).2.2, 0, 20000))) := rfl
    refine ⟨fun e1 => hK _ (bad (by rw [hin]; simp at e1; simp [e1])).symm, fun e1 => ?_⟩
    rw [br_false_]
    refine ⟨b0, ?_⟩
    rw [br_both]
    refine ⟨fun e2 => hK _ (bad (by rw [hin]; simp at e2; simp [e2])).symm, fun e2 => ?_⟩
    rw [br_false_]
    refine ⟨b0, ?_⟩
    rw [br_both]
    refine ⟨fun e3 => hK _ (bad (by rw [hin]; simp at e3; simp [e3])).symm, fun e3 => ?_⟩
    rw [wr (n := i + 1) (by omega) (by omega)]
    refine hag () hi (all_step (d := (0, 0, 0)) hi0 hi hI ?_)
    rw [hin]
    simp at e1 e2 e3
    simp [e1, e2, e3]
  · have hall := List.all_eq_true.2 (all_done hi hI)
    have e : f86 (a0, a1) = if 0 ≤ a1 ∧ a1 ≤ 20000 then 0 else 2 := by rw [f86, if_neg h0, if_neg h8, if_pos hall]
    rw [br_both]
    refine ⟨fun h => hK _ ?_, fun h => hK _ ?_⟩
    · rw [e, if_neg]
      intro hh
      simp [f18, hh] at h
    · rw [e, if_pos]
      simpa [f18] using h
theorem f86_fn : f86_e.fn = f86 := rfl
theorem f86_ok : EntryOK Try.prog 86 f86_e := by
  refine entryF progOK (EnvOK.cons f18_ok (EnvOK.cons f134_ok (EnvOK.nil))) (A := f86_A) (d := 6) Try.func86 rfl rfl rfl (fun _ _ => trivial) fun x hpre => ?_
  obtain ⟨a0, a1⟩ := x
  exact f86_t a0 a1 _ fun _ h => h.trans (congrFun f86_fn.symm _)
end Go.Proofs.Ytdhekhichomoiaa
end

section
namespace Go.Proofs.Ytdhekhichomoiaa
open Go Go.Pi Go.RowKit
set_option maxRecDepth 100000
set_option linter.unusedVariables false
set_option linter.unusedSimpArgs false

def f131 (x : List (Int × Int × Int) × Int) : Int := f86 x
def f131_e : Entry := { doms := [(false, (.sl (.pair (.int .i64) (.pair (.int .i64) (.int .i64))))), (false, (.int .i64))], cods := [(false, (.int .i64))], pre := fun _ => True, fn := f131, uq := false, total := true }
def f131_E : Env := [(93, f93_e), (94, f94_e), (95, f95_e), (140, f140_e), (86, f86_e), (18, f18_e)]
def f131_A : Anns := { loops := [(1154048505101156352, { tms := [(0, .keep), (1, .keep), (7, .keep), (8, .data false (.int .i64))], obs := [], fz := [] })], own := [] }
theorem f131_run (a0 : List (Int × Int × Int)) (a1 : Int) (K : Int → Prop) : runF Try.prog f131_E f131_A 6 Try.f131 f131_e.doms f131_e.cods (a0, a1) K =
    (br (lenOk (a0.length))
    (LoopP (V := Int × Unit) (fun again v => (fun (again1 : Int → Prop) (v1_0 : Int) =>
    br (decide (v1_0 < ((a0.length) : Int)))
    (br (decide (0 ≤ v1_0) && decide (v1_0 < ((a0.length) : Int)))
    (br (!(f140 ((a0.getD v1_0.toNat (0, (0, 0))).1, 20000)))
    (br (lenOk (a0.length))
    (br (lenOk (a0.length))
    (K (f93 ([(f94 ((decide (((a0.length) : Int) > 0)), 10)), (f94 ((decide (((a0.length) : Int) ≤ 8)), 8)), (f94 ((!(decide (v1_0 ≥ 0))), 2)), (f94 ((f95 (a1, (0, 20000))), 2))] : List Int)))
    True)
    True)
    (br (!(f95 (((a0.getD v1_0.toNat (0, (0, 0))).2).1, (1, 20000))))
    (br (lenOk (a0.length))
    (br (lenOk (a0.length))
    (K (f93 ([(f94 ((decide (((a0.length) : Int) > 0)), 10)), (f94 ((decide (((a0.length) : Int) ≤ 8)), 8)), (f94 ((!(decide (v1_0 ≥ 0))), 2)), (f94 ((f95 (a1, (0, 20000))), 2))] : List Int)))
    True)
    True)
    (br (!(f95 (((a0.getD v1_0.toNat (0, (0, 0))).2).2, (0, 20000))))
    (br (lenOk (a0.length))
    (br (lenOk (a0.length))
    (K (f93 ([(f94 ((decide (((a0.length) : Int) > 0)), 10)), (f94 ((decide (((a0.length) : Int) ≤ 8)), 8)), (f94 ((!(decide (v1_0 ≥ 0))), 2)), (f94 ((f95 (a1, (0, 20000))), 2))] : List Int)))
    True)
    True)
    (again1 (IntKind.i64.wrap (v1_0 + 1))))))
    False)
    (br (lenOk (a0.length))
    (br (lenOk (a0.length))
    (K (f93 ([(f94 ((decide (((a0.length) : Int) > 0)), 10)), (f94 ((decide (((a0.length) : Int) ≤ 8)), 8)), (f94 (true, 2)), (f94 ((f95 (a1, (0, 20000))), 2))] : List Int)))
    True)
    True))
    (fun v1_0 => again (v1_0, ())) v.1) (0, ()))
    True) := by kernel_rfl
theorem f131_t (a0 : List (Int × Int × Int)) (a1 : Int) (K : Int → Prop) (hK : ∀ y : Int, y = f131 (a0, a1) → K y) : RunF Try.prog f131_E f131_A 6 Try.f131 f131_e.doms f131_e.cods (a0, a1) K := by
  refine ⟨?_⟩
  rw [f131_run a0 a1 K]
  have hlen : ∀ b : Bool, f93 [f94 (decide ((a0.length : Int) > 0), 10), f94 (decide ((a0.length : Int) ≤ 8), 8), f94 (b, 2), f94 (f95 (a1, 0, 20000), 2)] = if a0.length = 0 then 10 else if 8 < a0.length then 8 else if b then (if 0 ≤ a1 ∧ a1 ≤ 20000 then 0 else 2) else 2 := fun b => by
    have e95 : f95 (a1, 0, 20000) = decide (0 ≤ a1 ∧ a1 ≤ 20000) := by simp [f95]
    simp only [f93_cons, f93_nil, f94, e95]
    by_cases h : a0.length = 0
    · simp [h]
    · have h1 : ((a0.length : Int) > 0) := by omega
      by_cases h4 : 8 < a0.length
      · have h2 : ¬ ((a0.length : Int) ≤ 8) := by omega
        simp only [h1, h2, h, h4]
        simp
      · have h2 : ((a0.length : Int) ≤ 8) := by omega
        simp only [h1, h2, h, h4]
        cases b <;> by_cases hh : 0 ≤ a1 ∧ a1 ≤ 20000 <;> simp [hh]
  simp only [hlen]
  rw [br_true_, lenOk_iff]
  intro hl
  refine LoopP.up a0.length (fun i _ => ∀ x ∈ a0.take i.toNat, inF x = true) (fun again i v hi0 hn hI hag => ?_) (by omega) all_zero
  dsimp only
  rw [br_dec]
  refine ⟨fun hi => ?_, fun hi => ?_⟩
  · have b0 : (decide (0 ≤ i) && decide (i < (a0.length : Int))) = true := by simp; omega
    have bad : inF (a0.getD i.toNat (0, 0, 0)) = false → (if a0.length = 0 then 10 else if 8 < a0.length then 8 else if (!decide (i ≥ 0)) = true then (if 0 ≤ a1 ∧ a1 ≤ 20000 then 0 else 2) else 2) = f131 (a0, a1) := fun hne => by
      have hall : a0.all inF = false := by
        rw [Bool.eq_false_iff]
        intro hall
        have := List.all_eq_true.1 hall (a0.getD i.toNat (0, 0, 0)) (by rw [getD_lt (by omega)]; exact List.getElem_mem _)
        rw [hne] at this
        simp at this
      rw [f131, f86, hall, show decide (i ≥ 0) = true from decide_eq_true hi0]
      rfl
    rw [br_false_]
    refine ⟨b0, ?_⟩
    have hin : inF (a0.getD i.toNat (0, 0, 0)) = (f95 ((a0.getD i.toNat (0, 0, 0)).1, -20000, 20000) && (f95 ((a0.getD i.toNat (0, 0, 0)).2.1, 1, 20000) && f95 ((a0.getD i.toNat (0, 0, 0)).2.2, 0, 20000))) := rfl
    have e140 : ∀ n : Int, f140 (n, 20000) = f95 (n, -20000, 20000) := fun n => rfl
    simp only [e140]
    have two : ∀ {X : Prop}, X → br (lenOk a0.length) (br (lenOk a0.length) X True) True := fun h => br_true_.2 fun _ => br_true_.2 fun _ => h
    refine br_both.2 ⟨fun e1 => two (hK _ (bad (by rw [hin]; simp at e1; simp [e1]))), fun e1 => br_both.2 ⟨fun e2 => two (hK _ (bad (by rw [hin]; simp at e2; simp [e2]))), fun e2 => br_both.2 ⟨fun e3 => two (hK _ (bad (by rw [hin]; simp at e3; simp [e3]))), fun e3 => ?_⟩⟩⟩
    rw [wr (n := i + 1) (by omega) (by omega)]
    refine hag () hi (all_step (d := (0, 0, 0)) hi0 hi hI ?_)
    rw [hin]
    simp at e1 e2 e3
    simp [e1, e2, e3]
  · rw [br_true_]
    intro _
    rw [br_true_]
    intro _
    refine hK _ ?_
    rw [f131, f86, List.all_eq_true.2 (all_done hi hI)]
    simp
theorem f131_fn : f131_e.fn = f131 := rfl
theorem f131_ok : EntryOK Try.prog 131 f131_e := by
  refine entryF progOK (EnvOK.cons f93_ok (EnvOK.cons f94_ok (EnvOK.cons f95_ok (EnvOK.cons f140_ok (EnvOK.cons f86_ok (EnvOK.cons f18_ok (EnvOK.nil))))))) (A := f131_A) (d := 6) Try.func131 rfl rfl rfl (fun _ _ => trivial) fun x hpre => ?_
  obtain ⟨a0, a1⟩ := x
  exact f131_t a0 a1 _ fun _ h => h.trans (congrFun f131_fn.symm _)
end Go.Proofs.Ytdhekhichomoiaa
end

section
namespace Go.Proofs.Ytdhekhichomoiaa
open Go Go.Pi Go.RowKit
set_option maxRecDepth 100000
set_option linter.unusedVariables false
set_option linter.unusedSimpArgs false

def f136 (x : (Int × Int × Int) × Int) : Bool := fitsF x.1 x.2
def f136_pre (x : (Int × Int × Int) × Int) : Prop := inF x.1 = true ∧ -20000 ≤ x.2 ∧ x.2 ≤ 20000
def f136_e : Entry := { doms := [(true, (.pair (.int .i64) (.pair (.int .i64) (.int .i64)))), (false, (.int .i64))], cods := [(false, .bool)], pre := f136_pre, fn := f136, uq := false, total := false }
def f136_E : Env := [(78, f78_e), (134, f134_e)]
def f136_A : Anns := { loops := [], own := [] }
theorem f136_run (a0 : Int × Int × Int) (a1 : Int) (K : Bool → Prop) : runF Try.prog f136_E f136_A 6 Try.f136 f136_e.doms f136_e.cods (a0, a1) K =
    (f78_pre ((IntKind.i64.wrap (a1 - a0.1)), a0.2.1) ∧
    br (decide ((f78 ((IntKind.i64.wrap (a1 - a0.1)), a0.2.1)) ≤ a0.2.2))
    (K true)
    (K (decide ((IntKind.i64.wrap (a0.2.1 - (f78 ((IntKind.i64.wrap (a1 - a0.1)), a0.2.1)))) ≤ a0.2.2)))) := by kernel_rfl
theorem f136_t (a0 : Int × Int × Int) (a1 : Int) (hpre : f136_pre (a0, a1)) (K : Bool → Prop) (hK : ∀ y : Bool, y = f136 (a0, a1) → K y) : RunF Try.prog f136_E f136_A 6 Try.f136 f136_e.doms f136_e.cods (a0, a1) K := by
  refine ⟨?_⟩
  rw [f136_run a0 a1 K]
  obtain ⟨v, p, o⟩ := a0
  dsimp only
  obtain ⟨hf, h1, h2⟩ := hpre
  rw [inF_iff] at hf
  simp only at hf h1 h2
  obtain ⟨⟨h3, h4⟩, ⟨h5, h6⟩, h7, h8⟩ := hf
  obtain ⟨t1, t2⟩ := tmod_mod (n := a1 - v) (p := p) (by omega)
  have t3 := Int.emod_lt_of_pos (a1 - v) (show 0 < p by omega)
  have t4 := Int.emod_nonneg (a1 - v) (show p ≠ 0 by omega)
  have e : f78 (a1 - v, p) = (a1 - v) % p := by
    simp only [f78]
    split
    · rename_i h
      rw [t1 h, wr (by omega) (by omega)]
    · rename_i h
      exact t2 h
  rw [wr (n := a1 - v) (by omega) (by omega)]
  refine ⟨show p ≠ 0 by omega, ?_⟩
  rw [e, wr (by omega) (by omega), br_dec]
  exact ⟨fun h9 => hK _ (by simp [f136, fitsF, h9]), fun h9 => hK _ (by simp [f136, fitsF, h9])⟩
theorem f136_fn : f136_e.fn = f136 := rfl
theorem f136_ok : EntryOK Try.prog 136 f136_e := by
  refine entryF progOK (EnvOK.cons f78_ok (EnvOK.cons f134_ok (EnvOK.nil))) (A := f136_A) (d := 6) Try.func136 rfl rfl rfl (fun h => by cases h) fun x hpre => ?_
  obtain ⟨a0, a1⟩ := x
  exact f136_t a0 a1 hpre _ fun _ h => h.trans (congrFun f136_fn.symm _)
end Go.Proofs.Ytdhekhichomoiaa
end

section
namespace Go.Proofs.Ytdhekhichomoiaa
open Go Go.Pi Go.RowKit
set_option maxRecDepth 100000
set_option linter.unusedVariables false
set_option linter.unusedSimpArgs false

/-- All speeds that fit. -/
def unf (l : List (Int × Int × Int)) (limit : Int) : List Int := ((List.range (2 * limit + 1).toNat).map fun k : Nat => (k : Int) - limit).filter fun v => l.all fun f => fitsF f v
def unfTo (l : List (Int × Int × Int)) (limit : Int) (i : Int) : List Int := ((List.range (i + limit).toNat).map fun k : Nat => (k : Int) - limit).filter fun v => l.all fun f => fitsF f v
theorem unfTo_first (l : List (Int × Int × Int)) (limit : Int) : unfTo l limit (-limit) = [] := by
  unfold unfTo
  rw [show (-limit + limit).toNat = 0 by omega]
  rfl
theorem unfTo_last {l : List (Int × Int × Int)} {limit i : Int} (h : i = limit + 1) : unfTo l limit i = unf l limit := by
  unfold unfTo unf
  rw [show i + limit = 2 * limit + 1 by omega]
theorem unfTo_step {l : List (Int × Int × Int)} {limit i : Int} (h : -limit ≤ i) : unfTo l limit (i + 1) = if (l.all fun f => fitsF f i) then unfTo l limit i ++ [i] else unfTo l limit i := by
  unfold unfTo
  rw [show (i + 1 + limit).toNat = (i + limit).toNat + 1 by omega, List.range_succ, List.map_append, List.filter_append]
  have e : ((i + limit).toNat : Int) - limit = i := by omega
  simp only [List.map_cons, List.map_nil, e]
  by_cases hf : (l.all fun f => fitsF f i) = true
  · rw [if_pos hf, List.filter_cons_of_pos (by simpa using hf)]
    rfl
  · rw [if_neg hf, List.filter_cons_of_neg (by simpa using hf)]
    simp
theorem unfTo_len (l : List (Int × Int × Int)) (limit i : Int) : (unfTo l limit i).length ≤ (i + limit).toNat := by
  unfold unfTo
  refine Nat.le_trans (List.length_filter_le _ _) ?_
  simp
theorem mem_unf {l : List (Int × Int × Int)} {limit v : Int} : v ∈ unf l limit ↔ (-limit ≤ v ∧ v ≤ limit) ∧ ∀ f ∈ l, fitsF f v = true := by
  unfold unf
  simp only [List.mem_filter, List.mem_map, List.mem_range, List.all_eq_true]
  constructor
  · rintro ⟨⟨k, hk, rfl⟩, h⟩
    exact ⟨⟨by omega, by omega⟩, h⟩
  · rintro ⟨⟨h1, h2⟩, h⟩
    exact ⟨⟨(v + limit).toNat, by omega, by omega⟩, h⟩
def f87 (x : List (Int × Int × Int) × Int) : List Int := unf x.1 x.2
def f87_pre (x : List (Int × Int × Int) × Int) : Prop := (∀ f ∈ x.1, inF f = true) ∧ 0 ≤ x.2 ∧ x.2 ≤ 20000
def f87_e : Entry := { doms := [(false, (.sl (.pair (.int .i64) (.pair (.int .i64) (.int .i64))))), (false, (.int .i64))], cods := [(false, (.sl (.int .i64)))], pre := f87_pre, fn := f87, uq := false, total := false }
def f87_E : Env := [(136, f136_e), (134, f134_e)]
def f87_A : Anns := { loops := [(1048576, { tms := [(0, .keep), (1, .keep), (5, .ref 1059843), (6, .data false (.int .i64))], obs := [(1059843, .arr (.uniq) (.int .i64))], fz := [] }),
  (1048578, { tms := [(0, .keep), (1, .keep), (5, .keep), (6, .keep), (7, .data false .bool), (8, .data false (.int .i64))], obs := [(1059843, .keep)], fz := [] })], own := [] }
theorem f87_run (a0 : List (Int × Int × Int)) (a1 : Int) (K : (List Int) → Prop) : runF Try.prog f87_E f87_A 6 Try.f87 f87_e.doms f87_e.cods (a0, a1) K =
    (LoopP (V := Int × List Int × Unit) (fun again v => (fun (again1 : Int → List Int → Prop) (v1_0 : Int) (v1_1 : List Int) =>
    br (decide (v1_0 ≤ a1))
    (LoopP (V := Bool × Int × Unit) (fun again v => (fun (again2 : Bool → Int → Prop) (v2_0 : Bool) (v2_1 : Int) =>
    br (lenOk (a0.length))
    (br (decide (v2_1 < ((a0.length) : Int)))
    (br v2_0
    (br (decide (0 ≤ v2_1) && decide (v2_1 < ((a0.length) : Int)))
    (f136_pre (((a0.getD v2_1.toNat (0, (0, 0))).1, ((a0.getD v2_1.toNat (0, (0, 0))).2)), v1_0) ∧
    again2 (f136 (((a0.getD v2_1.toNat (0, (0, 0))).1, ((a0.getD v2_1.toNat (0, (0, 0))).2)), v1_0)) (IntKind.i64.wrap (v2_1 + 1)))
    False)
    (br v2_0
    (br (roomOk ((v1_1.length) + 1) 8)
    (again1 (IntKind.i64.wrap (v1_0 + 1)) (v1_1 ++ ([v1_0] : List Int)))
    False)
    (again1 (IntKind.i64.wrap (v1_0 + 1)) v1_1)))
    (br v2_0
    (br (roomOk ((v1_1.length) + 1) 8)
    (again1 (IntKind.i64.wrap (v1_0 + 1)) (v1_1 ++ ([v1_0] : List Int)))
    False)
    (again1 (IntKind.i64.wrap (v1_0 + 1)) v1_1)))
    True)
    (fun v2_0 v2_1 => again (v2_0, v2_1, ())) v.1 v.2.1) (true, 0, ()))
    (K v1_1))
    (fun v1_0 v1_1 => again (v1_0, v1_1, ())) v.1 v.2.1) ((IntKind.i64.wrap (0 - a1)), ([] : List Int), ())) := by kernel_rfl
theorem f87_t (a0 : List (Int × Int × Int)) (a1 : Int) (hpre : f87_pre (a0, a1)) (K : (List Int) → Prop) (hK : ∀ y : List Int, y = f87 (a0, a1) → K y) : RunF Try.prog f87_E f87_A 6 Try.f87 f87_e.doms f87_e.cods (a0, a1) K := by
  refine ⟨?_⟩
  rw [f87_run a0 a1 K]
  obtain ⟨hin, hl0, hl1⟩ := hpre
  simp only at hin hl0 hl1
  rw [wr (n := 0 - a1) (by omega) (by omega), show (0 : Int) - a1 = -a1 by omega]
  refine LoopP.upFrom (-a1) (a1 + 1) (fun i v => v.1 = unfTo a0 a1 i) (fun again i v hi0 hn hI hag => ?_) (unfTo_first a0 a1).symm
  obtain ⟨out, u⟩ := v
  have hI : out = unfTo a0 a1 i := hI
  subst hI
  dsimp only
  rw [br_dec]
  refine ⟨fun hi => ?_, fun hi => hK _ ?_⟩
  · have hlen := unfTo_len a0 a1 i
    have hroom : roomOk ((unfTo a0 a1 i).length + 1) 8 = true := by rw [roomOk_iff]; omega
    have done : ∀ b : Bool, b = (a0.all fun f => fitsF f i) → br b (br (roomOk ((unfTo a0 a1 i).length + 1) 8) (again (IntKind.i64.wrap (i + 1), unfTo a0 a1 i ++ [i], ())) False) (again (IntKind.i64.wrap (i + 1), unfTo a0 a1 i, ())) := by
      intro b hb
      rw [wr (by omega) (by omega), br_both, br_false_]
      have hst := unfTo_step (l := a0) hi0
      rw [← hb] at hst
      refine ⟨fun h => ⟨hroom, hag (_, ()) (by omega) ?_⟩, fun h => hag (_, ()) (by omega) ?_⟩
      · show _ = unfTo a0 a1 (i + 1)
        rw [hst, h]; rfl
      · show _ = unfTo a0 a1 (i + 1)
        rw [hst, h]; rfl
    refine LoopP.of (fun q : Bool × Int × Unit => (0 ≤ q.2.1 ∧ q.2.1 ≤ (a0.length : Int)) ∧ q.1 = ((a0.take q.2.1.toNat).all fun f => fitsF f i)) (fun q => ((a0.length : Int) - q.2.1).toNat) (fun again2 q hq hag2 => ?_) ⟨⟨by simp, by simp⟩, by simp⟩
    obtain ⟨b, j, u2⟩ := q
    obtain ⟨⟨hj0, hj1⟩, hb⟩ := hq
    simp only at hj0 hj1 hb
    dsimp only
    rw [br_true_, lenOk_iff]
    intro hl
    rw [br_dec]
    refine ⟨fun hj => br_both.2 ⟨fun hbt => ?_, fun hbf => done b ?_⟩, fun hj => done b ?_⟩
    · have hjl : j.toNat < a0.length := by omega
      rw [br_false_]
      refine ⟨by simp; omega, ?_, ?_⟩
      · exact ⟨hin _ (by rw [getD_lt hjl]; exact List.getElem_mem _), by simp only; omega, by simp only; omega⟩
      · rw [wr (by omega) (by omega)]
        refine hag2 (_, j + 1, ()) ⟨⟨by simp only; omega, by simp only; omega⟩, ?_⟩ (by simp only; omega)
        simp only
        rw [show (j + 1).toNat = j.toNat + 1 by omega, List.take_add_one, List.getElem?_eq_getElem hjl, List.all_append, ← hb, hbt, getD_lt hjl]
        simp [f136]
    · rw [hbf]
      rw [hbf] at hb
      symm
      rw [Bool.eq_false_iff]
      intro hall
      have hall := List.all_eq_true.1 hall
      have : ((a0.take j.toNat).all fun f => fitsF f i) = true := List.all_eq_true.2 fun f hf => hall f (List.mem_of_mem_take hf)
      rw [this] at hb
      cases hb
    · rw [List.take_of_length_le (by omega)] at hb
      exact hb
  · exact unfTo_last (by omega)
theorem f87_fn : f87_e.fn = f87 := rfl
theorem f87_ok : EntryOK Try.prog 87 f87_e := by
  refine entryF progOK (EnvOK.cons f136_ok (EnvOK.cons f134_ok (EnvOK.nil))) (A := f87_A) (d := 6) Try.func87 rfl rfl rfl (fun h => by cases h) fun x hpre => ?_
  obtain ⟨a0, a1⟩ := x
  exact f87_t a0 a1 hpre _ fun _ h => h.trans (congrFun f87_fn.symm _)
end Go.Proofs.Ytdhekhichomoiaa
end

section
namespace Go.Proofs.Ytdhekhichomoiaa
open Go Go.Pi Go.RowKit
set_option maxRecDepth 100000
set_option linter.unusedVariables false
set_option linter.unusedSimpArgs false

def f83 (x : List (Int × Int × Int) × Int) : List Int × Int := if f86 x ≠ 0 then ([], f86 x) else (unf x.1 x.2, 0)
def f83_pre (x : List (Int × Int × Int) × Int) : Prop := True
theorem f86_zero {x : List (Int × Int × Int) × Int} (h : f86 x = 0) : (x.1.length ≠ 0 ∧ x.1.length ≤ 8) ∧ (∀ f ∈ x.1, inF f = true) ∧ 0 ≤ x.2 ∧ x.2 ≤ 20000 := by
  unfold f86 at h
  split at h
  · simp at h
  · split at h
    · simp at h
    · split at h
      · split at h
        · rename_i h1 h2 h3 h4
          exact ⟨⟨h1, by omega⟩, List.all_eq_true.1 h3, h4⟩
        · simp at h
      · simp at h
theorem mem_unfTo {l : List (Int × Int × Int)} {limit i v : Int} : v ∈ unfTo l limit i ↔ (-limit ≤ v ∧ v < i) ∧ ∀ f ∈ l, fitsF f v = true := by
  unfold unfTo
  simp only [List.mem_filter, List.mem_map, List.mem_range, List.all_eq_true]
  constructor
  · rintro ⟨⟨k, hk, rfl⟩, h⟩
    exact ⟨⟨by omega, by omega⟩, h⟩
  · rintro ⟨⟨h1, h2⟩, h⟩
    exact ⟨⟨(v + limit).toNat, by omega, by omega⟩, h⟩
def f83_e : Entry := { doms := [(false, (.sl (.pair (.int .i64) (.pair (.int .i64) (.int .i64))))), (false, (.int .i64))], cods := [(false, (.sl (.int .i64))), (false, (.int .i64))], pre := f83_pre, fn := f83, uq := false, total := false }
def f83_E : Env := [(131, f131_e), (134, f134_e), (87, f87_e), (86, f86_e)]
def f83_A : Anns := { loops := [(1048576, { tms := [(0, .keep), (1, .keep), (7, .ref 1057795), (8, .ptr 1053698)], obs := [(1053698, .via 8 [.data (.int .i64)]), (1057795, .arr (.uniq) (.int .i64))], fz := [] }),
  (1161930903960682496, { tms := [(0, .keep), (1, .keep), (7, .keep), (8, .data false (.int .i64))], obs := [(1053698, .keep), (1057795, .keep)], fz := [] })], own := [] }
theorem f83_run (a0 : List (Int × Int × Int)) (a1 : Int) (K : (List Int × Int) → Prop) : runF Try.prog f83_E f83_A 6 Try.f83 f83_e.doms f83_e.cods (a0, a1) K =
    (br ((f131 (a0, a1)) != 0)
    (K (([] : List Int), (f131 (a0, a1))))
    (LoopP (V := Int × List Int × Unit) (fun again v => (fun (again1 : Int → List Int → Prop) (v1_0 : Int) (v1_1 : List Int) =>
    br (decide (v1_0 ≤ a1))
    (br (lenOk (a0.length))
    (LoopP (V := Int × Unit) (fun again v => (fun (again2 : Int → Prop) (v2_0 : Int) =>
    br (decide (v2_0 < ((a0.length) : Int)))
    (br (decide (0 ≤ v2_0) && decide (v2_0 < ((a0.length) : Int)))
    (f134_pre (((a0.getD v2_0.toNat (0, (0, 0))).1, ((a0.getD v2_0.toNat (0, (0, 0))).2)), v1_0) ∧
    br (!(f134 (((a0.getD v2_0.toNat (0, (0, 0))).1, ((a0.getD v2_0.toNat (0, (0, 0))).2)), v1_0)))
    (br (!(decide (v2_0 ≥ 0)))
    (br (roomOk ((v1_1.length) + 1) 8)
    (again1 (IntKind.i64.wrap (v1_0 + 1)) (v1_1 ++ ([v1_0] : List Int)))
    False)
    (again1 (IntKind.i64.wrap (v1_0 + 1)) v1_1))
    (again2 (IntKind.i64.wrap (v2_0 + 1))))
    False)
    (br (roomOk ((v1_1.length) + 1) 8)
    (again1 (IntKind.i64.wrap (v1_0 + 1)) (v1_1 ++ ([v1_0] : List Int)))
    False))
    (fun v2_0 => again (v2_0, ())) v.1) (0, ()))
    True)
    (K (v1_1, 0)))
    (fun v1_0 v1_1 => again (v1_0, v1_1, ())) v.1 v.2.1) ((IntKind.i64.wrap (0 - a1)), ([] : List Int), ()))) := by kernel_rfl
theorem f83_t (a0 : List (Int × Int × Int)) (a1 : Int) (hpre : f83_pre (a0, a1)) (K : (List Int × Int) → Prop) (hK : ∀ y : List Int × Int, y = f83 (a0, a1) → K y) : RunF Try.prog f83_E f83_A 6 Try.f83 f83_e.doms f83_e.cods (a0, a1) K := by
  refine ⟨?_⟩
  rw [f83_run a0 a1 K]
  have e131 : f131 (a0, a1) = f86 (a0, a1) := rfl
  rw [e131, br_both]
  refine ⟨fun h => hK _ ?_, fun h => ?_⟩
  · rw [f83, if_pos (by simpa using h)]
  have h0 : f86 (a0, a1) = 0 := by simpa using h
  obtain ⟨_, hin, hl0, hl1⟩ := f86_zero h0
  simp only at hin hl0 hl1
  rw [wr (n := 0 - a1) (by omega) (by omega), show (0 : Int) - a1 = -a1 by omega]
  refine LoopP.upFrom (-a1) (a1 + 1) (fun i v => v.1 = unfTo a0 a1 i) (fun again i v hi0 hn hI hag => ?_) (unfTo_first a0 a1).symm
  obtain ⟨out, u⟩ := v
  have hI : out = unfTo a0 a1 i := hI
  subst hI
  dsimp only
  rw [br_dec]
  refine ⟨fun hi => ?_, fun hi => hK _ ?_⟩
  · have hlen := unfTo_len a0 a1 i
    have hroom : roomOk ((unfTo a0 a1 i).length + 1) 8 = true := by rw [roomOk_iff]; omega
    have hst := unfTo_step (l := a0) hi0
    rw [br_true_, lenOk_iff]
    intro hl
    rw [wr (n := i + 1) (by omega) (by omega)]
    refine LoopP.up a0.length (fun j _ => ∀ f ∈ a0.take j.toNat, fitsF f i = true) (fun again2 j u2 hj0 hj1 hb hag2 => ?_) (by omega) all_zero
    dsimp only
    rw [br_dec]
    refine ⟨fun hj => ?_, fun hj => ?_⟩
    · have hjl : j.toNat < a0.length := by omega
      rw [br_false_]
      refine ⟨by simp; omega, ?_, ?_⟩
      · exact ⟨hin _ (by rw [getD_lt hjl]; exact List.getElem_mem _), by simp only; omega, by simp only; omega⟩
      · rw [br_both]
        refine ⟨fun hne => ?_, fun he => ?_⟩
        · rw [show decide (j ≥ 0) = true from decide_eq_true hj0]
          refine hag (_, ()) (by omega) ?_
          show _ = unfTo a0 a1 (i + 1)
          rw [hst, if_neg]
          intro hall
          have := List.all_eq_true.1 hall (a0.getD j.toNat (0, 0, 0)) (by rw [getD_lt hjl]; exact List.getElem_mem _)
          simp only [f134, Bool.not_eq_true'] at hne
          rw [this] at hne
          cases hne
        · rw [wr (by omega) (by omega)]
          refine hag2 () hj (all_step (d := (0, 0, 0)) hj0 hj hb ?_)
          simp only [f134, Bool.not_eq_false'] at he
          exact he
    · rw [br_false_]
      refine ⟨hroom, hag (_, ()) (by omega) ?_⟩
      show _ = unfTo a0 a1 (i + 1)
      rw [hst, if_pos (List.all_eq_true.2 (all_done hj hb))]
  · rw [f83, if_neg (by simpa using h0), ← unfTo_last (l := a0) (show i = a1 + 1 by omega)]
theorem f83_fn : f83_e.fn = f83 := rfl
theorem f83_ok : EntryOK Try.prog 83 f83_e := by
  refine entryF progOK (EnvOK.cons f131_ok (EnvOK.cons f134_ok (EnvOK.cons f87_ok (EnvOK.cons f86_ok (EnvOK.nil))))) (A := f83_A) (d := 6) Try.func83 rfl rfl rfl (fun h => by cases h) fun x hpre => ?_
  obtain ⟨a0, a1⟩ := x
  exact f83_t a0 a1 hpre _ fun _ h => h.trans (congrFun f83_fn.symm _)
end Go.Proofs.Ytdhekhichomoiaa
end

section
namespace Go.Proofs.Ytdhekhichomoiaa
open Go Go.Pi Go.RowKit
set_option maxRecDepth 100000
set_option linter.unusedVariables false
set_option linter.unusedSimpArgs false

def f84 (l : List (Int × Int × Int)) : List (Int × Int × Int) := l
def f84_pre (l : List (Int × Int × Int)) : Prop := l.length ≤ 100
def f84_e : Entry := { doms := [(false, (.sl (.pair (.int .i64) (.pair (.int .i64) (.int .i64)))))], cods := [(false, (.sl (.pair (.int .i64) (.pair (.int .i64) (.int .i64)))))], pre := f84_pre, fn := f84, uq := false, total := false }
def f84_E : Env := []
def f84_A : Anns := { loops := [], own := [] }
theorem f84_run (a0 : List (Int × Int × Int)) (K : (List (Int × Int × Int)) → Prop) : runF Try.prog f84_E f84_A 6 Try.f84 f84_e.doms f84_e.cods a0 K =
    (br (roomOk (0 + (a0.length)) 24)
    (K (([] : List (Int × Int × Int)) ++ a0))
    False) := by kernel_rfl
theorem f84_t (a0 : List (Int × Int × Int)) (hpre : f84_pre a0) (K : (List (Int × Int × Int)) → Prop) (hK : ∀ y : List (Int × Int × Int), y = f84 a0 → K y) : RunF Try.prog f84_E f84_A 6 Try.f84 f84_e.doms f84_e.cods a0 K := by
  refine ⟨?_⟩
  rw [f84_run a0 K]
  have h : a0.length ≤ 100 := hpre
  rw [br_false_, roomOk_iff]
  exact ⟨by omega, hK _ rfl⟩
theorem f84_fn : f84_e.fn = f84 := rfl
theorem f84_ok : EntryOK Try.prog 84 f84_e := by
  refine entryF progOK (EnvOK.nil) (A := f84_A) (d := 6) Try.func84 rfl rfl rfl (fun h => by cases h) fun x hpre => ?_
  exact f84_t x hpre _ fun _ h => h.trans (congrFun f84_fn.symm _)
end Go.Proofs.Ytdhekhichomoiaa
end

section
namespace Go.Proofs.Ytdhekhichomoiaa
open Go Go.Pi Go.RowKit
set_option maxRecDepth 100000
set_option linter.unusedVariables false
set_option linter.unusedSimpArgs false

def cmpL : List Int → List Int → Int
  | [], [] => 0
  | [], _ :: _ => -1
  | _ :: _, [] => 1
  | a :: r, b :: s => if a < b then -1 else if a > b then 1 else cmpL r s
def f135 (x : List Int × List Int) : Int := cmpL x.1 x.2
def f135_e : Entry := { doms := [(false, (.sl (.int .i64))), (false, (.sl (.int .i64)))], cods := [(false, (.int .i64))], pre := fun _ => True, fn := f135, uq := false, total := true }
def f135_E : Env := []
def f135_A : Anns := { loops := [(1048576, { tms := [(0, .keep), (1, .keep), (9, .keep), (10, .keep), (11, .data false (.int .i64))], obs := [], fz := [] })], own := [] }
theorem f135_run (a0 : List Int) (a1 : List Int) (K : Int → Prop) : runF Try.prog f135_E f135_A 6 Try.f135 f135_e.doms f135_e.cods (a0, a1) K =
    (br (lenOk (a0.length))
    (LoopP (V := Int × Unit) (fun again v => (fun (again1 : Int → Prop) (v1_0 : Int) =>
    br (decide (v1_0 < ((a0.length) : Int)))
    (br (decide (0 ≤ v1_0) && decide (v1_0 < ((a0.length) : Int)))
    (br (lenOk (a1.length))
    (br (decide (v1_0 ≥ ((a1.length) : Int)))
    (K 1)
    (br (decide (0 ≤ v1_0) && decide (v1_0 < ((a1.length) : Int)))
    (br ((a0.getD v1_0.toNat 0) != (a0.getD v1_0.toNat 0))
    (br ((a1.getD v1_0.toNat 0) != (a1.getD v1_0.toNat 0))
    (again1 (IntKind.i64.wrap (v1_0 + 1)))
    (K (-1)))
    (br ((a1.getD v1_0.toNat 0) != (a1.getD v1_0.toNat 0))
    (K 1)
    (br (decide ((a0.getD v1_0.toNat 0) < (a1.getD v1_0.toNat 0)))
    (K (-1))
    (br (decide ((a0.getD v1_0.toNat 0) > (a1.getD v1_0.toNat 0)))
    (K 1)
    (again1 (IntKind.i64.wrap (v1_0 + 1)))))))
    False))
    True)
    False)
    (br (lenOk (a0.length))
    (br (lenOk (a1.length))
    (br (decide (((a0.length) : Int) < ((a1.length) : Int)))
    (K (-1))
    (K 0))
    True)
    True))
    (fun v1_0 => again (v1_0, ())) v.1) (0, ()))
    True) := by kernel_rfl
theorem f135_t (a0 : List Int) (a1 : List Int) (K : Int → Prop) (hK : ∀ y : Int, y = f135 (a0, a1) → K y) : RunF Try.prog f135_E f135_A 6 Try.f135 f135_e.doms f135_e.cods (a0, a1) K := by
  refine ⟨?_⟩
  rw [f135_run a0 a1 K]
  rw [br_true_, lenOk_iff]
  intro hl
  refine LoopP.up a0.length (fun i _ => i ≤ a1.length ∧ cmpL a0 a1 = cmpL (a0.drop i.toNat) (a1.drop i.toNat)) (fun again i v hi0 hn hI hag => ?_) (by omega) ⟨by omega, by simp⟩
  obtain ⟨hI1, hI⟩ := hI
  simp only [br_true_, br_false_, br_dec, bne_self_eq_false, br_f]
  refine ⟨fun hi => ?_, fun hi _ _ => ⟨fun h => hK _ ?_, fun h => hK _ ?_⟩⟩
  · have l1 : i.toNat < a0.length := by omega
    have b0 : (decide (0 ≤ i) && decide (i < (a0.length : Int))) = true := by simp; omega
    refine ⟨b0, fun _ => ⟨fun hj => hK _ ?_, fun hj => ?_⟩⟩
    · have e : a1.length ≤ i.toNat := by omega
      rw [f135, hI, List.drop_eq_nil_of_le e, List.drop_eq_getElem_cons l1, cmpL]
    · have l2 : i.toNat < a1.length := by omega
      have b1 : (decide (0 ≤ i) && decide (i < (a1.length : Int))) = true := by simp; omega
      rw [List.drop_eq_getElem_cons l1, List.drop_eq_getElem_cons l2, cmpL] at hI
      rw [getD_lt l1, getD_lt l2]
      refine ⟨b1, fun h => hK _ ?_, fun h => ⟨fun h2 => hK _ ?_, fun h2 => ?_⟩⟩
      · rw [if_pos h] at hI; exact hI.symm
      · rw [if_neg h, if_pos h2] at hI; exact hI.symm
      · rw [if_neg h, if_neg h2] at hI
        rw [wr (by omega) (by omega)]
        exact hag () hi ⟨by omega, by rw [hI, show (i + 1).toNat = i.toNat + 1 by omega]⟩
  · have e : a0.length ≤ i.toNat := by omega
    have hj : i.toNat < a1.length := by omega
    rw [f135, hI, List.drop_eq_nil_of_le e, List.drop_eq_getElem_cons hj, cmpL]
  · have e : a0.length ≤ i.toNat := by omega
    rw [f135, hI, List.drop_eq_nil_of_le e, List.drop_eq_nil_of_le (by omega), cmpL]
theorem f135_fn : f135_e.fn = f135 := rfl
theorem f135_ok : EntryOK Try.prog 135 f135_e := by
  refine entryF progOK (EnvOK.nil) (A := f135_A) (d := 6) Try.func135 rfl rfl rfl (fun _ _ => trivial) fun x hpre => ?_
  obtain ⟨a0, a1⟩ := x
  exact f135_t a0 a1 _ fun _ h => h.trans (congrFun f135_fn.symm _)
end Go.Proofs.Ytdhekhichomoiaa
end

section
namespace Go.Proofs.Ytdhekhichomoiaa
open Go Go.Pi Go.RowKit
set_option maxRecDepth 100000
set_option linter.unusedVariables false
set_option linter.unusedSimpArgs false

def lexB : List Int → List Int → Bool
  | [], [] => false
  | [], _ :: _ => true
  | _ :: _, [] => false
  | a :: r, b :: s => if a = b then lexB r s else decide (a < b)
theorem lexB_nil_r : ∀ l : List Int, lexB l [] = false
  | [] => rfl
  | _ :: _ => rfl
def f137 (x : List Int × List Int) : Bool := lexB x.1 x.2
def f137_e : Entry := { doms := [(false, (.sl (.int .i64))), (false, (.sl (.int .i64)))], cods := [(false, .bool)], pre := fun _ => True, fn := f137, uq := false, total := true }
def f137_E : Env := []
def f137_A : Anns := { loops := [(1048576, { tms := [(0, .keep), (1, .keep), (5, .data false (.int .i64))], obs := [], fz := [] })], own := [] }
theorem f137_run (a0 : List Int) (a1 : List Int) (K : Bool → Prop) : runF Try.prog f137_E f137_A 6 Try.f137 f137_e.doms f137_e.cods (a0, a1) K =
    (LoopP (V := Int × Unit) (fun again v => (fun (again1 : Int → Prop) (v1_0 : Int) =>
    br (lenOk (a0.length))
    (br (decide (v1_0 < ((a0.length) : Int)))
    (br (lenOk (a1.length))
    (br (decide (v1_0 < ((a1.length) : Int)))
    (br (decide (0 ≤ v1_0) && decide (v1_0 < ((a0.length) : Int)))
    (br (decide (0 ≤ v1_0) && decide (v1_0 < ((a1.length) : Int)))
    (br ((a0.getD v1_0.toNat 0) != (a1.getD v1_0.toNat 0))
    (br (decide (0 ≤ v1_0) && decide (v1_0 < ((a0.length) : Int)))
    (br (decide (0 ≤ v1_0) && decide (v1_0 < ((a1.length) : Int)))
    (K (decide ((a0.getD v1_0.toNat 0) < (a1.getD v1_0.toNat 0))))
    False)
    False)
    (again1 (IntKind.i64.wrap (v1_0 + 1))))
    False)
    False)
    (br (lenOk (a0.length))
    (br (lenOk (a1.length))
    (K (decide (((a0.length) : Int) < ((a1.length) : Int))))
    True)
    True))
    True)
    (br (lenOk (a0.length))
    (br (lenOk (a1.length))
    (K (decide (((a0.length) : Int) < ((a1.length) : Int))))
    True)
    True))
    True)
    (fun v1_0 => again (v1_0, ())) v.1) (0, ())) := by kernel_rfl
theorem f137_t (a0 : List Int) (a1 : List Int) (K : Bool → Prop) (hK : ∀ y : Bool, y = f137 (a0, a1) → K y) : RunF Try.prog f137_E f137_A 6 Try.f137 f137_e.doms f137_e.cods (a0, a1) K := by
  refine ⟨?_⟩
  rw [f137_run a0 a1 K]
  refine LoopP.up a0.length (fun i _ => i ≤ a1.length ∧ lexB a0 a1 = lexB (a0.drop i.toNat) (a1.drop i.toNat)) (fun again i v hi0 hn hI hag => ?_) (by omega) ⟨by omega, by simp⟩
  obtain ⟨hI1, hI⟩ := hI
  simp only [br_true_, br_false_, br_dec, lenOk_iff]
  intro hl
  refine ⟨fun hi _ => ⟨fun hj => ?_, fun hj _ _ => hK _ ?_⟩, fun hi _ _ => hK _ ?_⟩
  · have l1 : i.toNat < a0.length := by omega
    have l2 : i.toNat < a1.length := by omega
    have b0 : (decide (0 ≤ i) && decide (i < (a0.length : Int))) = true := by simp; omega
    have b1 : (decide (0 ≤ i) && decide (i < (a1.length : Int))) = true := by simp; omega
    rw [List.drop_eq_getElem_cons l1, List.drop_eq_getElem_cons l2, lexB] at hI
    rw [getD_lt l1, getD_lt l2]
    refine ⟨b0, b1, br_both.2 ⟨fun hne => ⟨b0, b1, hK _ ?_⟩, fun he => ?_⟩⟩
    · have hne : a0[i.toNat] ≠ a1[i.toNat] := by simpa using hne
      rw [if_neg hne] at hI
      exact hI.symm
    · have he : a0[i.toNat] = a1[i.toNat] := by simpa using he
      rw [if_pos he] at hI
      rw [wr (by omega) (by omega)]
      exact hag () hi ⟨by omega, by rw [hI, show (i + 1).toNat = i.toNat + 1 by omega]⟩
  · have e : a1.length ≤ i.toNat := by omega
    rw [f137, hI, List.drop_eq_nil_of_le e, lexB_nil_r]
    simp
    omega
  · have e : a0.length ≤ i.toNat := by omega
    rw [f137, hI, List.drop_eq_nil_of_le e]
    by_cases hj : i.toNat < a1.length
    · rw [List.drop_eq_getElem_cons hj]
      simp [lexB]
      omega
    · rw [List.drop_eq_nil_of_le (by omega)]
      simp [lexB]
      omega
theorem f137_fn : f137_e.fn = f137 := rfl
theorem f137_ok : EntryOK Try.prog 137 f137_e := by
  refine entryF progOK (EnvOK.nil) (A := f137_A) (d := 6) Try.func137 rfl rfl rfl (fun _ _ => trivial) fun x hpre => ?_
  obtain ⟨a0, a1⟩ := x
  exact f137_t a0 a1 _ fun _ h => h.trans (congrFun f137_fn.symm _)
end Go.Proofs.Ytdhekhichomoiaa
end
