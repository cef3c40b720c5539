/- What functions of the program compute, each proved once, part 5. -/
import Derived.Test.YtdhekhichomoiaaPiC
import Derived.Test.YtdhekhichomoiaaFnA
import Derived.Test.YtdhekhichomoiaaFnD
import Derived.Test.YtdhekhichomoiaaFnB

section
namespace Go.Proofs.Ytdhekhichomoiaa
open Go Go.Pi Go.RowKit
set_option maxRecDepth 100000
set_option linter.unusedVariables false
set_option linter.unusedSimpArgs false

def f45 (x : (Int × Int × Int × List Int) × List (Int × Int) × Int × Int) : List (Int × Int) := f109 x
def f45_pre (x : (Int × Int × Int × List Int) × List (Int × Int) × Int × Int) : Prop := x.1.2.2.2.length ≤ 1048576
def f45_e : Entry := { doms := [(true, (.pair (.int .i64) (.pair (.int .i64) (.pair (.int .i64) (.sl (.int .i64)))))), (false, (.sl (.pair (.int .i64) (.int .i64)))), (false, (.int .i64)), (false, (.int .i64))], cods := [(false, (.sl (.pair (.int .i64) (.int .i64))))], pre := f45_pre, fn := f45, uq := false, total := false }
def f45_E : Env := [(18, f18_e), (109, f109_e), (110, f110_e)]
def f45_A : Anns := { loops := [(1048576, { tms := [(1, .keep), (2, .keep), (3, .keep), (4, .keep), (9, .ref 1057795), (10, .data false (.int .i64))], obs := [(1048576, .keep), (1057795, .arr (.uniq) (.pair (.int .i64) (.int .i64)))], fz := [] })], own := [] }
theorem f45_run (a0 : Int × Int × Int × List Int) (a1 : List (Int × Int)) (a2 : Int) (a3 : Int) (K : (List (Int × Int)) → Prop) : runF Try.prog f45_E f45_A 6 Try.f45 f45_e.doms f45_e.cods (a0, a1, a2, a3) K =
    (LoopP (V := Int × List (Int × Int) × Unit) (fun again v => (fun (again1 : Int → List (Int × Int) → Prop) (v1_0 : Int) (v1_1 : List (Int × Int)) =>
    br (lenOk (a0.2.2.2.length))
    (br (decide (v1_0 < ((a0.2.2.2.length) : Int)))
    (br (lenOk (a1.length))
    (br (f18 ((IntKind.i64.wrap ((IntKind.i64.wrap ((IntKind.i64.wrap (a0.1 + (IntKind.i64.wrap (a2 * a0.2.1)))) + v1_0)) + a3)), (0, (IntKind.i64.wrap (((a1.length) : Int) - 1)))))
    (br (decide (0 ≤ v1_0) && decide (v1_0 < ((a0.2.2.2.length) : Int)))
    (br (decide (0 ≤ (IntKind.i64.wrap ((IntKind.i64.wrap ((IntKind.i64.wrap (a0.1 + (IntKind.i64.wrap (a2 * a0.2.1)))) + v1_0)) + a3))) && decide ((IntKind.i64.wrap ((IntKind.i64.wrap ((IntKind.i64.wrap (a0.1 + (IntKind.i64.wrap (a2 * a0.2.1)))) + v1_0)) + a3)) < ((a1.length) : Int)))
    (br (decide (0 ≤ v1_0) && decide (v1_0 < ((a0.2.2.2.length) : Int)))
    (br (decide (0 ≤ (IntKind.i64.wrap ((IntKind.i64.wrap ((IntKind.i64.wrap (a0.1 + (IntKind.i64.wrap (a2 * a0.2.1)))) + v1_0)) + a3))) && decide ((IntKind.i64.wrap ((IntKind.i64.wrap ((IntKind.i64.wrap (a0.1 + (IntKind.i64.wrap (a2 * a0.2.1)))) + v1_0)) + a3)) < ((a1.length) : Int)))
    (br (roomOk ((v1_1.length) + 1) 16)
    (again1 (IntKind.i64.wrap (v1_0 + 1)) (v1_1 ++ ([((IntKind.i64.wrap ((a0.2.2.2.getD v1_0.toNat 0) * (a1.getD ((IntKind.i64.wrap ((IntKind.i64.wrap ((IntKind.i64.wrap (a0.1 + (IntKind.i64.wrap (a2 * a0.2.1)))) + v1_0)) + a3)).toNat) (0, 0)).1)), (IntKind.i64.wrap ((a0.2.2.2.getD v1_0.toNat 0) * (a1.getD ((IntKind.i64.wrap ((IntKind.i64.wrap ((IntKind.i64.wrap (a0.1 + (IntKind.i64.wrap (a2 * a0.2.1)))) + v1_0)) + a3)).toNat) (0, 0)).2)))] : List (Int × Int))))
    False)
    False)
    False)
    False)
    False)
    (br (roomOk ((v1_1.length) + 1) 16)
    (again1 (IntKind.i64.wrap (v1_0 + 1)) (v1_1 ++ ([(0, 0)] : List (Int × Int))))
    False))
    True)
    (K v1_1))
    True)
    (fun v1_0 v1_1 => again (v1_0, v1_1, ())) v.1 v.2.1) (0, ([] : List (Int × Int)), ())) := by kernel_rfl
theorem f45_t (a0 : Int × Int × Int × List Int) (a1 : List (Int × Int)) (a2 : Int) (a3 : Int) (hpre : f45_pre (a0, a1, a2, a3)) (K : (List (Int × Int)) → Prop) (hK : ∀ y : List (Int × Int), y = f45 (a0, a1, a2, a3) → K y) : RunF Try.prog f45_E f45_A 6 Try.f45 f45_e.doms f45_e.cods (a0, a1, a2, a3) K := by
  refine ⟨?_⟩
  rw [f45_run a0 a1 a2 a3 K]
  have hpl : a0.2.2.2.length ≤ 1048576 := hpre
  have h110 : IntKind.i64.wrap (a0.1 + IntKind.i64.wrap (a2 * a0.2.1)) = f110 (a0, a2) := rfl
  rw [h110]
  refine LoopP.up a0.2.2.2.length (fun i v => v.1 = (List.range i.toNat).map (cutAt a0 a1 a2 a3)) (fun again i v hi0 hn hI hag => ?_) (by omega) rfl
  obtain ⟨v, u⟩ := v
  simp only at hI hag ⊢
  subst hI
  rw [br_true_]
  intro _
  rw [br_both]
  refine ⟨fun hi => ?_, fun hi => hK _ ?_⟩
  · simp only [decide_eq_true_eq] at hi
    have hin : (decide (0 ≤ i) && decide (i < (a0.2.2.2.length : Int))) = true := by simp only [Bool.and_eq_true, decide_eq_true_eq]; exact ⟨hi0, hi⟩
    rw [hin]
    simp only [br_t]
    rw [br_true_, lenOk_iff]
    intro hll
    rw [wr (n := (a1.length : Int) - 1) (by omega) (by omega), wr (n := i + 1) (by omega) (by omega)]
    have hroom : roomOk (((List.range i.toNat).map (cutAt a0 a1 a2 a3)).length + 1) 16 = true := by rw [roomOk_iff]; simp; omega
    have hcast : ((i.toNat : Nat) : Int) = i := Int.toNat_of_nonneg hi0
    have next : ∀ z, z = cutAt a0 a1 a2 a3 i.toNat → again (i + 1, (List.range i.toNat).map (cutAt a0 a1 a2 a3) ++ [z], ()) := fun z hz => hag _ hi (by
      show _ = (List.range (i + 1).toNat).map (cutAt a0 a1 a2 a3)
      rw [← app_step hi0, hz])
    rw [br_both]
    refine ⟨fun h => ?_, fun h => ?_⟩
    · simp only [f18, Bool.and_eq_true, decide_eq_true_eq] at h
      rw [br_false_]
      refine ⟨by simp only [Bool.and_eq_true, decide_eq_true_eq]; omega, ?_⟩
      rw [br_false_]
      refine ⟨by simp only [Bool.and_eq_true, decide_eq_true_eq]; omega, ?_⟩
      rw [hroom, br_t]
      refine next _ ?_
      unfold cutAt
      rw [hcast]
      simp only
      rw [if_pos (by omega)]
    · simp only [f18, Bool.and_eq_false_iff, decide_eq_false_iff_not] at h
      rw [hroom, br_t]
      refine next _ ?_
      unfold cutAt
      rw [hcast]
      simp only
      rw [if_neg (by omega)]
  · simp only [decide_eq_false_iff_not] at hi
    rw [f45, f109, show i.toNat = a0.2.2.2.length by omega]
theorem f45_fn : f45_e.fn = f45 := rfl
theorem f45_ok : EntryOK Try.prog 45 f45_e := by
  refine entryF progOK (EnvOK.cons f18_ok (EnvOK.cons f109_ok (EnvOK.cons f110_ok (EnvOK.nil)))) (A := f45_A) (d := 6) Try.func45 rfl rfl (fun h => by cases h) fun x hpre => ?_
  obtain ⟨a0, a1, a2, a3⟩ := x
  exact f45_t a0 a1 a2 a3 hpre _ fun _ h => h.trans (congrFun f45_fn.symm _)
end Go.Proofs.Ytdhekhichomoiaa
end

section
namespace Go.Proofs.Ytdhekhichomoiaa
open Go Go.Pi Go.RowKit
set_option maxRecDepth 100000
set_option linter.unusedVariables false
set_option linter.unusedSimpArgs false

def f78 (x : Int × Int) : Int := if x.1.tmod x.2 < 0 then IntKind.i64.wrap (x.1.tmod x.2 + x.2) else x.1.tmod x.2
def f78_pre (x : Int × Int) : Prop := x.2 ≠ 0
def f78_e : Entry := { doms := [(false, (.int .i64)), (false, (.int .i64))], cods := [(false, (.int .i64))], pre := f78_pre, fn := f78, uq := false, total := false }
def f78_E : Env := []
def f78_A : Anns := { loops := [], own := [] }
theorem f78_run (a0 : Int) (a1 : Int) (K : Int → Prop) : runF Try.prog f78_E f78_A 6 Try.f78 f78_e.doms f78_e.cods (a0, a1) K =
    (br (!(decide (a1 = 0)))
    (br (decide ((a0.tmod a1) < 0))
    (K (IntKind.i64.wrap ((a0.tmod a1) + a1)))
    (K (a0.tmod a1)))
    False) := by kernel_rfl
theorem f78_t (a0 : Int) (a1 : Int) (hpre : f78_pre (a0, a1)) (K : Int → Prop) (hK : ∀ y : Int, y = f78 (a0, a1) → K y) : RunF Try.prog f78_E f78_A 6 Try.f78 f78_e.doms f78_e.cods (a0, a1) K := by
  refine ⟨?_⟩
  rw [f78_run a0 a1 K]
  have h : (!(decide (a1 = 0))) = true := by
    have h1 : a1 ≠ 0 := hpre
    simpa using h1
  rw [br_false_]
  refine ⟨h, ?_⟩
  rw [br_dec]
  exact ⟨fun h => hK _ (by simp [f78, h]), fun h => hK _ (by simp [f78, h])⟩
theorem f78_fn : f78_e.fn = f78 := rfl
theorem f78_ok : EntryOK Try.prog 78 f78_e := by
  refine entryF progOK (EnvOK.nil) (A := f78_A) (d := 6) Try.func78 rfl rfl (fun h => by cases h) fun x hpre => ?_
  obtain ⟨a0, a1⟩ := x
  exact f78_t a0 a1 hpre _ fun _ h => h.trans (congrFun f78_fn.symm _)
theorem f78_four (t : Int) : 0 ≤ f78 (t, 4) ∧ f78 (t, 4) < 4 := by
  have h1 : t.tmod 4 < 4 := Int.tmod_lt_of_pos t (by omega)
  have h2 : -4 < t.tmod 4 := by
    have := Int.lt_tmod_of_pos t (show (0 : Int) < 4 by omega)
    omega
  simp only [f78]
  split
  · rw [wr (by omega) (by omega)]
    omega
  · omega
theorem f78_nonneg {t : Int} (h : 0 ≤ t) : f78 (t, 4) = t.tmod 4 := by
  have : 0 ≤ t.tmod 4 := Int.tmod_nonneg 4 h
  simp only [f78]
  rw [if_neg (by omega)]
end Go.Proofs.Ytdhekhichomoiaa
end

section
namespace Go.Proofs.Ytdhekhichomoiaa
open Go Go.Pi Go.RowKit
set_option maxRecDepth 100000
set_option linter.unusedVariables false
set_option linter.unusedSimpArgs false

def rot1 (z : Int × Int) : Int × Int := (z.2, IntKind.i64.wrap (0 - z.1))
def rotN : Nat → (Int × Int) → Int × Int
  | 0, z => z
  | k + 1, z => rot1 (rotN k z)
def f52 (x : (Int × Int) × Int) : Int × Int := rotN (f78 (x.2, 4)).toNat x.1
def f52_e : Entry := { doms := [(true, (.pair (.int .i64) (.int .i64))), (false, (.int .i64))], cods := [(true, (.pair (.int .i64) (.int .i64)))], pre := fun _ => True, fn := f52, uq := false, total := true }
def f52_E : Env := [(78, f78_e), (98, f98_e)]
def f52_A : Anns := { loops := [(1048576, { tms := [(1, .keep), (2, .keep), (4, .keep), (5, .data false (.int .i64))], obs := [(1048576, .cells [.data (.int .i64), .data (.int .i64)]), (1048577, .keep)], fz := [] })], own := [] }
theorem f52_run (a0 : Int × Int) (a1 : Int) (K : (Int × Int) → Prop) : runF Try.prog f52_E f52_A 6 Try.f52 f52_e.doms f52_e.cods (a0, a1) K =
    (LoopP (V := Int × Int × Int × Unit) (fun again v => (fun (again1 : Int → Int → Int → Prop) (v1_0 : Int) (v1_1 : Int) (v1_2 : Int) =>
    f78_pre (a1, 4) ∧
    br (decide (v1_0 < (f78 (a1, 4))))
    (again1 (IntKind.i64.wrap (v1_0 + 1)) v1_2 (IntKind.i64.wrap (0 - v1_1)))
    (K (v1_1, v1_2)))
    (fun v1_0 v1_1 v1_2 => again (v1_0, v1_1, v1_2, ())) v.1 v.2.1 v.2.2.1) (0, a0.1, a0.2, ())) := by kernel_rfl
theorem f52_t (a0 : Int × Int) (a1 : Int) (K : (Int × Int) → Prop) (hK : ∀ y : Int × Int, y = f52 (a0, a1) → K y) : RunF Try.prog f52_E f52_A 6 Try.f52 f52_e.doms f52_e.cods (a0, a1) K := by
  refine ⟨?_⟩
  rw [f52_run a0 a1 K]
  have h4 := f78_four a1
  refine LoopP.up (f78 (a1, 4)) (fun i v => (v.1, v.2.1) = rotN i.toNat a0) (fun again i v hi0 hn hI hag => ?_) h4.1 rfl
  obtain ⟨v1, v2, u⟩ := v
  simp only at hI hag ⊢
  refine ⟨by simp [f78_pre], ?_⟩
  rw [br_dec]
  refine ⟨fun hi => ?_, fun hi => hK _ ?_⟩
  · rw [wr (by omega) (by omega)]
    refine hag _ hi ?_
    show (_, _) = _
    rw [show (i + 1).toNat = i.toNat + 1 by omega]
    show _ = rot1 (rotN i.toNat a0)
    rw [← hI]
    rfl
  · rw [hI]
    unfold f52
    simp only
    rw [show i = f78 (a1, 4) by omega]
theorem f52_fn : f52_e.fn = f52 := rfl
theorem f52_ok : EntryOK Try.prog 52 f52_e := by
  refine entryF progOK (EnvOK.cons f78_ok (EnvOK.cons f98_ok (EnvOK.nil))) (A := f52_A) (d := 6) Try.func52 rfl rfl (fun _ _ => trivial) fun x hpre => ?_
  obtain ⟨a0, a1⟩ := x
  exact f52_t a0 a1 _ fun _ h => h.trans (congrFun f52_fn.symm _)
/-- Turned by a table, or step by step. -/
theorem turn_eq {z : Int × Int} {p : Int} (hp : 0 ≤ p) (h1 : -9223372036854775808 ≤ z.1) (h2 : z.1 ≤ 9223372036854775807) : f98 (z, p) = f52 (z, p) := by
  obtain ⟨a, b⟩ := z
  simp only at h1 h2
  unfold f98 f52
  simp only
  rw [f78_nonneg hp]
  have h0 : 0 ≤ p.tmod 4 := Int.tmod_nonneg 4 hp
  have h3 : p.tmod 4 < 4 := Int.tmod_lt_of_pos p (by omega)
  generalize hk : (p.tmod 4).toNat = k
  have hk4 : k < 4 := by omega
  match k, hk4 with
  | 0, _ => rfl
  | 1, _ => rfl
  | 2, _ => rfl
  | 3, _ =>
    show _ = rot1 (rot1 (rot1 (a, b)))
    simp only [rot1, wrap_sub_r]
    rw [show (0 : Int) - (0 - a) = a by omega, wr h1 h2]
end Go.Proofs.Ytdhekhichomoiaa
end

section
namespace Go.Proofs.Ytdhekhichomoiaa
open Go Go.Pi Go.RowKit
set_option maxRecDepth 100000
set_option linter.unusedVariables false
set_option linter.unusedSimpArgs false

def f80 (x : (Int × Int) × (Int × Int)) : Int × Int := f126 x
def f80_e : Entry := { doms := [(true, (.pair (.int .i64) (.int .i64))), (true, (.pair (.int .i64) (.int .i64)))], cods := [(true, (.pair (.int .i64) (.int .i64)))], pre := fun _ => True, fn := f80, uq := false, total := true }
def f80_E : Env := [(126, f126_e)]
def f80_A : Anns := { loops := [], own := [] }
theorem f80_run (a0 : Int × Int) (a1 : Int × Int) (K : (Int × Int) → Prop) : runF Try.prog f80_E f80_A 6 Try.f80 f80_e.doms f80_e.cods (a0, a1) K =
    (K ((IntKind.i64.wrap (a0.1 + a1.1)), (IntKind.i64.wrap (a0.2 + a1.2)))) := by kernel_rfl
theorem f80_t (a0 : Int × Int) (a1 : Int × Int) (K : (Int × Int) → Prop) (hK : ∀ y : Int × Int, y = f80 (a0, a1) → K y) : RunF Try.prog f80_E f80_A 6 Try.f80 f80_e.doms f80_e.cods (a0, a1) K := by
  refine ⟨?_⟩
  rw [f80_run a0 a1 K]
  exact hK _ (by simp only [f80, f126])
theorem f80_fn : f80_e.fn = f80 := rfl
theorem f80_ok : EntryOK Try.prog 80 f80_e := by
  refine entryF progOK (EnvOK.cons f126_ok (EnvOK.nil)) (A := f80_A) (d := 6) Try.func80 rfl rfl (fun _ _ => trivial) fun x hpre => ?_
  obtain ⟨a0, a1⟩ := x
  exact f80_t a0 a1 _ fun _ h => h.trans (congrFun f80_fn.symm _)
end Go.Proofs.Ytdhekhichomoiaa
end

section
namespace Go.Proofs.Ytdhekhichomoiaa
open Go Go.Pi Go.RowKit
set_option maxRecDepth 100000
set_option linter.unusedVariables false
set_option linter.unusedSimpArgs false

/-- Samples mixed down. -/
def mixAt (l : List (Int × Int)) (q : Int) (j : Nat) : Int × Int := f98 (l.getD j (0, 0), j * q)
def f25 (x : List (Int × Int) × Int) : List (Int × Int) × Int :=
  if f42 ((f33 x.1).2, if 0 ≤ x.2 ∧ x.2 ≤ 3 then 0 else 2) ≠ 0 then ([], f42 ((f33 x.1).2, if 0 ≤ x.2 ∧ x.2 ≤ 3 then 0 else 2))
  else ((List.range x.1.length).map (mixAt x.1 x.2), 0)
def f25_e : Entry := { doms := [(false, (.sl (.pair (.int .i64) (.int .i64)))), (false, (.int .i64))], cods := [(false, (.sl (.pair (.int .i64) (.int .i64)))), (false, (.int .i64))], pre := fun _ => True, fn := f25, uq := false, total := true }
def f25_E : Env := [(93, f93_e), (94, f94_e), (95, f95_e), (97, f97_e), (98, f98_e), (42, f42_e)]
def f25_A : Anns := { loops := [(1048576, { tms := [(1, .keep), (7, .ref 1056775), (20, .keep), (21, .keep), (22, .data false (.int .i64))], obs := [(1056775, .arr (.uniq) (.pair (.int .i64) (.int .i64)))], fz := [] })], own := [] }
theorem f25_run (a0 : List (Int × Int)) (a1 : Int) (K : (List (Int × Int) × Int) → Prop) : runF Try.prog f25_E f25_A 6 Try.f25 f25_e.doms f25_e.cods (a0, a1) K =
    (br ((f93 ([(f97 a0), (f94 ((f95 (a1, (0, 3))), 2))] : List Int)) != 0)
    (K (([] : List (Int × Int)), (f93 ([(f97 a0), (f94 ((f95 (a1, (0, 3))), 2))] : List Int))))
    (br (lenOk (a0.length))
    (LoopP (V := Int × List (Int × Int) × Unit) (fun again v => (fun (again1 : Int → List (Int × Int) → Prop) (v1_0 : Int) (v1_1 : List (Int × Int)) =>
    br (decide (v1_0 < ((a0.length) : Int)))
    (br (decide (0 ≤ v1_0) && decide (v1_0 < ((a0.length) : Int)))
    (f98_pre ((a0.getD v1_0.toNat (0, 0)), (IntKind.i64.wrap (v1_0 * a1))) ∧
    br (roomOk ((v1_1.length) + 1) 16)
    (again1 (IntKind.i64.wrap (v1_0 + 1)) (v1_1 ++ ([(f98 ((a0.getD v1_0.toNat (0, 0)), (IntKind.i64.wrap (v1_0 * a1))))] : List (Int × Int))))
    False)
    False)
    (K (v1_1, 0)))
    (fun v1_0 v1_1 => again (v1_0, v1_1, ())) v.1 v.2.1) (0, ([] : List (Int × Int)), ()))
    True)) := by kernel_rfl
theorem f25_t (a0 : List (Int × Int)) (a1 : Int) (K : (List (Int × Int) × Int) → Prop) (hK : ∀ y : List (Int × Int) × Int, y = f25 (a0, a1) → K y) : RunF Try.prog f25_E f25_A 6 Try.f25 f25_e.doms f25_e.cods (a0, a1) K := by
  refine ⟨?_⟩
  rw [f25_run a0 a1 K]
  have e : f93 [f97 a0, f94 (f95 (a1, 0, 3), 2)] = f42 ((f33 a0).2, if 0 ≤ a1 ∧ a1 ≤ 3 then 0 else 2) := by
    simp only [f93_cons, f93_nil, f97, f94, f95, f42, Bool.and_eq_true, decide_eq_true_eq]
    by_cases h : (f33 a0).2 = 0 <;> by_cases h2 : 0 ≤ a1 ∧ a1 ≤ 3 <;> simp [h, h2]
  rw [e, br_both]
  refine ⟨fun h => hK _ (by have h : f42 ((f33 a0).2, if 0 ≤ a1 ∧ a1 ≤ 3 then 0 else 2) ≠ 0 := by simpa using h
                            rw [f25, if_pos h]), fun h => ?_⟩
  have h : f42 ((f33 a0).2, if 0 ≤ a1 ∧ a1 ≤ 3 then 0 else 2) = 0 := by simpa using h
  have h2 : (f33 a0).2 = 0 ∧ (0 ≤ a1 ∧ a1 ≤ 3) := by
    simp only [f42] at h
    split at h
    · rename_i hh; exact absurd h hh
    · rename_i hh
      refine ⟨by simpa using hh, ?_⟩
      split at h
      · assumption
      · simp at h
  obtain ⟨hb, hq0, hq3⟩ := h2
  obtain ⟨hl0, hl48, _⟩ := blk_ok hb
  rw [br_true_]
  intro _
  refine LoopP.up a0.length (fun i v => v.1 = (List.range i.toNat).map (mixAt a0 a1)) (fun again i v hi0 hn hI hag => ?_) (by omega) rfl
  obtain ⟨v, u⟩ := v
  simp only at hI hag ⊢
  subst hI
  rw [br_both]
  refine ⟨fun hi => ?_, fun hi => hK _ ?_⟩
  · simp only [decide_eq_true_eq] at hi
    have hm : 0 ≤ i * a1 := Int.mul_nonneg hi0 hq0
    have hm2 : i * a1 ≤ 48 * 3 := Int.mul_le_mul (by omega) hq3 hq0 (by omega)
    rw [wr (n := i * a1) (by omega) (by omega), wr (n := i + 1) (by omega) (by omega)]
    simp only [br_false_, Bool.and_eq_true, decide_eq_true_eq]
    refine ⟨⟨hi0, hi⟩, hm, by rw [roomOk_iff]; simp; omega, hag _ hi ?_⟩
    show _ = (List.range (i + 1).toNat).map (mixAt a0 a1)
    rw [← app_step hi0]
    congr 2
    unfold mixAt
    rw [Int.toNat_of_nonneg hi0]
  · simp only [decide_eq_false_iff_not] at hi
    rw [f25, if_neg (fun hh => hh h), show i.toNat = a0.length by omega]
theorem f25_fn : f25_e.fn = f25 := rfl
theorem f25_ok : EntryOK Try.prog 25 f25_e := by
  refine entryF progOK (EnvOK.cons f93_ok (EnvOK.cons f94_ok (EnvOK.cons f95_ok (EnvOK.cons f97_ok (EnvOK.cons f98_ok (EnvOK.cons f42_ok (EnvOK.nil))))))) (A := f25_A) (d := 6) Try.func25 rfl rfl (fun _ _ => trivial) fun x hpre => ?_
  obtain ⟨a0, a1⟩ := x
  exact f25_t a0 a1 _ fun _ h => h.trans (congrFun f25_fn.symm _)
end Go.Proofs.Ytdhekhichomoiaa
end

section
namespace Go.Proofs.Ytdhekhichomoiaa
open Go Go.Pi Go.RowKit
set_option maxRecDepth 100000
set_option linter.unusedVariables false
set_option linter.unusedSimpArgs false

def f51 (l : List (Int × Int)) : ((Int × Int) × (Int × Int) × (Int × Int) × Int × Int) × Int := if (f33 l).2 ≠ 0 then (((0, 0), (0, 0), (0, 0), 0, 0), (f33 l).2) else (f113 l, 0)
def f51_e : Entry := { doms := [(false, (.sl (.pair (.int .i64) (.int .i64))))], cods := [(true, (.pair (.pair (.int .i64) (.int .i64)) (.pair (.pair (.int .i64) (.int .i64)) (.pair (.pair (.int .i64) (.int .i64)) (.pair (.int .i64) (.int .i64)))))), (false, (.int .i64))], pre := fun _ => True, fn := f51, uq := false, total := true }
def f51_E : Env := [(97, f97_e), (113, f113_e)]
def f51_A : Anns := { loops := [], own := [] }
theorem f51_run (a0 : List (Int × Int)) (K : (((Int × Int) × (Int × Int) × (Int × Int) × Int × Int) × Int) → Prop) : runF Try.prog f51_E f51_A 6 Try.f51 f51_e.doms f51_e.cods a0 K =
    (br ((f97 a0) != 0)
    (K (((0, 0), ((0, 0), ((0, 0), (0, 0)))), (f97 a0)))
    (f113_pre a0 ∧
    K ((((f113 a0).1), ((((f113 a0).2).1), (((((f113 a0).2).2).1), ((((f113 a0).2).2).2)))), 0))) := by kernel_rfl
theorem f51_t (a0 : List (Int × Int)) (K : (((Int × Int) × (Int × Int) × (Int × Int) × Int × Int) × Int) → Prop) (hK : ∀ y : ((Int × Int) × (Int × Int) × (Int × Int) × Int × Int) × Int, y = f51 a0 → K y) : RunF Try.prog f51_E f51_A 6 Try.f51 f51_e.doms f51_e.cods a0 K := by
  refine ⟨?_⟩
  rw [f51_run a0 K]
  rw [br_both]
  refine ⟨fun h => hK _ ?_, fun h => ?_⟩
  · have h : (f33 a0).2 ≠ 0 := by simpa [f97] using h
    rw [f51, if_pos h]
    rfl
  · have h : (f33 a0).2 = 0 := by simpa [f97] using h
    refine ⟨by have := blk_ok h; show a0.length ≤ _; omega, hK _ ?_⟩
    rw [f51, if_neg (fun hh => hh h)]
theorem f51_fn : f51_e.fn = f51 := rfl
theorem f51_ok : EntryOK Try.prog 51 f51_e := by
  refine entryF progOK (EnvOK.cons f97_ok (EnvOK.cons f113_ok (EnvOK.nil))) (A := f51_A) (d := 6) Try.func51 rfl rfl (fun _ _ => trivial) fun x hpre => ?_
  exact f51_t x _ fun _ h => h.trans (congrFun f51_fn.symm _)
end Go.Proofs.Ytdhekhichomoiaa
end

section
namespace Go.Proofs.Ytdhekhichomoiaa
open Go Go.Pi Go.RowKit
set_option linter.unusedVariables false
set_option linter.unusedSimpArgs false

def inR (z : Int × Int) : Prop := (-9223372036854775808 ≤ z.1 ∧ z.1 ≤ 9223372036854775807) ∧ (-9223372036854775808 ≤ z.2 ∧ z.2 ≤ 9223372036854775807)

theorem wrap_range (n : Int) : -9223372036854775808 ≤ IntKind.i64.wrap n ∧ IntKind.i64.wrap n ≤ 9223372036854775807 := by
  rw [wrap_def]
  omega
theorem inR_rot1 {z : Int × Int} (h : inR z) : inR (rot1 z) := ⟨h.2, wrap_range _⟩
theorem inR_rotN {z : Int × Int} (h : inR z) : ∀ k, inR (rotN k z)
  | 0 => h
  | k + 1 => inR_rot1 (inR_rotN h k)
theorem rotN_add (m n : Nat) (z : Int × Int) : rotN (m + n) z = rotN m (rotN n z) := by
  induction m with
  | zero => rw [Nat.zero_add]; rfl
  | succ m ih => rw [Nat.add_right_comm]; show rot1 _ = rot1 _; rw [ih]
theorem rot4 {z : Int × Int} (h : inR z) : rotN 4 z = z := by
  obtain ⟨a, b⟩ := z
  show rot1 (rot1 (rot1 (rot1 (a, b)))) = _
  simp only [rot1, wrap_sub_r]
  rw [show (0 : Int) - (0 - a) = a by omega, show (0 : Int) - (0 - b) = b by omega, wr h.1.1 h.1.2, wr h.2.1 h.2.2]
theorem rot4k {z : Int × Int} (h : inR z) : ∀ k, rotN (4 * k) z = z
  | 0 => rfl
  | k + 1 => by rw [Nat.mul_add, Nat.mul_one, rotN_add, rot4 h, rot4k h k]
theorem rot_mod {z : Int × Int} (h : inR z) (n : Nat) : rotN n z = rotN (n % 4) z := by
  conv => lhs; rw [← Nat.mod_add_div n 4]
  rw [rotN_add, rot4k h]
theorem rot_eq {z : Int × Int} (h : inR z) {m n : Nat} (e : m % 4 = n % 4) : rotN m z = rotN n z := by rw [rot_mod h m, rot_mod h n, e]

theorem f98_nat {z : Int × Int} (h : inR z) (n : Nat) : f98 (z, (n : Int)) = rotN n z := by
  rw [turn_eq (by omega) h.1.1 h.1.2, rot_mod h n, f52]
  simp only
  rw [f78_nonneg (by omega)]
  congr 1
theorem f52_nat {z : Int × Int} (h : inR z) (n : Nat) : f52 (z, (n : Int)) = rotN n z := by
  rw [← turn_eq (by omega) h.1.1 h.1.2, f98_nat h]

theorem rot1_add (x y : Int × Int) : rot1 (f126 (x, y)) = f126 (rot1 x, rot1 y) := by
  simp only [rot1, f126, wrap_sub_r, wrap_add_l, wrap_add_r]
  congr 2
  omega
theorem rotN_addp (k : Nat) (x y : Int × Int) : rotN k (f126 (x, y)) = f126 (rotN k x, rotN k y) := by
  induction k with
  | zero => rfl
  | succ k ih => show rot1 _ = f126 (rot1 _, rot1 _); rw [ih, rot1_add]
theorem rotN_zero (k : Nat) : rotN k (0, 0) = (0, 0) := by
  induction k with
  | zero => rfl
  | succ k ih => show rot1 _ = _; rw [ih]; simp [rot1, wrap_zero]
theorem mul_rot1 (a b : Int × Int) : f127 (rot1 a, rot1 b) = f127 (a, b) := by
  simp only [f127, rot1, wrap_sub_l, wrap_sub_r, wrap_mul_l, wrap_mul_r, wrap_add_l, wrap_add_r]
  congr 2 <;> grind
theorem mul_rotN (k : Nat) (a b : Int × Int) : f127 (rotN k a, rotN k b) = f127 (a, b) := by
  induction k with
  | zero => rfl
  | succ k ih => show f127 (rot1 _, rot1 _) = _; rw [mul_rot1, ih]
theorem mul_right1 (a b : Int × Int) : f127 (a, rot1 b) = rot1 (f127 (a, b)) := by
  simp only [f127, rot1, wrap_sub_l, wrap_sub_r, wrap_mul_l, wrap_mul_r, wrap_add_l, wrap_add_r]
  congr 2 <;> grind
theorem mul_right (k : Nat) (a b : Int × Int) : f127 (a, rotN k b) = rotN k (f127 (a, b)) := by
  induction k with
  | zero => rfl
  | succ k ih => show f127 (a, rot1 _) = rot1 _; rw [mul_right1, ih]

theorem sumN_congr {g h : Nat → Int × Int} : ∀ {n : Nat}, (∀ k, k < n → g k = h k) → sumN g n = sumN h n
  | 0, _ => rfl
  | n + 1, e => by
    show f126 (_, _) = f126 (_, _)
    rw [sumN_congr fun k hk => e k (by omega), e n (by omega)]
theorem sumN_rot (s : Nat) (g : Nat → Int × Int) : ∀ n, sumN (fun k => rotN s (g k)) n = rotN s (sumN g n)
  | 0 => (rotN_zero s).symm
  | n + 1 => by
    show f126 (_, _) = rotN s (f126 (_, _))
    rw [sumN_rot s g n, rotN_addp]
theorem inR_sumN (g : Nat → Int × Int) : ∀ n, inR (sumN g n)
  | 0 => by simp [sumN, inR]
  | n + 1 => ⟨wrap_range _, wrap_range _⟩

/-! ### a valid block, mixed down -/
section
variable {l : List (Int × Int)}

theorem blk_in (hB : (f33 l).2 = 0) (j : Nat) : inR (l.getD j (0, 0)) := by
  obtain ⟨_, _, h⟩ := blk_ok hB
  by_cases hj : j < l.length
  · have := h _ (by rw [getD_lt (d := ((0 : Int), (0 : Int))) hj]; exact List.getElem_mem hj : l.getD j (0, 0) ∈ l)
    simp only [inR]
    omega
  · have : l.getD j (0, 0) = (0, 0) := by simp [List.getD_eq_getElem?_getD, List.getElem?_eq_none (Nat.le_of_not_lt hj)]
    rw [this]
    simp [inR]

def mixed (l : List (Int × Int)) (q : Nat) : List (Int × Int) := (List.range l.length).map (mixAt l q)
theorem mixed_length (q : Nat) : (mixed l q).length = l.length := by simp [mixed]
theorem mixed_get (hB : (f33 l).2 = 0) (q : Nat) {j : Nat} (hj : j < l.length) : (mixed l q).getD j (0, 0) = rotN (j * q) (l.getD j (0, 0)) := by
  rw [getD_lt (by rw [mixed_length]; exact hj)]
  simp only [mixed, List.getElem_map, List.getElem_range, mixAt]
  rw [← Int.natCast_mul, f98_nat (blk_in hB j)]

theorem small_rot {z : Int × Int} (h : -1000 ≤ z.1 ∧ z.1 ≤ 1000 ∧ -1000 ≤ z.2 ∧ z.2 ≤ 1000) : ∀ k, -1000 ≤ (rotN k z).1 ∧ (rotN k z).1 ≤ 1000 ∧ -1000 ≤ (rotN k z).2 ∧ (rotN k z).2 ≤ 1000
  | 0 => h
  | k + 1 => by
    have := small_rot h k
    show -1000 ≤ (rotN k z).2 ∧ (rotN k z).2 ≤ 1000 ∧ -1000 ≤ IntKind.i64.wrap (0 - (rotN k z).1) ∧ IntKind.i64.wrap (0 - (rotN k z).1) ≤ 1000
    rw [wr (by omega) (by omega)]
    omega

theorem mixed_ok (hB : (f33 l).2 = 0) (q : Nat) : (f33 (mixed l q)).2 = 0 := by
  obtain ⟨h0, h48, h⟩ := blk_ok hB
  unfold f33
  rw [mixed_length, if_neg (by omega), if_neg (by omega)]
  have : (mixed l q).findIdx? (fun g => !f103 g) = none := by
    rw [List.findIdx?_eq_none_iff]
    intro x hx
    obtain ⟨j, hj, rfl⟩ := List.getElem_of_mem hx
    rw [mixed_length] at hj
    rw [← getD_lt (d := ((0 : Int), (0 : Int))), mixed_get hB q hj]
    have := small_rot (h _ (by rw [getD_lt (d := ((0 : Int), (0 : Int))) hj]; exact List.getElem_mem hj : l.getD j (0, 0) ∈ l)) (j * q)
    simp only [f103, szd, Bool.not_eq_false', Bool.and_eq_true, decide_eq_true_eq]
    omega
  rw [this]

theorem mixed_back (hB : (f33 l).2 = 0) (q r : Nat) (h : (q + r) % 4 = 0) : mixed (mixed l q) r = l := by
  apply List.ext_getElem (by simp [mixed_length])
  intro j h1 h2
  rw [← getD_lt (d := ((0 : Int), (0 : Int))), ← getD_lt (d := ((0 : Int), (0 : Int))), mixed_get (mixed_ok hB q) r (by rw [mixed_length]; exact h2), mixed_get hB q h2, ← rotN_add, ← Nat.mul_add]
  rw [rot_eq (blk_in hB j) (n := 0)]
  · rfl
  · rw [Nat.mul_mod, Nat.add_comm r q, h]; simp

theorem mixed_line (hB : (f33 l).2 = 0) (q n : Nat) : lineAt (mixed l q) n = lineAt l ((n + q) % 4) := by
  unfold lineAt
  rw [mixed_length]
  refine sumN_congr fun j hj => ?_
  rw [f98_nat (blk_in (mixed_ok hB q) j), f98_nat (blk_in hB j), mixed_get hB q hj, ← rotN_add, ← Nat.mul_add]
  refine rot_eq (blk_in hB j) ?_
  simp [Nat.mul_mod]

theorem mixed_cor (hB : (f33 l).2 = 0) (q lag : Nat) : f99 (mixed l q, (lag : Int)) = f52 (f99 (l, (lag : Int)), ((lag * q : Nat) : Int)) := by
  unfold f99
  rw [f52_nat (inR_sumN _ _)]
  simp only [mixed_length, Int.toNat_natCast]
  rw [← sumN_rot]
  refine sumN_congr fun k hk => ?_
  unfold corAt
  simp only [Int.toNat_natCast]
  rw [mixed_get hB q (by omega), mixed_get hB q (by omega), Nat.add_mul, rotN_add, mul_rotN, mul_right]
end
end Go.Proofs.Ytdhekhichomoiaa
end

section
namespace Go.Proofs.Ytdhekhichomoiaa
open Go Go.Pi Go.RowKit
set_option maxRecDepth 100000
set_option linter.unusedVariables false
set_option linter.unusedSimpArgs false

def f64 (l : List (Int × Int)) : (Int × Int) × (Int × Int) × (Int × Int) × Int × Int := f113 l
def f64_pre (l : List (Int × Int)) : Prop := l.length ≤ 1048576 ∧ ∀ j, inR (l.getD j (0, 0))
def f64_e : Entry := { doms := [(false, (.sl (.pair (.int .i64) (.int .i64))))], cods := [(true, (.pair (.pair (.int .i64) (.int .i64)) (.pair (.pair (.int .i64) (.int .i64)) (.pair (.pair (.int .i64) (.int .i64)) (.pair (.int .i64) (.int .i64))))))], pre := f64_pre, fn := f64, uq := false, total := false }
def f64_E : Env := [(52, f52_e), (80, f80_e), (113, f113_e)]
def f64_A : Anns := { loops := [(1048576, { tms := [(0, .keep), (2, .keep), (3, .keep), (4, .data false (.int .i64))], obs := [(1048576, .keep), (1049600, .arr (.fixed 4) (.pair (.int .i64) (.int .i64)))], fz := [] }),
  (1048578, { tms := [(0, .keep), (2, .keep), (3, .keep), (4, .keep), (5, .data false (.int .i64))], obs := [(1048576, .keep), (1049600, .arr (.fixed 4) (.pair (.int .i64) (.int .i64)))], fz := [] })], own := [] }
theorem f64_run (a0 : List (Int × Int)) (K : ((Int × Int) × (Int × Int) × (Int × Int) × Int × Int) → Prop) : runF Try.prog f64_E f64_A 6 Try.f64 f64_e.doms f64_e.cods a0 K =
    (LoopP (V := Int × List (Int × Int) × Unit) (fun again v => (fun (again1 : Int → List (Int × Int) → Prop) (v1_0 : Int) (v1_1 : List (Int × Int)) =>
    br (decide (v1_0 < 4))
    (LoopP (V := Int × List (Int × Int) × Unit) (fun again v => (fun (again2 : Int → List (Int × Int) → Prop) (v2_0 : Int) (v2_1 : List (Int × Int)) =>
    br (lenOk (a0.length))
    (br (decide (v2_0 < ((a0.length) : Int)))
    (br (decide (0 ≤ v1_0) && decide (v1_0 < 4))
    (br (decide (0 ≤ v2_0) && decide (v2_0 < ((a0.length) : Int)))
    (br (decide (0 ≤ v1_0) && decide (v1_0 < 4))
    (again2 (IntKind.i64.wrap (v2_0 + 1)) (v2_1.set v1_0.toNat (f80 ((v2_1.getD v1_0.toNat (0, 0)), (f52 ((a0.getD v2_0.toNat (0, 0)), (IntKind.i64.wrap (v2_0 * v1_0))))))))
    False)
    False)
    False)
    (again1 (IntKind.i64.wrap (v1_0 + 1)) v2_1))
    True)
    (fun v2_0 v2_1 => again (v2_0, v2_1, ())) v.1 v.2.1) (0, v1_1, ()))
    (K ((v1_1.getD 0 (0, 0)), ((v1_1.getD 1 (0, 0)), ((v1_1.getD 2 (0, 0)), (v1_1.getD 3 (0, 0)))))))
    (fun v1_0 v1_1 => again (v1_0, v1_1, ())) v.1 v.2.1) (0, ([(0, 0), (0, 0), (0, 0), (0, 0)] : List (Int × Int)), ())) := by kernel_rfl
theorem f64_t (a0 : List (Int × Int)) (hpre : f64_pre a0) (K : ((Int × Int) × (Int × Int) × (Int × Int) × Int × Int) → Prop) (hK : ∀ y : (Int × Int) × (Int × Int) × (Int × Int) × Int × Int, y = f64 a0 → K y) : RunF Try.prog f64_E f64_A 6 Try.f64 f64_e.doms f64_e.cods a0 K := by
  refine ⟨?_⟩
  rw [f64_run a0 K]
  obtain ⟨hl, hr⟩ := hpre
  refine LoopP.up 4 (fun i v => v.1 = fillTo 4 (lineAt a0) (0, 0) i.toNat) (fun again i v hi0 hn hI hag => ?_) (by omega) rfl
  obtain ⟨v, u⟩ := v
  simp only at hI hag ⊢
  subst hI
  rw [br_dec]
  refine ⟨fun hi => ?_, fun hi => hK _ ?_⟩
  · refine LoopP.up a0.length (fun j v => v.1 = (fillTo 4 (lineAt a0) (0, 0) i.toNat).set i.toNat (sumN (fun j => f98 (a0.getD j (0, 0), ((j * i.toNat : Nat) : Int))) j.toNat)) (fun again2 j v hj0 hjn hJ hag2 => ?_) (by omega) ?_
    · obtain ⟨v, u⟩ := v
      simp only at hJ hag2 ⊢
      subst hJ
      rw [br_true_]
      intro _
      rw [br_dec]
      refine ⟨fun hj => ?_, fun hj => ?_⟩
      · have hm : 0 ≤ j * i := Int.mul_nonneg hj0 hi0
        have hm2 : j * i ≤ 1048576 * 4 := Int.mul_le_mul (by omega) (by omega) hi0 (by omega)
        have hb : (decide (0 ≤ i) && decide (i < 4)) = true := by simp [hi0, hi]
        have hb2 : (decide (0 ≤ j) && decide (j < (a0.length : Int))) = true := by simp [hj0, hj]
        rw [hb, hb2, br_t, br_t, br_t, wr (n := j * i) (by omega) (by omega), wr (n := j + 1) (by omega) (by omega)]
        refine hag2 _ hj ?_
        dsimp only
        have hlt : i.toNat < (fillTo 4 (lineAt a0) (0, 0) i.toNat).length := by rw [fillTo_length]; omega
        rw [List.set_set, show (j + 1).toNat = j.toNat + 1 by omega]
        congr 1
        show f80 _ = f126 (sumN _ j.toNat, _)
        unfold f80
        congr 2
        · simp [List.getD_eq_getElem?_getD, hlt]
        · rw [← turn_eq hm (hr _).1.1 (hr _).1.2]
          congr 2
          rw [Int.natCast_mul, Int.toNat_of_nonneg hj0, Int.toNat_of_nonneg hi0]
      · have hje : j.toNat = a0.length := by omega
        rw [wr (n := i + 1) (by omega) (by omega)]
        refine hag _ hi ?_
        show _ = fillTo 4 (lineAt a0) (0, 0) (i + 1).toNat
        rw [hje, show (i + 1).toNat = i.toNat + 1 by omega, ← fillTo_step (by omega)]
        rfl
    · show _ = (fillTo 4 (lineAt a0) (0, 0) i.toNat).set i.toNat (0, 0)
      apply List.ext_getElem (by simp)
      intro k h1 h2
      simp only [fillTo, List.getElem_set, List.getElem_map, List.getElem_range]
      by_cases e : i.toNat = k
      · simp [← e]
      · simp [e]
  · rw [show i.toNat = 4 by omega, fillTo_getD (by omega), fillTo_getD (by omega), fillTo_getD (by omega), fillTo_getD (by omega)]
    rfl
theorem f64_fn : f64_e.fn = f64 := rfl
theorem f64_ok : EntryOK Try.prog 64 f64_e := by
  refine entryF progOK (EnvOK.cons f52_ok (EnvOK.cons f80_ok (EnvOK.cons f113_ok (EnvOK.nil)))) (A := f64_A) (d := 6) Try.func64 rfl rfl (fun h => by cases h) fun x hpre => ?_
  exact f64_t x hpre _ fun _ h => h.trans (congrFun f64_fn.symm _)
end Go.Proofs.Ytdhekhichomoiaa
end

section
namespace Go.Proofs.Ytdhekhichomoiaa
open Go Go.Pi Go.RowKit
set_option maxRecDepth 100000
set_option linter.unusedVariables false
set_option linter.unusedSimpArgs false

def f81 (x : Int × Int) : Int := f118 x
def f81_e : Entry := { doms := [(true, (.pair (.int .i64) (.int .i64)))], cods := [(false, (.int .i64))], pre := fun _ => True, fn := f81, uq := false, total := true }
def f81_E : Env := [(118, f118_e)]
def f81_A : Anns := { loops := [], own := [] }
theorem f81_run (a0 : Int × Int) (K : Int → Prop) : runF Try.prog f81_E f81_A 6 Try.f81 f81_e.doms f81_e.cods a0 K =
    (K (IntKind.i64.wrap ((IntKind.i64.wrap (a0.1 * a0.1)) + (IntKind.i64.wrap (a0.2 * a0.2))))) := by kernel_rfl
theorem f81_t (a0 : Int × Int) (K : Int → Prop) (hK : ∀ y : Int, y = f81 a0 → K y) : RunF Try.prog f81_E f81_A 6 Try.f81 f81_e.doms f81_e.cods a0 K := by
  refine ⟨?_⟩
  rw [f81_run a0 K]
  exact hK _ (by simp only [f81, f118])
theorem f81_fn : f81_e.fn = f81 := rfl
theorem f81_ok : EntryOK Try.prog 81 f81_e := by
  refine entryF progOK (EnvOK.cons f118_ok (EnvOK.nil)) (A := f81_A) (d := 6) Try.func81 rfl rfl (fun _ _ => trivial) fun x hpre => ?_
  exact f81_t x _ fun _ h => h.trans (congrFun f81_fn.symm _)
end Go.Proofs.Ytdhekhichomoiaa
end

section
namespace Go.Proofs.Ytdhekhichomoiaa
open Go Go.Pi Go.RowKit
set_option maxRecDepth 100000
set_option linter.unusedVariables false
set_option linter.unusedSimpArgs false

def f65 (l : List (Int × Int)) : Int × Int × Int × Int := f116 (f113 l)
def f65_pre (l : List (Int × Int)) : Prop := f64_pre l
def f65_e : Entry := { doms := [(false, (.sl (.pair (.int .i64) (.int .i64))))], cods := [(true, (.pair (.int .i64) (.pair (.int .i64) (.pair (.int .i64) (.int .i64)))))], pre := f65_pre, fn := f65, uq := false, total := false }
def f65_E : Env := [(64, f64_e), (81, f81_e), (116, f116_e), (118, f118_e)]
def f65_A : Anns := { loops := [(1048576, { tms := [(2, .keep), (3, .keep), (4, .keep), (5, .data false (.int .i64))], obs := [(1048576, .keep), (1049602, .keep), (1050624, .arr (.fixed 4) (.int .i64))], fz := [] })], own := [] }
theorem f65_run (a0 : List (Int × Int)) (K : (Int × Int × Int × Int) → Prop) : runF Try.prog f65_E f65_A 6 Try.f65 f65_e.doms f65_e.cods a0 K =
    (f64_pre a0 ∧
    LoopP (V := Int × List Int × Unit) (fun again v => (fun (again1 : Int → List Int → Prop) (v1_0 : Int) (v1_1 : List Int) =>
    br (decide (v1_0 < 4))
    (br (decide (0 ≤ v1_0) && decide (v1_0 < 4))
    (br (decide (0 ≤ v1_0) && decide (v1_0 < 4))
    (again1 (IntKind.i64.wrap (v1_0 + 1)) (v1_1.set v1_0.toNat (f81 (([((f64 a0).1), (((f64 a0).2).1), ((((f64 a0).2).2).1), ((((f64 a0).2).2).2)] : List (Int × Int)).getD v1_0.toNat (0, 0)))))
    False)
    False)
    (K ((v1_1.getD 0 0), ((v1_1.getD 1 0), ((v1_1.getD 2 0), (v1_1.getD 3 0))))))
    (fun v1_0 v1_1 => again (v1_0, v1_1, ())) v.1 v.2.1) (0, ([0, 0, 0, 0] : List Int), ())) := by kernel_rfl
theorem f65_t (a0 : List (Int × Int)) (hpre : f65_pre a0) (K : (Int × Int × Int × Int) → Prop) (hK : ∀ y : Int × Int × Int × Int, y = f65 a0 → K y) : RunF Try.prog f65_E f65_A 6 Try.f65 f65_e.doms f65_e.cods a0 K := by
  refine ⟨?_⟩
  rw [f65_run a0 K]
  refine ⟨hpre, ?_⟩
  refine LoopP.up 4 (fun i v => v.1 = fillTo 4 (fun k => f118 ((gl (f113 a0)).getD k (0, 0))) 0 i.toNat) (fun again i v hi0 hn hI hag => ?_) (by omega) rfl
  obtain ⟨v, u⟩ := v
  simp only at hI hag ⊢
  subst hI
  rw [br_both]
  refine ⟨fun hi => ?_, fun hi => hK _ ?_⟩
  · simp only [decide_eq_true_eq] at hi
    simp only [br_false_, Bool.and_eq_true, decide_eq_true_eq]
    refine ⟨⟨hi0, hi⟩, ⟨hi0, hi⟩, ?_⟩
    rw [wr (by omega) (by omega)]
    refine hag _ hi ?_
    show _ = fillTo 4 (fun k => f118 ((gl (f113 a0)).getD k (0, 0))) 0 (i + 1).toNat
    rw [show (i + 1).toNat = i.toNat + 1 by omega, ← fillTo_step (by omega)]
    rfl
  · simp only [decide_eq_false_iff_not] at hi
    rw [show i.toNat = 4 by omega, fillTo_getD (by omega), fillTo_getD (by omega), fillTo_getD (by omega), fillTo_getD (by omega)]
    rfl
theorem f65_fn : f65_e.fn = f65 := rfl
theorem f65_ok : EntryOK Try.prog 65 f65_e := by
  refine entryF progOK (EnvOK.cons f64_ok (EnvOK.cons f81_ok (EnvOK.cons f116_ok (EnvOK.cons f118_ok (EnvOK.nil))))) (A := f65_A) (d := 6) Try.func65 rfl rfl (fun h => by cases h) fun x hpre => ?_
  exact f65_t x hpre _ fun _ h => h.trans (congrFun f65_fn.symm _)
end Go.Proofs.Ytdhekhichomoiaa
end

section
namespace Go.Proofs.Ytdhekhichomoiaa
open Go Go.Pi Go.RowKit
set_option maxRecDepth 100000
set_option linter.unusedVariables false
set_option linter.unusedSimpArgs false

def pwOf (p : Int × Int × Int × Int) : List Int := [p.1, p.2.1, p.2.2.1, p.2.2.2]
/-- The powers of a gate of one block. -/
def gatePw (g : Int × Int × Int × List Int) (k : Int) (b : List (Int × Int)) : Int × Int × Int × Int := f116 (f113 (f109 (g, b, k, 0)))
/-- The powers of the first blocks together. -/
def accP (g : Int × Int × Int × List Int) (bs : List (List (Int × Int))) (k : Int) : Nat → Nat → Int
  | 0, _ => 0
  | n + 1, c => IntKind.i64.wrap (accP g bs k n c + (pwOf (gatePw g k (bs.getD n []))).getD c 0)
def f62 (x : (Int × Int × Int × List Int) × List (List (Int × Int)) × Int) : Int × Int × Int × Int :=
  (accP x.1 x.2.1 x.2.2 x.2.1.length 0, accP x.1 x.2.1 x.2.2 x.2.1.length 1, accP x.1 x.2.1 x.2.2 x.2.1.length 2, accP x.1 x.2.1 x.2.2 x.2.1.length 3)
def f62_pre (x : (Int × Int × Int × List Int) × List (List (Int × Int)) × Int) : Prop := x.1.2.2.2.length ≤ 1048576
theorem inR_cut (g : Int × Int × Int × List Int) (l : List (Int × Int)) (k s : Int) (j : Nat) : inR (cutAt g l k s j) := by
  unfold cutAt
  dsimp only
  split
  · exact ⟨wrap_range _, wrap_range _⟩
  · simp [inR]
theorem cut_pre (g : Int × Int × Int × List Int) (l : List (Int × Int)) (k s : Int) (h : g.2.2.2.length ≤ 1048576) : f64_pre (f109 (g, l, k, s)) := by
  refine ⟨by simpa [f109] using h, fun j => ?_⟩
  by_cases hj : j < (f109 (g, l, k, s)).length
  · rw [getD_lt hj]
    simp only [f109, List.getElem_map]
    exact inR_cut _ _ _ _ _
  · rw [show (f109 (g, l, k, s)).getD j (0, 0) = (0, 0) by simp [List.getD_eq_getElem?_getD, List.getElem?_eq_none (Nat.le_of_not_lt hj)]]
    simp [inR]
def f62_e : Entry := { doms := [(true, (.pair (.int .i64) (.pair (.int .i64) (.pair (.int .i64) (.sl (.int .i64)))))), (false, (.sl (.sl (.pair (.int .i64) (.int .i64))))), (false, (.int .i64))], cods := [(true, (.pair (.int .i64) (.pair (.int .i64) (.pair (.int .i64) (.int .i64)))))], pre := f62_pre, fn := f62, uq := false, total := false }
def f62_E : Env := [(45, f45_e), (65, f65_e), (113, f113_e), (116, f116_e), (109, f109_e)]
def f62_A : Anns := { loops := [(1048576, { tms := [(1, .keep), (2, .keep), (3, .keep), (6, .keep), (7, .keep), (8, .data false (.int .i64))], obs := [(1048576, .keep), (1048577, .keep), (1049600, .arr (.fixed 4) (.int .i64))], fz := [] }),
  (1048578, { tms := [(1, .keep), (2, .keep), (3, .keep), (6, .keep), (7, .keep), (8, .keep), (9, .keep), (10, .data false (.int .i64))], obs := [(1048576, .keep), (1048577, .keep), (1049600, .arr (.fixed 4) (.int .i64)), (1053704, .keep)], fz := [] })], own := [] }
theorem f62_run (a0 : Int × Int × Int × List Int) (a1 : List (List (Int × Int))) (a2 : Int) (K : (Int × Int × Int × Int) → Prop) : runF Try.prog f62_E f62_A 6 Try.f62 f62_e.doms f62_e.cods (a0, a1, a2) K =
    (LoopP (V := Int × List Int × Unit) (fun again v => (fun (again1 : Int → List Int → Prop) (v1_0 : Int) (v1_1 : List Int) =>
    br (lenOk (a1.length))
    (br (decide (v1_0 < ((a1.length) : Int)))
    (br (decide (0 ≤ v1_0) && decide (v1_0 < ((a1.length) : Int)))
    (f45_pre (a0, ((a1.getD v1_0.toNat []), (a2, 0))) ∧
    f65_pre (f45 (a0, ((a1.getD v1_0.toNat []), (a2, 0)))) ∧
    LoopP (V := Int × List Int × Unit) (fun again v => (fun (again2 : Int → List Int → Prop) (v2_0 : Int) (v2_1 : List Int) =>
    br (decide (v2_0 < 4))
    (br (decide (0 ≤ v2_0) && decide (v2_0 < 4))
    (br (decide (0 ≤ v2_0) && decide (v2_0 < 4))
    (br (decide (0 ≤ v2_0) && decide (v2_0 < 4))
    (again2 (IntKind.i64.wrap (v2_0 + 1)) (v2_1.set v2_0.toNat (IntKind.i64.wrap ((v2_1.getD v2_0.toNat 0) + (([(f65 (f45 (a0, ((a1.getD v1_0.toNat []), (a2, 0))))).1, ((f65 (f45 (a0, ((a1.getD v1_0.toNat []), (a2, 0))))).2).1, (((f65 (f45 (a0, ((a1.getD v1_0.toNat []), (a2, 0))))).2).2).1, (((f65 (f45 (a0, ((a1.getD v1_0.toNat []), (a2, 0))))).2).2).2] : List Int).getD v2_0.toNat 0)))))
    False)
    False)
    False)
    (again1 (IntKind.i64.wrap (v1_0 + 1)) v2_1))
    (fun v2_0 v2_1 => again (v2_0, v2_1, ())) v.1 v.2.1) (0, v1_1, ()))
    False)
    (K ((v1_1.getD 0 0), ((v1_1.getD 1 0), ((v1_1.getD 2 0), (v1_1.getD 3 0))))))
    True)
    (fun v1_0 v1_1 => again (v1_0, v1_1, ())) v.1 v.2.1) (0, ([0, 0, 0, 0] : List Int), ())) := by kernel_rfl
theorem f62_t (a0 : Int × Int × Int × List Int) (a1 : List (List (Int × Int))) (a2 : Int) (hpre : f62_pre (a0, a1, a2)) (K : (Int × Int × Int × Int) → Prop) (hK : ∀ y : Int × Int × Int × Int, y = f62 (a0, a1, a2) → K y) : RunF Try.prog f62_E f62_A 6 Try.f62 f62_e.doms f62_e.cods (a0, a1, a2) K := by
  refine ⟨?_⟩
  rw [f62_run a0 a1 a2 K]
  have hw : a0.2.2.2.length ≤ 1048576 := hpre
  refine LoopP.up a1.length (fun i v => v.1 = (List.range 4).map (accP a0 a1 a2 i.toNat)) (fun again i v hi0 hn hI hag => ?_) (by omega) rfl
  obtain ⟨v, u⟩ := v
  simp only at hI hag ⊢
  subst hI
  rw [br_true_, lenOk_iff]
  intro hl
  rw [br_dec]
  refine ⟨fun hi => ?_, fun hi => hK _ ?_⟩
  · rw [br_false_]
    refine ⟨by simp only [Bool.and_eq_true, decide_eq_true_eq]; exact ⟨hi0, hi⟩, ?_⟩
    refine ⟨hw, cut_pre a0 (a1.getD i.toNat []) a2 0 hw, ?_⟩
    have hst : ∀ c, IntKind.i64.wrap (accP a0 a1 a2 i.toNat c + (pwOf (gatePw a0 a2 (a1.getD i.toNat []))).getD c 0) = accP a0 a1 a2 (i.toNat + 1) c := fun c => rfl
    have hcp := cut_pre a0 (a1.getD i.toNat []) a2 0 hw
    refine LoopP.up 4 (fun c v => v.1 = fill2 4 (accP a0 a1 a2 (i.toNat + 1)) (accP a0 a1 a2 i.toNat) c.toNat) (fun again2 c v hc0 hcn hJ hag2 => ?_) (by omega) fill2_zero.symm
    obtain ⟨v, u⟩ := v
    simp only at hJ hag2 ⊢
    subst hJ
    rw [br_dec]
    refine ⟨fun hc => ?_, fun hc => ?_⟩
    · have hb : (decide (0 ≤ c) && decide (c < 4)) = true := by simp [hc0, hc]
      rw [hb]
      simp only [br_t]
      rw [wr (n := c + 1) (by omega) (by omega), fill2_get (by omega)]
      refine hag2 _ hc ?_
      show _ = fill2 4 (accP a0 a1 a2 (i.toNat + 1)) (accP a0 a1 a2 i.toNat) (c + 1).toNat
      rw [show (c + 1).toNat = c.toNat + 1 by omega, ← fill2_step (by omega)]
      rfl
    · rw [wr (n := i + 1) (by omega) (by omega), show c.toNat = 4 by omega, fill2_all]
      refine hag _ hi ?_
      show _ = (List.range 4).map (accP a0 a1 a2 (i + 1).toNat)
      rw [show (i + 1).toNat = i.toNat + 1 by omega]
  · rw [show i.toNat = a1.length by omega, range_getD (by omega), range_getD (by omega), range_getD (by omega), range_getD (by omega)]
    rfl
theorem f62_fn : f62_e.fn = f62 := rfl
theorem f62_ok : EntryOK Try.prog 62 f62_e := by
  refine entryF progOK (EnvOK.cons f45_ok (EnvOK.cons f65_ok (EnvOK.cons f113_ok (EnvOK.cons f116_ok (EnvOK.cons f109_ok (EnvOK.nil)))))) (A := f62_A) (d := 6) Try.func62 rfl rfl (fun h => by cases h) fun x hpre => ?_
  obtain ⟨a0, a1, a2⟩ := x
  exact f62_t a0 a1 a2 hpre _ fun _ h => h.trans (congrFun f62_fn.symm _)
end Go.Proofs.Ytdhekhichomoiaa
end

section
namespace Go.Proofs.Ytdhekhichomoiaa
open Go Go.Pi Go.RowKit
set_option maxRecDepth 100000
set_option linter.unusedVariables false
set_option linter.unusedSimpArgs false

def f43 (x : (Int × Int × Int × List Int) × Int) : Int := f107 x
def f43_e : Entry := { doms := [(true, (.pair (.int .i64) (.pair (.int .i64) (.pair (.int .i64) (.sl (.int .i64)))))), (false, (.int .i64))], cods := [(false, (.int .i64))], pre := fun _ => True, fn := f43, uq := false, total := true }
def f43_E : Env := [(18, f18_e), (107, f107_e)]
def f43_A : Anns := { loops := [], own := [] }
theorem f43_run (a0 : Int × Int × Int × List Int) (a1 : Int) (K : Int → Prop) : runF Try.prog f43_E f43_A 6 Try.f43 f43_e.doms f43_e.cods (a0, a1) K =
    (br (!(f18 (a1, (0, (IntKind.i64.wrap (a0.2.2.1 - 1))))))
    (K 6)
    (K 0)) := by kernel_rfl
theorem f43_t (a0 : Int × Int × Int × List Int) (a1 : Int) (K : Int → Prop) (hK : ∀ y : Int, y = f43 (a0, a1) → K y) : RunF Try.prog f43_E f43_A 6 Try.f43 f43_e.doms f43_e.cods (a0, a1) K := by
  refine ⟨?_⟩
  rw [f43_run a0 a1 K]
  have e : f107 (a0, a1) = f94 (f18 (a1, 0, IntKind.i64.wrap (a0.2.2.1 - 1)), 6) := rfl
  rw [br_both]
  exact ⟨fun h => hK _ (by rw [f43, e]; simp only [Bool.not_eq_true'] at h; simp [f94, h]), fun h => hK _ (by rw [f43, e]; simp only [Bool.not_eq_false'] at h; simp [f94, h])⟩
theorem f43_fn : f43_e.fn = f43 := rfl
theorem f43_ok : EntryOK Try.prog 43 f43_e := by
  refine entryF progOK (EnvOK.cons f18_ok (EnvOK.cons f107_ok (EnvOK.nil))) (A := f43_A) (d := 6) Try.func43 rfl rfl (fun _ _ => trivial) fun x hpre => ?_
  obtain ⟨a0, a1⟩ := x
  exact f43_t a0 a1 _ fun _ h => h.trans (congrFun f43_fn.symm _)
end Go.Proofs.Ytdhekhichomoiaa
end

section
namespace Go.Proofs.Ytdhekhichomoiaa
open Go Go.Pi Go.RowKit
set_option maxRecDepth 100000
set_option linter.unusedVariables false
set_option linter.unusedSimpArgs false

def f44 (x : (Int × Int × Int × List Int) × List (Int × Int) × Int) : Int := f94 (f108 x, 19)
def f44_e : Entry := { doms := [(true, (.pair (.int .i64) (.pair (.int .i64) (.pair (.int .i64) (.sl (.int .i64)))))), (false, (.sl (.pair (.int .i64) (.int .i64)))), (false, (.int .i64))], cods := [(false, (.int .i64))], pre := fun _ => True, fn := f44, uq := false, total := true }
def f44_E : Env := [(108, f108_e), (94, f94_e)]
def f44_A : Anns := { loops := [], own := [] }
theorem f44_run (a0 : Int × Int × Int × List Int) (a1 : List (Int × Int)) (a2 : Int) (K : Int → Prop) : runF Try.prog f44_E f44_A 6 Try.f44 f44_e.doms f44_e.cods (a0, a1, a2) K =
    (br (lenOk (a0.2.2.2.length))
    (br (lenOk (a1.length))
    (br (decide ((IntKind.i64.wrap ((IntKind.i64.wrap (a0.1 + (IntKind.i64.wrap (a2 * a0.2.1)))) + ((a0.2.2.2.length) : Int))) > ((a1.length) : Int)))
    (K 19)
    (K 0))
    True)
    True) := by kernel_rfl
theorem f44_t (a0 : Int × Int × Int × List Int) (a1 : List (Int × Int)) (a2 : Int) (K : Int → Prop) (hK : ∀ y : Int, y = f44 (a0, a1, a2) → K y) : RunF Try.prog f44_E f44_A 6 Try.f44 f44_e.doms f44_e.cods (a0, a1, a2) K := by
  refine ⟨?_⟩
  rw [f44_run a0 a1 a2 K]
  rw [br_true_]
  intro _
  rw [br_true_]
  intro _
  rw [br_dec]
  refine ⟨fun h => hK _ ?_, fun h => hK _ ?_⟩
  · have : f108 (a0, a1, a2) = false := by
      exact decide_eq_false (Int.not_le.mpr h)
    simp [f44, f94, this]
  · have : f108 (a0, a1, a2) = true := by
      exact decide_eq_true (Int.not_lt.mp h)
    simp [f44, f94, this]
theorem f44_fn : f44_e.fn = f44 := rfl
theorem f44_ok : EntryOK Try.prog 44 f44_e := by
  refine entryF progOK (EnvOK.cons f108_ok (EnvOK.cons f94_ok (EnvOK.nil))) (A := f44_A) (d := 6) Try.func44 rfl rfl (fun _ _ => trivial) fun x hpre => ?_
  obtain ⟨a0, a1, a2⟩ := x
  exact f44_t a0 a1 a2 _ fun _ h => h.trans (congrFun f44_fn.symm _)
end Go.Proofs.Ytdhekhichomoiaa
end

section
namespace Go.Proofs.Ytdhekhichomoiaa
open Go Go.Pi Go.RowKit
set_option maxRecDepth 100000
set_option linter.unusedVariables false
set_option linter.unusedSimpArgs false

def openE (g : Int × Int × Int × List Int) (k : Int) (b : List (Int × Int)) : Int := f94 (f108 (g, b, k), 19)
def f61 (x : (Int × Int × Int × List Int) × List (List (Int × Int)) × Int) : Int :=
  if 12 < x.2.1.length then 8 else f42 (firstErr f28 x.2.1, f42 (f107 (x.1, x.2.2), firstErr (openE x.1 x.2.2) x.2.1))
def f61_e : Entry := { doms := [(true, (.pair (.int .i64) (.pair (.int .i64) (.pair (.int .i64) (.sl (.int .i64)))))), (false, (.sl (.sl (.pair (.int .i64) (.int .i64))))), (false, (.int .i64))], cods := [(false, (.int .i64))], pre := fun _ => True, fn := f61, uq := false, total := true }
def f61_E : Env := [(28, f28_e), (43, f43_e), (44, f44_e), (42, f42_e), (107, f107_e), (108, f108_e), (94, f94_e)]
def f61_A : Anns := { loops := [(1048576, { tms := [(1, .keep), (2, .keep), (3, .keep), (7, .data false (.int .i64))], obs := [(1048576, .keep)], fz := [] }),
  (1048578, { tms := [(1, .keep), (2, .keep), (3, .keep), (10, .data false (.int .i64))], obs := [(1048576, .keep)], fz := [] })], own := [] }
theorem f61_run (a0 : Int × Int × Int × List Int) (a1 : List (List (Int × Int))) (a2 : Int) (K : Int → Prop) : runF Try.prog f61_E f61_A 6 Try.f61 f61_e.doms f61_e.cods (a0, a1, a2) K =
    (br (lenOk (a1.length))
    (br (decide (((a1.length) : Int) > 12))
    (K 8)
    (LoopP (V := Int × Unit) (fun again v => (fun (again1 : Int → Prop) (v1_0 : Int) =>
    br (lenOk (a1.length))
    (br (decide (v1_0 < ((a1.length) : Int)))
    (br (decide (0 ≤ v1_0) && decide (v1_0 < ((a1.length) : Int)))
    (br ((f28 (a1.getD v1_0.toNat [])) != 0)
    (K (f28 (a1.getD v1_0.toNat [])))
    (again1 (IntKind.i64.wrap (v1_0 + 1))))
    False)
    (br ((f43 (a0, a2)) != 0)
    (K (f43 (a0, a2)))
    (LoopP (V := Int × Unit) (fun again v => (fun (again2 : Int → Prop) (v2_0 : Int) =>
    br (lenOk (a1.length))
    (br (decide (v2_0 < ((a1.length) : Int)))
    (br (decide (0 ≤ v2_0) && decide (v2_0 < ((a1.length) : Int)))
    (br ((f44 (a0, ((a1.getD v2_0.toNat []), a2))) != 0)
    (K (f44 (a0, ((a1.getD v2_0.toNat []), a2))))
    (again2 (IntKind.i64.wrap (v2_0 + 1))))
    False)
    (K 0))
    True)
    (fun v2_0 => again (v2_0, ())) v.1) (0, ()))))
    True)
    (fun v1_0 => again (v1_0, ())) v.1) (0, ())))
    True) := by kernel_rfl
theorem f61_t (a0 : Int × Int × Int × List Int) (a1 : List (List (Int × Int))) (a2 : Int) (K : Int → Prop) (hK : ∀ y : Int, y = f61 (a0, a1, a2) → K y) : RunF Try.prog f61_E f61_A 6 Try.f61 f61_e.doms f61_e.cods (a0, a1, a2) K := by
  refine ⟨?_⟩
  rw [f61_run a0 a1 a2 K]
  rw [br_true_, lenOk_iff]
  intro hl
  rw [br_dec]
  refine ⟨fun h => hK _ (by rw [f61, if_pos (show 12 < a1.length by omega)]), fun h => ?_⟩
  have h12 : ¬ 12 < a1.length := by omega
  refine LoopP.up a1.length (fun i _ => ∀ x ∈ a1.take i.toNat, (f28 x != 0) = false) (fun again i v hi0 hn hI hag => ?_) (by omega) all_zero
  dsimp only
  rw [br_true_]
  intro _
  rw [br_dec]
  refine ⟨fun hi => ?_, fun hi => ?_⟩
  · rw [br_false_]
    refine ⟨by simp only [Bool.and_eq_true, decide_eq_true_eq]; exact ⟨hi0, hi⟩, ?_⟩
    rw [br_both, wr (n := i + 1) (by omega) (by omega)]
    refine ⟨fun hne => hK _ ?_, fun he => hag () hi (all_step hi0 hi hI he)⟩
    have hne' : f28 (a1.getD i.toNat []) ≠ 0 := by simpa using hne
    rw [f61, if_neg h12]
    simp only
    rw [firstErr_at hi0 hi hI hne, f42, if_pos hne']
  · have hnone := all_done hi hI
    have e1 : firstErr f28 a1 = 0 := firstErr_none hnone
    rw [br_both]
    refine ⟨fun hne => hK _ ?_, fun he => ?_⟩
    · have hne' : f107 (a0, a2) ≠ 0 := by simpa [f43] using hne
      rw [f61, if_neg h12]
      simp only
      rw [e1]
      simp [f42, hne', f43]
    have he' : f107 (a0, a2) = 0 := by simpa [f43] using he
    refine LoopP.up a1.length (fun i _ => ∀ x ∈ a1.take i.toNat, (openE a0 a2 x != 0) = false) (fun again2 j v hj0 hjn hJ hag2 => ?_) (by omega) all_zero
    dsimp only
    rw [br_true_]
    intro _
    rw [br_dec]
    refine ⟨fun hj => ?_, fun hj => hK _ ?_⟩
    · rw [br_false_]
      refine ⟨by simp only [Bool.and_eq_true, decide_eq_true_eq]; exact ⟨hj0, hj⟩, ?_⟩
      rw [br_both, wr (n := j + 1) (by omega) (by omega)]
      refine ⟨fun hne => hK _ ?_, fun he => hag2 () hj (all_step hj0 hj hJ he)⟩
      rw [f61, if_neg h12]
      simp only
      rw [e1, he', firstErr_at (f := openE a0 a2) hj0 hj hJ hne]
      rfl
    · rw [f61, if_neg h12]
      simp only
      rw [e1, he', firstErr_none (f := openE a0 a2) (all_done hj hJ)]
      rfl
theorem f61_fn : f61_e.fn = f61 := rfl
theorem f61_ok : EntryOK Try.prog 61 f61_e := by
  refine entryF progOK (EnvOK.cons f28_ok (EnvOK.cons f43_ok (EnvOK.cons f44_ok (EnvOK.cons f42_ok (EnvOK.cons f107_ok (EnvOK.cons f108_ok (EnvOK.cons f94_ok (EnvOK.nil)))))))) (A := f61_A) (d := 6) Try.func61 rfl rfl (fun _ _ => trivial) fun x hpre => ?_
  obtain ⟨a0, a1, a2⟩ := x
  exact f61_t a0 a1 a2 _ fun _ h => h.trans (congrFun f61_fn.symm _)
end Go.Proofs.Ytdhekhichomoiaa
end
