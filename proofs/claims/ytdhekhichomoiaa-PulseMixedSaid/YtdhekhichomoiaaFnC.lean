/- What functions of the program compute, each proved once, part 3. -/
import Derived.Test.YtdhekhichomoiaaPiC
import Derived.Test.YtdhekhichomoiaaFnA
import Derived.Test.YtdhekhichomoiaaFnB

section
namespace Go.Proofs.Ytdhekhichomoiaa
open Go Go.Pi Go.RowKit
set_option maxRecDepth 100000
set_option linter.unusedVariables false
set_option linter.unusedSimpArgs false

def lineAt (l : List (Int × Int)) (k : Nat) : Int × Int := sumN (fun j => f98 (l.getD j (0, 0), ((j * k : Nat) : Int))) l.length
def f113 (l : List (Int × Int)) : (Int × Int) × (Int × Int) × (Int × Int) × Int × Int := (lineAt l 0, lineAt l 1, lineAt l 2, lineAt l 3)
def f113_pre (l : List (Int × Int)) : Prop := l.length ≤ 1048576
def f113_e : Entry := { doms := [(false, (.sl (.pair (.int .i64) (.int .i64))))], cods := [(true, (.pair (.pair (.int .i64) (.int .i64)) (.pair (.pair (.int .i64) (.int .i64)) (.pair (.pair (.int .i64) (.int .i64)) (.pair (.int .i64) (.int .i64))))))], pre := f113_pre, fn := f113, uq := false, total := false }
def f113_E : Env := [(98, f98_e), (126, f126_e), (99, f99_e)]
def f113_A : Anns := { loops := [(1048576, { tms := [(0, .keep), (2, .keep), (3, .keep), (7, .data false (.int .i64))], obs := [(1048576, .keep), (1049600, .arr (.fixed 4) (.pair (.int .i64) (.int .i64)))], fz := [] }),
  (1048578, { tms := [(0, .keep), (2, .keep), (3, .keep), (4, .keep), (7, .keep), (10, .keep), (11, .keep), (12, .data false (.int .i64))], obs := [(1048576, .keep), (1049600, .arr (.fixed 4) (.pair (.int .i64) (.int .i64)))], fz := [] })], own := [] }
theorem f113_run (a0 : List (Int × Int)) (K : ((Int × Int) × (Int × Int) × (Int × Int) × Int × Int) → Prop) : runF Try.prog f113_E f113_A 6 Try.f113 f113_e.doms f113_e.cods a0 K =
    (LoopP (V := Int × List (Int × Int) × Unit) (fun again v => (fun (again1 : Int → List (Int × Int) → Prop) (v1_0 : Int) (v1_1 : List (Int × Int)) =>
    br (decide (v1_0 < 4))
    (br (lenOk (a0.length))
    (LoopP (V := Int × List (Int × Int) × Unit) (fun again v => (fun (again2 : Int → List (Int × Int) → Prop) (v2_0 : Int) (v2_1 : List (Int × Int)) =>
    br (decide (v2_0 < ((a0.length) : Int)))
    (br (decide (0 ≤ v2_0) && decide (v2_0 < ((a0.length) : Int)))
    (br (decide (0 ≤ v1_0) && decide (v1_0 < 4))
    (f98_pre ((a0.getD v2_0.toNat (0, 0)), (IntKind.i64.wrap (v2_0 * v1_0))) ∧
    br (decide (0 ≤ v1_0) && decide (v1_0 < 4))
    (again2 (IntKind.i64.wrap (v2_0 + 1)) (v2_1.set v1_0.toNat (f126 ((v2_1.getD v1_0.toNat (0, 0)), (f98 ((a0.getD v2_0.toNat (0, 0)), (IntKind.i64.wrap (v2_0 * v1_0))))))))
    False)
    False)
    False)
    (again1 (IntKind.i64.wrap (v1_0 + 1)) v2_1))
    (fun v2_0 v2_1 => again (v2_0, v2_1, ())) v.1 v.2.1) (0, v1_1, ()))
    True)
    (K ((v1_1.getD 0 (0, 0)), ((v1_1.getD 1 (0, 0)), ((v1_1.getD 2 (0, 0)), (v1_1.getD 3 (0, 0)))))))
    (fun v1_0 v1_1 => again (v1_0, v1_1, ())) v.1 v.2.1) (0, ([(0, 0), (0, 0), (0, 0), (0, 0)] : List (Int × Int)), ())) := by kernel_rfl
theorem f113_t (a0 : List (Int × Int)) (hpre : f113_pre a0) (K : ((Int × Int) × (Int × Int) × (Int × Int) × Int × Int) → Prop) (hK : ∀ y : (Int × Int) × (Int × Int) × (Int × Int) × Int × Int, y = f113 a0 → K y) : RunF Try.prog f113_E f113_A 6 Try.f113 f113_e.doms f113_e.cods a0 K := by
  refine ⟨?_⟩
  rw [f113_run a0 K]
  have hl : a0.length ≤ 1048576 := hpre
  refine LoopP.up 4 (fun i v => v.1 = fillTo 4 (lineAt a0) (0, 0) i.toNat) (fun again i v hi0 hn hI hag => ?_) (by omega) rfl
  obtain ⟨v, u⟩ := v
  simp only at hI hag ⊢
  subst hI
  rw [br_dec]
  refine ⟨fun hi => ?_, fun hi => hK _ ?_⟩
  · rw [br_true_]
    intro _
    refine LoopP.up a0.length (fun j v => v.1 = (fillTo 4 (lineAt a0) (0, 0) i.toNat).set i.toNat (sumN (fun j => f98 (a0.getD j (0, 0), ((j * i.toNat : Nat) : Int))) j.toNat)) (fun again2 j v hj0 hjn hJ hag2 => ?_) (by omega) ?_
    · obtain ⟨v, u⟩ := v
      simp only at hJ hag2 ⊢
      subst hJ
      rw [br_dec]
      refine ⟨fun hj => ?_, fun hj => ?_⟩
      · have hm : 0 ≤ j * i := Int.mul_nonneg hj0 hi0
        have hm2 : j * i ≤ 1048576 * 4 := Int.mul_le_mul (by omega) (by omega) hi0 (by omega)
        have hb : (decide (0 ≤ i) && decide (i < 4)) = true := by simp [hi0, hi]
        have hb2 : (decide (0 ≤ j) && decide (j < (a0.length : Int))) = true := by simp [hj0, hj]
        rw [hb, hb2, br_t, br_t, br_t, wr (n := j * i) (by omega) (by omega), wr (n := j + 1) (by omega) (by omega)]
        refine ⟨hm, hag2 _ hj ?_⟩
        dsimp only
        have hlt : i.toNat < (fillTo 4 (lineAt a0) (0, 0) i.toNat).length := by rw [fillTo_length]; omega
        rw [List.set_set, show (j + 1).toNat = j.toNat + 1 by omega]
        congr 1
        show _ = f126 (sumN _ j.toNat, _)
        congr 2
        · simp [List.getD_eq_getElem?_getD, hlt]
        · congr 2
          rw [Int.natCast_mul, Int.toNat_of_nonneg hj0, Int.toNat_of_nonneg hi0]
      · have hje : j.toNat = a0.length := by omega
        rw [wr (n := i + 1) (by omega) (by omega)]
        refine hag _ hi ?_
        show _ = fillTo 4 (lineAt a0) (0, 0) (i + 1).toNat
        rw [hje, show (i + 1).toNat = i.toNat + 1 by omega, ← fillTo_step (by omega)]
        rfl
    · show _ = (fillTo 4 (lineAt a0) (0, 0) i.toNat).set i.toNat (0, 0)
      apply List.ext_getElem (by simp)
      intro k h1 h2
      simp only [fillTo, List.getElem_set, List.getElem_map, List.getElem_range]
      by_cases e : i.toNat = k
      · simp [← e]
      · simp [e]
  · rw [show i.toNat = 4 by omega, fillTo_getD (by omega), fillTo_getD (by omega), fillTo_getD (by omega), fillTo_getD (by omega)]
    rfl
theorem f113_fn : f113_e.fn = f113 := rfl
theorem f113_ok : EntryOK Try.prog 113 f113_e := by
  refine entryF progOK (EnvOK.cons f98_ok (EnvOK.cons f126_ok (EnvOK.cons f99_ok (EnvOK.nil)))) (A := f113_A) (d := 6) Try.func113 rfl rfl (fun h => by cases h) fun x hpre => ?_
  exact f113_t x hpre _ fun _ h => h.trans (congrFun f113_fn.symm _)
end Go.Proofs.Ytdhekhichomoiaa
end

section
namespace Go.Proofs.Ytdhekhichomoiaa
open Go Go.Pi Go.RowKit
set_option maxRecDepth 100000
set_option linter.unusedVariables false
set_option linter.unusedSimpArgs false

def f51 (l : List (Int × Int)) : ((Int × Int) × (Int × Int) × (Int × Int) × Int × Int) × Int := if (f33 l).2 ≠ 0 then (((0, 0), (0, 0), (0, 0), 0, 0), (f33 l).2) else (f113 l, 0)
def f51_e : Entry := { doms := [(false, (.sl (.pair (.int .i64) (.int .i64))))], cods := [(true, (.pair (.pair (.int .i64) (.int .i64)) (.pair (.pair (.int .i64) (.int .i64)) (.pair (.pair (.int .i64) (.int .i64)) (.pair (.int .i64) (.int .i64)))))), (false, (.int .i64))], pre := fun _ => True, fn := f51, uq := false, total := true }
def f51_E : Env := [(97, f97_e), (113, f113_e)]
def f51_A : Anns := { loops := [], own := [] }
theorem f51_run (a0 : List (Int × Int)) (K : (((Int × Int) × (Int × Int) × (Int × Int) × Int × Int) × Int) → Prop) : runF Try.prog f51_E f51_A 6 Try.f51 f51_e.doms f51_e.cods a0 K =
    (br ((f97 a0) != 0)
    (K (((0, 0), ((0, 0), ((0, 0), (0, 0)))), (f97 a0)))
    (f113_pre a0 ∧
    K ((((f113 a0).1), ((((f113 a0).2).1), (((((f113 a0).2).2).1), ((((f113 a0).2).2).2)))), 0))) := by kernel_rfl
theorem f51_t (a0 : List (Int × Int)) (K : (((Int × Int) × (Int × Int) × (Int × Int) × Int × Int) × Int) → Prop) (hK : ∀ y : ((Int × Int) × (Int × Int) × (Int × Int) × Int × Int) × Int, y = f51 a0 → K y) : RunF Try.prog f51_E f51_A 6 Try.f51 f51_e.doms f51_e.cods a0 K := by
  refine ⟨?_⟩
  rw [f51_run a0 K]
  rw [br_both]
  refine ⟨fun h => hK _ ?_, fun h => ?_⟩
  · have h : (f33 a0).2 ≠ 0 := by simpa [f97] using h
    rw [f51, if_pos h]
    rfl
  · have h : (f33 a0).2 = 0 := by simpa [f97] using h
    refine ⟨by have := blk_ok h; show a0.length ≤ _; omega, hK _ ?_⟩
    rw [f51, if_neg (fun hh => hh h)]
theorem f51_fn : f51_e.fn = f51 := rfl
theorem f51_ok : EntryOK Try.prog 51 f51_e := by
  refine entryF progOK (EnvOK.cons f97_ok (EnvOK.cons f113_ok (EnvOK.nil))) (A := f51_A) (d := 6) Try.func51 rfl rfl (fun _ _ => trivial) fun x hpre => ?_
  exact f51_t x _ fun _ h => h.trans (congrFun f51_fn.symm _)
end Go.Proofs.Ytdhekhichomoiaa
end

section
namespace Go.Proofs.Ytdhekhichomoiaa
open Go Go.Pi Go.RowKit
set_option maxRecDepth 100000
set_option linter.unusedVariables false
set_option linter.unusedSimpArgs false

def f78 (x : Int × Int) : Int := if x.1.tmod x.2 < 0 then IntKind.i64.wrap (x.1.tmod x.2 + x.2) else x.1.tmod x.2
def f78_pre (x : Int × Int) : Prop := x.2 ≠ 0
def f78_e : Entry := { doms := [(false, (.int .i64)), (false, (.int .i64))], cods := [(false, (.int .i64))], pre := f78_pre, fn := f78, uq := false, total := false }
def f78_E : Env := []
def f78_A : Anns := { loops := [], own := [] }
theorem f78_run (a0 : Int) (a1 : Int) (K : Int → Prop) : runF Try.prog f78_E f78_A 6 Try.f78 f78_e.doms f78_e.cods (a0, a1) K =
    (br (!(decide (a1 = 0)))
    (br (decide ((a0.tmod a1) < 0))
    (K (IntKind.i64.wrap ((a0.tmod a1) + a1)))
    (K (a0.tmod a1)))
    False) := by kernel_rfl
theorem f78_t (a0 : Int) (a1 : Int) (hpre : f78_pre (a0, a1)) (K : Int → Prop) (hK : ∀ y : Int, y = f78 (a0, a1) → K y) : RunF Try.prog f78_E f78_A 6 Try.f78 f78_e.doms f78_e.cods (a0, a1) K := by
  refine ⟨?_⟩
  rw [f78_run a0 a1 K]
  have h : (!(decide (a1 = 0))) = true := by
    have h1 : a1 ≠ 0 := hpre
    simpa using h1
  rw [br_false_]
  refine ⟨h, ?_⟩
  rw [br_dec]
  exact ⟨fun h => hK _ (by simp [f78, h]), fun h => hK _ (by simp [f78, h])⟩
theorem f78_fn : f78_e.fn = f78 := rfl
theorem f78_ok : EntryOK Try.prog 78 f78_e := by
  refine entryF progOK (EnvOK.nil) (A := f78_A) (d := 6) Try.func78 rfl rfl (fun h => by cases h) fun x hpre => ?_
  obtain ⟨a0, a1⟩ := x
  exact f78_t a0 a1 hpre _ fun _ h => h.trans (congrFun f78_fn.symm _)
theorem f78_four (t : Int) : 0 ≤ f78 (t, 4) ∧ f78 (t, 4) < 4 := by
  have h1 : t.tmod 4 < 4 := Int.tmod_lt_of_pos t (by omega)
  have h2 : -4 < t.tmod 4 := by
    have := Int.lt_tmod_of_pos t (show (0 : Int) < 4 by omega)
    omega
  simp only [f78]
  split
  · rw [wr (by omega) (by omega)]
    omega
  · omega
theorem f78_nonneg {t : Int} (h : 0 ≤ t) : f78 (t, 4) = t.tmod 4 := by
  have : 0 ≤ t.tmod 4 := Int.tmod_nonneg 4 h
  simp only [f78]
  rw [if_neg (by omega)]
end Go.Proofs.Ytdhekhichomoiaa
end

section
namespace Go.Proofs.Ytdhekhichomoiaa
open Go Go.Pi Go.RowKit
set_option maxRecDepth 100000
set_option linter.unusedVariables false
set_option linter.unusedSimpArgs false

def rot1 (z : Int × Int) : Int × Int := (z.2, IntKind.i64.wrap (0 - z.1))
def rotN : Nat → (Int × Int) → Int × Int
  | 0, z => z
  | k + 1, z => rot1 (rotN k z)
def f52 (x : (Int × Int) × Int) : Int × Int := rotN (f78 (x.2, 4)).toNat x.1
def f52_e : Entry := { doms := [(true, (.pair (.int .i64) (.int .i64))), (false, (.int .i64))], cods := [(true, (.pair (.int .i64) (.int .i64)))], pre := fun _ => True, fn := f52, uq := false, total := true }
def f52_E : Env := [(78, f78_e), (98, f98_e)]
def f52_A : Anns := { loops := [(1048576, { tms := [(1, .keep), (2, .keep), (4, .keep), (5, .data false (.int .i64))], obs := [(1048576, .cells [.data (.int .i64), .data (.int .i64)]), (1048577, .keep)], fz := [] })], own := [] }
theorem f52_run (a0 : Int × Int) (a1 : Int) (K : (Int × Int) → Prop) : runF Try.prog f52_E f52_A 6 Try.f52 f52_e.doms f52_e.cods (a0, a1) K =
    (LoopP (V := Int × Int × Int × Unit) (fun again v => (fun (again1 : Int → Int → Int → Prop) (v1_0 : Int) (v1_1 : Int) (v1_2 : Int) =>
    f78_pre (a1, 4) ∧
    br (decide (v1_0 < (f78 (a1, 4))))
    (again1 (IntKind.i64.wrap (v1_0 + 1)) v1_2 (IntKind.i64.wrap (0 - v1_1)))
    (K (v1_1, v1_2)))
    (fun v1_0 v1_1 v1_2 => again (v1_0, v1_1, v1_2, ())) v.1 v.2.1 v.2.2.1) (0, a0.1, a0.2, ())) := by kernel_rfl
theorem f52_t (a0 : Int × Int) (a1 : Int) (K : (Int × Int) → Prop) (hK : ∀ y : Int × Int, y = f52 (a0, a1) → K y) : RunF Try.prog f52_E f52_A 6 Try.f52 f52_e.doms f52_e.cods (a0, a1) K := by
  refine ⟨?_⟩
  rw [f52_run a0 a1 K]
  have h4 := f78_four a1
  refine LoopP.up (f78 (a1, 4)) (fun i v => (v.1, v.2.1) = rotN i.toNat a0) (fun again i v hi0 hn hI hag => ?_) h4.1 rfl
  obtain ⟨v1, v2, u⟩ := v
  simp only at hI hag ⊢
  refine ⟨by simp [f78_pre], ?_⟩
  rw [br_dec]
  refine ⟨fun hi => ?_, fun hi => hK _ ?_⟩
  · rw [wr (by omega) (by omega)]
    refine hag _ hi ?_
    show (_, _) = _
    rw [show (i + 1).toNat = i.toNat + 1 by omega]
    show _ = rot1 (rotN i.toNat a0)
    rw [← hI]
    rfl
  · rw [hI]
    unfold f52
    simp only
    rw [show i = f78 (a1, 4) by omega]
theorem f52_fn : f52_e.fn = f52 := rfl
theorem f52_ok : EntryOK Try.prog 52 f52_e := by
  refine entryF progOK (EnvOK.cons f78_ok (EnvOK.cons f98_ok (EnvOK.nil))) (A := f52_A) (d := 6) Try.func52 rfl rfl (fun _ _ => trivial) fun x hpre => ?_
  obtain ⟨a0, a1⟩ := x
  exact f52_t a0 a1 _ fun _ h => h.trans (congrFun f52_fn.symm _)
/-- Turned by a table, or step by step. -/
theorem turn_eq {z : Int × Int} {p : Int} (hp : 0 ≤ p) (h1 : -9223372036854775808 ≤ z.1) (h2 : z.1 ≤ 9223372036854775807) : f98 (z, p) = f52 (z, p) := by
  obtain ⟨a, b⟩ := z
  simp only at h1 h2
  unfold f98 f52
  simp only
  rw [f78_nonneg hp]
  have h0 : 0 ≤ p.tmod 4 := Int.tmod_nonneg 4 hp
  have h3 : p.tmod 4 < 4 := Int.tmod_lt_of_pos p (by omega)
  generalize hk : (p.tmod 4).toNat = k
  have hk4 : k < 4 := by omega
  match k, hk4 with
  | 0, _ => rfl
  | 1, _ => rfl
  | 2, _ => rfl
  | 3, _ =>
    show _ = rot1 (rot1 (rot1 (a, b)))
    simp only [rot1, wrap_sub_r]
    rw [show (0 : Int) - (0 - a) = a by omega, wr h1 h2]
end Go.Proofs.Ytdhekhichomoiaa
end

section
namespace Go.Proofs.Ytdhekhichomoiaa
open Go Go.Pi Go.RowKit
set_option linter.unusedVariables false
set_option linter.unusedSimpArgs false

def inR (z : Int × Int) : Prop := (-9223372036854775808 ≤ z.1 ∧ z.1 ≤ 9223372036854775807) ∧ (-9223372036854775808 ≤ z.2 ∧ z.2 ≤ 9223372036854775807)

theorem wrap_range (n : Int) : -9223372036854775808 ≤ IntKind.i64.wrap n ∧ IntKind.i64.wrap n ≤ 9223372036854775807 := by
  rw [wrap_def]
  omega
theorem inR_rot1 {z : Int × Int} (h : inR z) : inR (rot1 z) := ⟨h.2, wrap_range _⟩
theorem inR_rotN {z : Int × Int} (h : inR z) : ∀ k, inR (rotN k z)
  | 0 => h
  | k + 1 => inR_rot1 (inR_rotN h k)
theorem rotN_add (m n : Nat) (z : Int × Int) : rotN (m + n) z = rotN m (rotN n z) := by
  induction m with
  | zero => rw [Nat.zero_add]; rfl
  | succ m ih => rw [Nat.add_right_comm]; show rot1 _ = rot1 _; rw [ih]
theorem rot4 {z : Int × Int} (h : inR z) : rotN 4 z = z := by
  obtain ⟨a, b⟩ := z
  show rot1 (rot1 (rot1 (rot1 (a, b)))) = _
  simp only [rot1, wrap_sub_r]
  rw [show (0 : Int) - (0 - a) = a by omega, show (0 : Int) - (0 - b) = b by omega, wr h.1.1 h.1.2, wr h.2.1 h.2.2]
theorem rot4k {z : Int × Int} (h : inR z) : ∀ k, rotN (4 * k) z = z
  | 0 => rfl
  | k + 1 => by rw [Nat.mul_add, Nat.mul_one, rotN_add, rot4 h, rot4k h k]
theorem rot_mod {z : Int × Int} (h : inR z) (n : Nat) : rotN n z = rotN (n % 4) z := by
  conv => lhs; rw [← Nat.mod_add_div n 4]
  rw [rotN_add, rot4k h]
theorem rot_eq {z : Int × Int} (h : inR z) {m n : Nat} (e : m % 4 = n % 4) : rotN m z = rotN n z := by rw [rot_mod h m, rot_mod h n, e]

theorem f98_nat {z : Int × Int} (h : inR z) (n : Nat) : f98 (z, (n : Int)) = rotN n z := by
  rw [turn_eq (by omega) h.1.1 h.1.2, rot_mod h n, f52]
  simp only
  rw [f78_nonneg (by omega)]
  congr 1
theorem f52_nat {z : Int × Int} (h : inR z) (n : Nat) : f52 (z, (n : Int)) = rotN n z := by
  rw [← turn_eq (by omega) h.1.1 h.1.2, f98_nat h]

theorem rot1_add (x y : Int × Int) : rot1 (f126 (x, y)) = f126 (rot1 x, rot1 y) := by
  simp only [rot1, f126, wrap_sub_r, wrap_add_l, wrap_add_r]
  congr 2
  omega
theorem rotN_addp (k : Nat) (x y : Int × Int) : rotN k (f126 (x, y)) = f126 (rotN k x, rotN k y) := by
  induction k with
  | zero => rfl
  | succ k ih => show rot1 _ = f126 (rot1 _, rot1 _); rw [ih, rot1_add]
theorem rotN_zero (k : Nat) : rotN k (0, 0) = (0, 0) := by
  induction k with
  | zero => rfl
  | succ k ih => show rot1 _ = _; rw [ih]; simp [rot1, wrap_zero]
theorem mul_rot1 (a b : Int × Int) : f127 (rot1 a, rot1 b) = f127 (a, b) := by
  simp only [f127, rot1, wrap_sub_l, wrap_sub_r, wrap_mul_l, wrap_mul_r, wrap_add_l, wrap_add_r]
  congr 2 <;> grind
theorem mul_rotN (k : Nat) (a b : Int × Int) : f127 (rotN k a, rotN k b) = f127 (a, b) := by
  induction k with
  | zero => rfl
  | succ k ih => show f127 (rot1 _, rot1 _) = _; rw [mul_rot1, ih]
theorem mul_right1 (a b : Int × Int) : f127 (a, rot1 b) = rot1 (f127 (a, b)) := by
  simp only [f127, rot1, wrap_sub_l, wrap_sub_r, wrap_mul_l, wrap_mul_r, wrap_add_l, wrap_add_r]
  congr 2 <;> grind
theorem mul_right (k : Nat) (a b : Int × Int) : f127 (a, rotN k b) = rotN k (f127 (a, b)) := by
  induction k with
  | zero => rfl
  | succ k ih => show f127 (a, rot1 _) = rot1 _; rw [mul_right1, ih]

theorem sumN_congr {g h : Nat → Int × Int} : ∀ {n : Nat}, (∀ k, k < n → g k = h k) → sumN g n = sumN h n
  | 0, _ => rfl
  | n + 1, e => by
    show f126 (_, _) = f126 (_, _)
    rw [sumN_congr fun k hk => e k (by omega), e n (by omega)]
theorem sumN_rot (s : Nat) (g : Nat → Int × Int) : ∀ n, sumN (fun k => rotN s (g k)) n = rotN s (sumN g n)
  | 0 => (rotN_zero s).symm
  | n + 1 => by
    show f126 (_, _) = rotN s (f126 (_, _))
    rw [sumN_rot s g n, rotN_addp]
theorem inR_sumN (g : Nat → Int × Int) : ∀ n, inR (sumN g n)
  | 0 => by simp [sumN, inR]
  | n + 1 => ⟨wrap_range _, wrap_range _⟩

/-! ### a valid block, mixed down -/
section
variable {l : List (Int × Int)}

theorem blk_in (hB : (f33 l).2 = 0) (j : Nat) : inR (l.getD j (0, 0)) := by
  obtain ⟨_, _, h⟩ := blk_ok hB
  by_cases hj : j < l.length
  · have := h _ (by rw [getD_lt (d := ((0 : Int), (0 : Int))) hj]; exact List.getElem_mem hj : l.getD j (0, 0) ∈ l)
    simp only [inR]
    omega
  · have : l.getD j (0, 0) = (0, 0) := by simp [List.getD_eq_getElem?_getD, List.getElem?_eq_none (Nat.le_of_not_lt hj)]
    rw [this]
    simp [inR]

def mixed (l : List (Int × Int)) (q : Nat) : List (Int × Int) := (List.range l.length).map (mixAt l q)
theorem mixed_length (q : Nat) : (mixed l q).length = l.length := by simp [mixed]
theorem mixed_get (hB : (f33 l).2 = 0) (q : Nat) {j : Nat} (hj : j < l.length) : (mixed l q).getD j (0, 0) = rotN (j * q) (l.getD j (0, 0)) := by
  rw [getD_lt (by rw [mixed_length]; exact hj)]
  simp only [mixed, List.getElem_map, List.getElem_range, mixAt]
  rw [← Int.natCast_mul, f98_nat (blk_in hB j)]

theorem small_rot {z : Int × Int} (h : -1000 ≤ z.1 ∧ z.1 ≤ 1000 ∧ -1000 ≤ z.2 ∧ z.2 ≤ 1000) : ∀ k, -1000 ≤ (rotN k z).1 ∧ (rotN k z).1 ≤ 1000 ∧ -1000 ≤ (rotN k z).2 ∧ (rotN k z).2 ≤ 1000
  | 0 => h
  | k + 1 => by
    have := small_rot h k
    show -1000 ≤ (rotN k z).2 ∧ (rotN k z).2 ≤ 1000 ∧ -1000 ≤ IntKind.i64.wrap (0 - (rotN k z).1) ∧ IntKind.i64.wrap (0 - (rotN k z).1) ≤ 1000
    rw [wr (by omega) (by omega)]
    omega

theorem mixed_ok (hB : (f33 l).2 = 0) (q : Nat) : (f33 (mixed l q)).2 = 0 := by
  obtain ⟨h0, h48, h⟩ := blk_ok hB
  unfold f33
  rw [mixed_length, if_neg (by omega), if_neg (by omega)]
  have : (mixed l q).findIdx? (fun g => !f103 g) = none := by
    rw [List.findIdx?_eq_none_iff]
    intro x hx
    obtain ⟨j, hj, rfl⟩ := List.getElem_of_mem hx
    rw [mixed_length] at hj
    rw [← getD_lt (d := ((0 : Int), (0 : Int))), mixed_get hB q hj]
    have := small_rot (h _ (by rw [getD_lt (d := ((0 : Int), (0 : Int))) hj]; exact List.getElem_mem hj : l.getD j (0, 0) ∈ l)) (j * q)
    simp only [f103, szd, Bool.not_eq_false', Bool.and_eq_true, decide_eq_true_eq]
    omega
  rw [this]

theorem mixed_back (hB : (f33 l).2 = 0) (q r : Nat) (h : (q + r) % 4 = 0) : mixed (mixed l q) r = l := by
  apply List.ext_getElem (by simp [mixed_length])
  intro j h1 h2
  rw [← getD_lt (d := ((0 : Int), (0 : Int))), ← getD_lt (d := ((0 : Int), (0 : Int))), mixed_get (mixed_ok hB q) r (by rw [mixed_length]; exact h2), mixed_get hB q h2, ← rotN_add, ← Nat.mul_add]
  rw [rot_eq (blk_in hB j) (n := 0)]
  · rfl
  · rw [Nat.mul_mod, Nat.add_comm r q, h]; simp

theorem mixed_line (hB : (f33 l).2 = 0) (q n : Nat) : lineAt (mixed l q) n = lineAt l ((n + q) % 4) := by
  unfold lineAt
  rw [mixed_length]
  refine sumN_congr fun j hj => ?_
  rw [f98_nat (blk_in (mixed_ok hB q) j), f98_nat (blk_in hB j), mixed_get hB q hj, ← rotN_add, ← Nat.mul_add]
  refine rot_eq (blk_in hB j) ?_
  simp [Nat.mul_mod]

theorem mixed_cor (hB : (f33 l).2 = 0) (q lag : Nat) : f99 (mixed l q, (lag : Int)) = f52 (f99 (l, (lag : Int)), ((lag * q : Nat) : Int)) := by
  unfold f99
  rw [f52_nat (inR_sumN _ _)]
  simp only [mixed_length, Int.toNat_natCast]
  rw [← sumN_rot]
  refine sumN_congr fun k hk => ?_
  unfold corAt
  simp only [Int.toNat_natCast]
  rw [mixed_get hB q (by omega), mixed_get hB q (by omega), Nat.add_mul, rotN_add, mul_rotN, mul_right]
end
end Go.Proofs.Ytdhekhichomoiaa
end

section
namespace Go.Proofs.Ytdhekhichomoiaa
open Go Go.Pi Go.RowKit
set_option maxRecDepth 100000
set_option linter.unusedVariables false
set_option linter.unusedSimpArgs false

def f8 (x : List (Int × Int) × Int × Int) : Bool := true
def f8_e : Entry := { doms := [(false, (.sl (.pair (.int .i64) (.int .i64)))), (false, (.int .i64)), (false, (.int .i64))], cods := [(false, .bool)], pre := fun _ => True, fn := f8, uq := false, total := true }
def f8_E : Env := [(16, f16_e), (18, f18_e), (25, f25_e), (26, f26_e), (27, f27_e), (28, f28_e), (29, f29_e), (51, f51_e), (52, f52_e)]
def f8_A : Anns := { loops := [(1048576, { tms := [(1, .keep), (11, .keep), (13, .keep), (19, .data false (.int .i64))], obs := [(1057798, .keep), (1058822, .keep), (1059847, .keep), (1060871, .keep)], fz := [] })], own := [] }
theorem f8_run (a0 : List (Int × Int)) (a1 : Int) (a2 : Int) (K : Bool → Prop) : runF Try.prog f8_E f8_A 6 Try.f8 f8_e.doms f8_e.cods (a0, a1, a2) K =
    (br (!(f16 ()))
    (K false)
    (br ((f28 a0) != 0)
    (K true)
    (br (!(f18 (a1, (0, 3))))
    (K true)
    (br (!(f18 (a2, (0, 48))))
    (K true)
    (f26_pre a0 ∧
    br ((f25 ((f26 a0), a1)).2 != 0)
    (K false)
    (br ((f28 ((f25 ((f26 a0), a1)).1)) != 0)
    (K false)
    (br (lenOk (((f25 ((f26 a0), a1)).1).length))
    (br (lenOk (a0.length))
    (br (((((f25 ((f26 a0), a1)).1).length) : Int) != ((a0.length) : Int))
    (K false)
    (f26_pre ((f25 ((f26 a0), a1)).1) ∧
    f26_pre a0 ∧
    f26_pre ((f25 ((f26 a0), a1)).1) ∧
    f26_pre a0 ∧
    f26_pre ((f25 ((f26 a0), a1)).1) ∧
    br ((f25 ((f26 ((f25 ((f26 a0), a1)).1)), ((IntKind.i64.wrap (4 - a1)).tmod 4))).2 != 0)
    (K false)
    (br (!(f29 ((f25 ((f26 ((f25 ((f26 a0), a1)).1)), ((IntKind.i64.wrap (4 - a1)).tmod 4))).1, a0)))
    (K false)
    (br ((f51 (f26 a0)).2 != 0)
    (K false)
    (br ((f51 (f26 ((f25 ((f26 a0), a1)).1))).2 != 0)
    (K false)
    (br ((f27 ((f26 a0), a2)).2 != 0)
    (K false)
    (br ((f27 ((f26 ((f25 ((f26 a0), a1)).1)), a2)).2 != 0)
    (K false)
    (br (!((((f27 ((f26 ((f25 ((f26 a0), a1)).1)), a2)).1).1 == (f52 (((f27 ((f26 a0), a2)).1), (IntKind.i64.wrap (a2 * a1)))).1) && ((((f27 ((f26 ((f25 ((f26 a0), a1)).1)), a2)).1).2 == (f52 (((f27 ((f26 a0), a2)).1), (IntKind.i64.wrap (a2 * a1)))).2) && true)))
    (K false)
    (LoopP (V := Int × Unit) (fun again v => (fun (again1 : Int → Prop) (v1_0 : Int) =>
    br (decide (v1_0 < 4))
    (br (decide (0 ≤ v1_0) && decide (v1_0 < 4))
    (br (decide (0 ≤ ((IntKind.i64.wrap (v1_0 + a1)).tmod 4)) && decide (((IntKind.i64.wrap (v1_0 + a1)).tmod 4) < 4))
    (br (!(((([(((f51 (f26 ((f25 ((f26 a0), a1)).1))).1).1), ((((f51 (f26 ((f25 ((f26 a0), a1)).1))).1).2).1), (((((f51 (f26 ((f25 ((f26 a0), a1)).1))).1).2).2).1), (((((f51 (f26 ((f25 ((f26 a0), a1)).1))).1).2).2).2)] : List (Int × Int)).getD v1_0.toNat (0, 0)).1 == (([(((f51 (f26 a0)).1).1), ((((f51 (f26 a0)).1).2).1), (((((f51 (f26 a0)).1).2).2).1), (((((f51 (f26 a0)).1).2).2).2)] : List (Int × Int)).getD (((IntKind.i64.wrap (v1_0 + a1)).tmod 4).toNat) (0, 0)).1) && (((([(((f51 (f26 ((f25 ((f26 a0), a1)).1))).1).1), ((((f51 (f26 ((f25 ((f26 a0), a1)).1))).1).2).1), (((((f51 (f26 ((f25 ((f26 a0), a1)).1))).1).2).2).1), (((((f51 (f26 ((f25 ((f26 a0), a1)).1))).1).2).2).2)] : List (Int × Int)).getD v1_0.toNat (0, 0)).2 == (([(((f51 (f26 a0)).1).1), ((((f51 (f26 a0)).1).2).1), (((((f51 (f26 a0)).1).2).2).1), (((((f51 (f26 a0)).1).2).2).2)] : List (Int × Int)).getD (((IntKind.i64.wrap (v1_0 + a1)).tmod 4).toNat) (0, 0)).2) && true)))
    (K false)
    (again1 (IntKind.i64.wrap (v1_0 + 1))))
    False)
    False)
    (K true))
    (fun v1_0 => again (v1_0, ())) v.1) (0, ()))))))))))
    True)
    True))))))) := by kernel_rfl
theorem f8_t (a0 : List (Int × Int)) (a1 : Int) (a2 : Int) (K : Bool → Prop) (hK : ∀ y : Bool, y = f8 (a0, a1, a2) → K y) : RunF Try.prog f8_E f8_A 6 Try.f8 f8_e.doms f8_e.cods (a0, a1, a2) K := by
  refine ⟨?_⟩
  rw [f8_run a0 a1 a2 K]
  have kt : K true := hK _ (by simp [f8])
  rw [show f16 () = true from rfl, Bool.not_true, br_f]
  by_cases hB : (f33 a0).2 ≠ 0
  · rw [show (f28 a0 != 0) = true by simpa [f28] using hB, br_t]
    exact kt
  have hB : (f33 a0).2 = 0 := by simpa using hB
  rw [show (f28 a0 != 0) = false by simpa [f28] using hB, br_f]
  by_cases hq : ¬ (0 ≤ a1 ∧ a1 ≤ 3)
  · rw [show f18 (a1, 0, 3) = false by simp only [f18, Bool.and_eq_false_iff, decide_eq_false_iff_not]; omega, Bool.not_false, br_t]
    exact kt
  have hq : 0 ≤ a1 ∧ a1 ≤ 3 := by omega
  rw [show f18 (a1, 0, 3) = true by simp [f18, hq], Bool.not_true, br_f]
  by_cases hlag : ¬ (0 ≤ a2 ∧ a2 ≤ 48)
  · rw [show f18 (a2, 0, 48) = false by simp only [f18, Bool.and_eq_false_iff, decide_eq_false_iff_not]; omega, Bool.not_false, br_t]
    exact kt
  have hlag : 0 ≤ a2 ∧ a2 ≤ 48 := by omega
  rw [show f18 (a2, 0, 48) = true by simp [f18, hlag], Bool.not_true, br_f]
  obtain ⟨q, rfl⟩ := Int.eq_ofNat_of_zero_le hq.1
  obtain ⟨lag, rfl⟩ := Int.eq_ofNat_of_zero_le hlag.1
  have hq3 : q ≤ 3 := by omega
  obtain ⟨hl0, hl48, _⟩ := blk_ok hB
  have hM := mixed_ok hB q
  have hml := mixed_length (l := a0) q
  have e25 : f25 (a0, (q : Int)) = (mixed a0 q, 0) := by simp [f25, f42, hB, hq, mixed]
  have hr : (IntKind.i64.wrap (4 - (q : Int))).tmod 4 = (((4 - q) % 4 : Nat) : Int) := by
    rw [wr (by omega) (by omega)]
    match q, hq3 with
    | 0, _ => rfl
    | 1, _ => rfl
    | 2, _ => rfl
    | 3, _ => rfl
  have e25b : f25 (mixed a0 q, (((4 - q) % 4 : Nat) : Int)) = (a0, 0) := by
    have h1 : (0 : Int) ≤ (((4 - q) % 4 : Nat) : Int) ∧ (((4 - q) % 4 : Nat) : Int) ≤ 3 := by omega
    have h2 : f25 (mixed a0 q, (((4 - q) % 4 : Nat) : Int)) = (mixed (mixed a0 q) ((4 - q) % 4), 0) := by
      rw [f25]
      simp only [hM]
      rw [if_pos h1]
      simp [f42, mixed]
    rw [h2, mixed_back hB q _ (by omega)]
  have e27 : f27 (a0, (lag : Int)) = (f99 (a0, (lag : Int)), 0) := by simp [f27, f42, hB, hlag]
  have e27b : f27 (mixed a0 q, (lag : Int)) = (f99 (mixed a0 q, (lag : Int)), 0) := by simp [f27, f42, hM, hlag]
  have e51 : f51 a0 = (f113 a0, 0) := by simp [f51, hB]
  have e51b : f51 (mixed a0 q) = (f113 (mixed a0 q), 0) := by simp [f51, hM]
  have hpa : f26_pre a0 := by show a0.length ≤ _; omega
  have hpm : f26_pre (mixed a0 q) := by show (mixed a0 q).length ≤ _; omega
  have i26 : ∀ l, f26 l = l := fun l => rfl
  simp only [i26, e25, hr, e25b, e27, e27b, e51, e51b]
  refine ⟨hpa, ?_⟩
  rw [show ((0 : Int) != 0) = false from rfl, br_f]
  rw [show (f28 (mixed a0 q) != 0) = false by simpa [f28] using hM, br_f, br_true_]
  intro _
  rw [br_true_]
  intro _
  rw [show (((mixed a0 q).length : Int) != (a0.length : Int)) = false by simp [hml], br_f]
  refine ⟨hpm, hpa, hpm, hpa, hpm, ?_⟩
  rw [br_f, show f29 (a0, a0) = true by simp [f29], Bool.not_true, br_f, br_f, br_f, br_f, br_f]
  have hm : IntKind.i64.wrap ((lag : Int) * (q : Int)) = ((lag * q : Nat) : Int) := by
    have h1 : lag * q ≤ 48 * 3 := Nat.mul_le_mul (by omega) hq3
    rw [← Int.natCast_mul, wr (by omega) (by omega)]
  rw [hm, mixed_cor hB q lag]
  rw [show ∀ z : Int × Int, (!((z.1 == z.1) && ((z.2 == z.2) && true))) = false by intro z; simp, br_f]
  refine LoopP.up 4 (fun i v => True) (fun again i v hi0 hn hI hag => ?_) (by omega) trivial
  dsimp only
  rw [br_dec]
  refine ⟨fun hi => ?_, fun hi => kt⟩
  obtain ⟨n, rfl⟩ := Int.eq_ofNat_of_zero_le hi0
  have hn4 : n < 4 := by omega
  have ht : (IntKind.i64.wrap ((n : Int) + (q : Int))).tmod 4 = (((n + q) % 4 : Nat) : Int) := by
    rw [wr (by omega) (by omega), Int.tmod_eq_emod_of_nonneg (by omega)]
    omega
  rw [ht]
  simp only [br_false_, Bool.and_eq_true, decide_eq_true_eq]
  refine ⟨⟨by omega, by omega⟩, ⟨by omega, by omega⟩, ?_⟩
  have hget : ∀ (l : List (Int × Int)) (k : Nat), k < 4 → ([(f113 l).1, (f113 l).2.1, (f113 l).2.2.1, (f113 l).2.2.2] : List (Int × Int)).getD k (0, 0) = lineAt l k := by
    intro l k hk
    match k, hk with
    | 0, _ => rfl
    | 1, _ => rfl
    | 2, _ => rfl
    | 3, _ => rfl
  rw [Int.toNat_natCast, Int.toNat_natCast, hget _ n hn4, hget _ _ (Nat.mod_lt _ (by omega)), mixed_line hB q n]
  rw [show ∀ z : Int × Int, (!((z.1 == z.1) && ((z.2 == z.2) && true))) = false by intro z; simp, br_f]
  rw [wr (by omega) (by omega)]
  exact hag () hi trivial
theorem f8_fn : f8_e.fn = f8 := rfl
theorem f8_ok : EntryOK Try.prog 8 f8_e := by
  refine entryF progOK (EnvOK.cons f16_ok (EnvOK.cons f18_ok (EnvOK.cons f25_ok (EnvOK.cons f26_ok (EnvOK.cons f27_ok (EnvOK.cons f28_ok (EnvOK.cons f29_ok (EnvOK.cons f51_ok (EnvOK.cons f52_ok (EnvOK.nil)))))))))) (A := f8_A) (d := 6) Try.func8 rfl rfl (fun _ _ => trivial) fun x hpre => ?_
  obtain ⟨a0, a1, a2⟩ := x
  exact f8_t a0 a1 a2 _ fun _ h => h.trans (congrFun f8_fn.symm _)
end Go.Proofs.Ytdhekhichomoiaa
end
