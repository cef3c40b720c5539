/- What functions of the program compute, each proved once, part 8. -/
import Derived.Test.YtglijnhkdnhofaaPiD
import Derived.Test.YtglijnhkdnhofaaFnA
import Derived.Test.YtglijnhkdnhofaaFnG
import Derived.Test.YtglijnhkdnhofaaFnF
import Derived.Test.YtglijnhkdnhofaaFnB
import Derived.Test.YtglijnhkdnhofaaFnE

section
namespace Go.Proofs.Ytglijnhkdnhofaa
open Go Go.Pi Go.RowKit
set_option maxRecDepth 100000
set_option linter.unusedVariables false
set_option linter.unusedSimpArgs false

def f81 (x : List (Int × Int × Int) × Int) : Int × Int × Int := solA x.1 x.2
def f81_pre (x : List (Int × Int × Int) × Int) : Prop := x.1.length ≤ 1000 ∧ (∀ d ∈ x.1, V3.le d 9) ∧ 0 ≤ x.2 ∧ x.2 < 3
def f81_e : Entry := { doms := [(false, (.sl (.pair (.int .i64) (.pair (.int .i64) (.int .i64))))), (false, (.int .i64))], cods := [(true, (.pair (.int .i64) (.pair (.int .i64) (.int .i64))))], pre := f81_pre, fn := f81, uq := false, total := false }
def f81_E : Env := [(27, f27_e), (78, f78_e), (80, f80_e), (112, f112_e)]
def f81_A : Anns := { loops := [(1048576, { tms := [(0, .keep), (1, .keep), (4, .keep), (5, .ref 1049600), (6, .data false (.int .i64))], obs := [(1048576, .keep), (1049600, .arr (.uniq) (.pair (.int .i64) (.pair (.int .i64) (.int .i64))))], fz := [] }),
  (1048578, { tms := [(1, .keep), (4, .keep), (5, .keep), (9, .data false (.int .i64))], obs := [(1048576, .keep), (1049600, .keep)], fz := [] }),
  (1048580, { tms := [(1, .keep), (4, .keep), (5, .keep), (9, .keep), (10, .data false (.int .i64))], obs := [(1048576, .keep), (1049600, .keep)], fz := [] }),
  (1572885, { tms := [(1, .keep), (4, .keep), (5, .ref 1049600)], obs := [(1048576, .keep), (1049600, .arr (.uniq) (.pair (.int .i64) (.pair (.int .i64) (.int .i64))))], fz := [] })], own := [1049600] }
theorem f81_run (a0 : List (Int × Int × Int)) (a1 : Int) (K : (Int × Int × Int) → Prop) : runF Try.prog f81_E f81_A 6 Try.f81 f81_e.doms f81_e.cods (a0, a1) K =
    (br (roomOk (0 + (a0.length)) 24)
    (JoinQ (V := List (Int × Int × Int) × Unit) (fun J => (fun (join2 : List (Int × Int × Int) → Prop) =>
    LoopP (V := Int × List (Int × Int × Int) × Unit) (fun again v => (fun (again1 : Int → List (Int × Int × Int) → Prop) (v1_0 : Int) (v1_1 : List (Int × Int × Int)) =>
    br (decide (v1_0 < 3))
    (br (v1_0 != a1)
    (f80_pre (a0, (IntKind.i64.wrap (v1_0 + 1))) ∧
    f80_pre (a0, v1_0) ∧
    br ((f27 (f80 (a0, (IntKind.i64.wrap (v1_0 + 1))))) == (f27 (f80 (a0, v1_0))))
    (br (decide (0 ≤ v1_0) && decide (v1_0 < 3))
    (br (roomOk ((v1_1.length) + 1) 24)
    (again1 (IntKind.i64.wrap (v1_0 + 1)) (v1_1 ++ ([(((([0, 0, 0] : List Int).set v1_0.toNat 1).getD 0 0), (((([0, 0, 0] : List Int).set v1_0.toNat 1).getD 1 0), ((([0, 0, 0] : List Int).set v1_0.toNat 1).getD 2 0)))] : List (Int × Int × Int))))
    False)
    False)
    (again1 (IntKind.i64.wrap (v1_0 + 1)) v1_1))
    (again1 (IntKind.i64.wrap (v1_0 + 1)) v1_1))
    (join2 v1_1))
    (fun v1_0 v1_1 => again (v1_0, v1_1, ())) v.1 v.2.1) (0, (([] : List (Int × Int × Int)) ++ a0), ())) (fun j2_0 => J (j2_0, ()))) (fun v => (fun (j2_0 : List (Int × Int × Int)) =>
    br ((f27 j2_0) == 0)
    (br (decide (0 ≤ a1) && decide (a1 < 3))
    (K (((([0, 0, 0] : List Int).set a1.toNat 1).getD 0 0), (((([0, 0, 0] : List Int).set a1.toNat 1).getD 1 0), ((([0, 0, 0] : List Int).set a1.toNat 1).getD 2 0))))
    False)
    (LoopP (V := Int × Unit) (fun again v => (fun (again3 : Int → Prop) (v3_0 : Int) =>
    br (lenOk (j2_0.length))
    (br (decide (v3_0 < ((j2_0.length) : Int)))
    (LoopP (V := Int × Unit) (fun again v => (fun (again4 : Int → Prop) (v4_0 : Int) =>
    br (decide (v4_0 < v3_0))
    (br (decide (0 ≤ v3_0) && decide (v3_0 < ((j2_0.length) : Int)))
    (br (decide (0 ≤ v4_0) && decide (v4_0 < ((j2_0.length) : Int)))
    (br (decide (0 ≤ a1) && decide (a1 < 3))
    (br ((([(f78 (((j2_0.getD v3_0.toNat (0, (0, 0))).1, ((j2_0.getD v3_0.toNat (0, (0, 0))).2)), ((j2_0.getD v4_0.toNat (0, (0, 0))).1, ((j2_0.getD v4_0.toNat (0, (0, 0))).2)))).1, ((f78 (((j2_0.getD v3_0.toNat (0, (0, 0))).1, ((j2_0.getD v3_0.toNat (0, (0, 0))).2)), ((j2_0.getD v4_0.toNat (0, (0, 0))).1, ((j2_0.getD v4_0.toNat (0, (0, 0))).2)))).2).1, ((f78 (((j2_0.getD v3_0.toNat (0, (0, 0))).1, ((j2_0.getD v3_0.toNat (0, (0, 0))).2)), ((j2_0.getD v4_0.toNat (0, (0, 0))).1, ((j2_0.getD v4_0.toNat (0, (0, 0))).2)))).2).2] : List Int).getD a1.toNat 0) != 0)
    (f112_pre (((f78 (((j2_0.getD v3_0.toNat (0, (0, 0))).1, ((j2_0.getD v3_0.toNat (0, (0, 0))).2)), ((j2_0.getD v4_0.toNat (0, (0, 0))).1, ((j2_0.getD v4_0.toNat (0, (0, 0))).2)))).1, ((f78 (((j2_0.getD v3_0.toNat (0, (0, 0))).1, ((j2_0.getD v3_0.toNat (0, (0, 0))).2)), ((j2_0.getD v4_0.toNat (0, (0, 0))).1, ((j2_0.getD v4_0.toNat (0, (0, 0))).2)))).2)), a1) ∧
    K ((f112 (((f78 (((j2_0.getD v3_0.toNat (0, (0, 0))).1, ((j2_0.getD v3_0.toNat (0, (0, 0))).2)), ((j2_0.getD v4_0.toNat (0, (0, 0))).1, ((j2_0.getD v4_0.toNat (0, (0, 0))).2)))).1, ((f78 (((j2_0.getD v3_0.toNat (0, (0, 0))).1, ((j2_0.getD v3_0.toNat (0, (0, 0))).2)), ((j2_0.getD v4_0.toNat (0, (0, 0))).1, ((j2_0.getD v4_0.toNat (0, (0, 0))).2)))).2)), a1)).1, ((f112 (((f78 (((j2_0.getD v3_0.toNat (0, (0, 0))).1, ((j2_0.getD v3_0.toNat (0, (0, 0))).2)), ((j2_0.getD v4_0.toNat (0, (0, 0))).1, ((j2_0.getD v4_0.toNat (0, (0, 0))).2)))).1, ((f78 (((j2_0.getD v3_0.toNat (0, (0, 0))).1, ((j2_0.getD v3_0.toNat (0, (0, 0))).2)), ((j2_0.getD v4_0.toNat (0, (0, 0))).1, ((j2_0.getD v4_0.toNat (0, (0, 0))).2)))).2)), a1)).2)))
    (again4 (IntKind.i64.wrap (v4_0 + 1))))
    False)
    False)
    False)
    (again3 (IntKind.i64.wrap (v3_0 + 1))))
    (fun v4_0 => again (v4_0, ())) v.1) (0, ()))
    (K (0, (0, 0))))
    True)
    (fun v3_0 => again (v3_0, ())) v.1) (0, ()))) v.1))
    False) := by kernel_rfl
theorem f81_t (a0 : List (Int × Int × Int)) (a1 : Int) (hpre : f81_pre (a0, a1)) (K : (Int × Int × Int) → Prop) (hK : ∀ y : Int × Int × Int, y = f81 (a0, a1) → K y) : RunF Try.prog f81_E f81_A 6 Try.f81 f81_e.doms f81_e.cods (a0, a1) K := by
  refine ⟨?_⟩
  rw [f81_run a0 a1 K]
  obtain ⟨hl, hd, c0, c1⟩ := hpre
  dsimp only at hl hd c0 c1
  have e27 : ∀ l, f27 l = rkR l := fun _ => rfl
  have e80 : ∀ n, f80 (a0, n) = a0.map (kpt · n) := fun _ => rfl
  have e78 : ∀ a b : V3, f78 (a, b) = w3 (cross a b) := fun _ _ => rfl
  have e112 : ∀ (v : V3) (k : Int), f112 (v, k) = prim v k := fun _ _ => rfl
  have e0 : f81 (a0, a1) = solA a0 a1 := rfl
  simp only [e27, e80]
  refine br_must (by rw [roomOk_iff]; omega) (JoinQ.use (fun q => q = (rowsA a0 a1, ())) (fun G hG => ?_) fun q hq => ?_)
  · refine LoopP.of (fun q : Int × List (Int × Int × Int) × Unit => ∃ i : Nat, i ≤ 3 ∧ q = ((i : Int), a0 ++ (List.range i).flatMap (addU a0 a1), ())) (fun q => (3 - q.1).toNat) (fun again q hq hag => ?_) ⟨0, by omega, by simp⟩
    obtain ⟨i, hi, rfl⟩ := hq
    dsimp only
    have hal : ∀ k, (addU a0 a1 k).length ≤ 1 := fun k => by unfold addU; split <;> simp
    have hsz := flatMap_len (addU a0 a1) 1 i fun k _ => hal k
    refine br_if (fun hlt => ?_) fun hge => ?_
    rotate_left
    · have : i = 3 := by omega
      rw [this]; exact hG _ rfl
    have hlt' : i < 3 := by omega
    have nx : ∀ r, r = a0 ++ (List.range (i + 1)).flatMap (addU a0 a1) → again ((i : Int) + 1, r, ()) := fun r hr => hag _ ⟨i + 1, by omega, by rw [hr]; rfl⟩ (by dsimp only; omega)
    rw [wr (n := (i : Int) + 1) (by omega) (by omega)]
    refine br_two (fun hne => ⟨⟨by dsimp only; omega, by dsimp only; omega⟩, ⟨by dsimp only; omega, by dsimp only; omega⟩, br_two (fun hf => ?_) fun hf => nx _ ?_⟩) fun heq => nx _ ?_
    · have hne := bne_t.1 hne
      refine br_must (by simp; omega) (br_must ?_ (nx _ ?_))
      · rw [roomOk_iff, List.length_append]; omega
      · rw [flatMap_succ, ← List.append_assoc]
        have : addU a0 a1 i = [unit3 i] := if_pos ⟨hne, hf⟩
        rw [this]; rfl
    · have : addU a0 a1 i = [] := if_neg (fun hh => by
        have h1 : freeB a0 i = false := hf
        rw [hh.2] at h1; cases h1)
      rw [flatMap_succ, this, List.append_nil]
    · have : addU a0 a1 i = [] := if_neg (fun hh => hh.1 (bne_f.1 heq))
      rw [flatMap_succ, this, List.append_nil]
  subst hq
  dsimp only
  have hrl := rowsA_le a1 hd
  have hR : ∃ R, R = rowsA a0 a1 := ⟨_, rfl⟩
  have hsz : (rowsA a0 a1).length ≤ 2000 := by
    have := flatMap_len (addU a0 a1) 1 3 fun k _ => by unfold addU; split <;> simp
    unfold rowsA
    rw [List.length_append]
    omega
  refine br_two (fun h => br_must (by simp; omega) (hK _ ?_)) fun h => ?_
  · rw [e0, solA, if_pos (beq_iff_eq.1 h)]; rfl
  have h := beq_eq_false_iff_ne.1 h
  have e1 : f81 (a0, a1) = solM (fnd (rowsA a0 a1) a1 (rowsA a0 a1).length) a1 := by rw [e0, solA, if_neg h]
  generalize rowsA a0 a1 = R at *
  refine LoopP.of (fun q : Int × Unit => ∃ i : Nat, i ≤ R.length ∧ q = ((i : Int), ()) ∧ fnd R a1 i = none) (fun q => ((R.length : Int) - q.1).toNat) (fun again3 q hq hag => ?_) ⟨0, by omega, rfl, rfl⟩
  obtain ⟨i, hi, rfl, hI⟩ := hq
  dsimp only
  refine br_weak (br_if (fun hlt => ?_) fun hge => hK _ ?_)
  rotate_left
  · have : i = R.length := by omega
    rw [e1, ← this, hI]; rfl
  have hlt' : i < R.length := by omega
  have bi := inb (show (0 : Int) ≤ i by omega) hlt
  rw [wr (n := (i : Int) + 1) (by omega) (by omega)]
  refine LoopP.of (fun q : Int × Unit => ∃ j : Nat, j ≤ i ∧ q = ((j : Int), ()) ∧ (List.range j).findSome? (fndJ R a1 i) = none) (fun q => ((i : Int) - q.1).toNat) (fun again4 q hq hag4 => ?_) ⟨0, by omega, rfl, rfl⟩
  obtain ⟨j, hj, rfl, hJ⟩ := hq
  dsimp only
  refine br_if (fun hlt2 => ?_) fun hge2 => ?_
  rotate_left
  · have : j = i := by omega
    subst this
    refine hag _ ⟨j + 1, by omega, rfl, ?_⟩ (by dsimp only; omega)
    rw [fnd, some_succ]
    unfold fnd at hI
    rw [hI]
    exact hJ
  have hlt2' : j < i := by omega
  have bj := inb (show (0 : Int) ≤ j by omega) (show (j : Int) < (R.length : Int) by omega)
  rw [wr (n := (j : Int) + 1) (by omega) (by omega)]
  simp only [Int.toNat_natCast, e78]
  have hcl : V3.le (w3 (cross (R.getD i z3) (R.getD j z3))) 162 := by
    have q1 := hrl _ (getD_mem3 hlt')
    have q2 := hrl _ (getD_mem3 (show j < R.length by omega))
    rw [cr_w q1 q2]
    exact cross_le q1 q2
  refine br_must bi (br_must bj (br_must (by simp; omega) (br_two (fun hn => ?_) fun hn => hag4 _ ⟨j + 1, by omega, rfl, ?_⟩ (by dsimp only; omega))))
  · have hn : at3 (w3 (cross (R.getD i z3) (R.getD j z3))) a1 ≠ 0 := bne_t.1 hn
    have hf : fndJ R a1 i j = some (w3 (cross (R.getD i z3) (R.getD j z3))) := if_pos hn
    have h1 : fndI R a1 i = some (w3 (cross (R.getD i z3) (R.getD j z3))) := some_mono _ hJ hf i hlt2'
    have h2 : fnd R a1 R.length = some (w3 (cross (R.getD i z3) (R.getD j z3))) := some_mono _ hI h1 R.length hlt'
    have hz : w3 (cross (R.getD i z3) (R.getD j z3)) ≠ z3 := fun hh => by
      rw [hh] at hn
      have : a1 = 0 ∨ a1 = 1 ∨ a1 = 2 := by omega
      rcases this with rfl | rfl | rfl <;> exact hn rfl
    have le : ∀ {n : Int}, (-162 ≤ n ∧ n ≤ 162) → -1000000000 ≤ n ∧ n ≤ 1000000000 := fun h => by omega
    refine ⟨⟨⟨le hcl.1, le hcl.2.1, le hcl.2.2⟩, hz, c0, c1⟩, hK _ ?_⟩
    rw [e1, h2]; rfl
  · have hn : at3 (w3 (cross (R.getD i z3) (R.getD j z3))) a1 = 0 := bne_f.1 hn
    rw [some_succ, hJ]
    exact if_neg (fun hh => hh hn)
theorem f81_fn : f81_e.fn = f81 := rfl
theorem f81_ok : EntryOK Try.prog 81 f81_e := by
  refine entryF progOK (EnvOK.cons f27_ok (EnvOK.cons f78_ok (EnvOK.cons f80_ok (EnvOK.cons f112_ok (EnvOK.nil))))) (A := f81_A) (d := 6) Try.func81 rfl rfl rfl rfl (fun h => by cases h) fun x hpre => ?_
  obtain ⟨a0, a1⟩ := x
  exact f81_t a0 a1 hpre _ fun _ h => h.trans (congrFun f81_fn.symm _)
end Go.Proofs.Ytglijnhkdnhofaa
end

section
namespace Go.Proofs.Ytglijnhkdnhofaa
open Go Go.Pi Go.RowKit
set_option maxRecDepth 100000
set_option linter.unusedVariables false
set_option linter.unusedSimpArgs false

def f30 (l : List ((Int × Int × Int) × Int × Int)) : List (Int × Int × Int) := undR (l.map (·.1))
def f30_pre (l : List ((Int × Int × Int) × Int × Int)) : Prop := l.length ≤ 1000 ∧ ∀ r ∈ l, V3.le r.1 9
def f30_e : Entry := { doms := [(false, (.sl (.pair (.pair (.int .i64) (.pair (.int .i64) (.int .i64))) (.pair (.int .i64) (.int .i64)))))], cods := [(false, (.sl (.pair (.int .i64) (.pair (.int .i64) (.int .i64)))))], pre := f30_pre, fn := f30, uq := false, total := false }
def f30_E : Env := [(27, f27_e), (28, f28_e), (80, f80_e), (81, f81_e)]
def f30_A : Anns := { loops := [], own := [], unroll := 4 }
theorem f30_run (a0 : List ((Int × Int × Int) × Int × Int)) (K : (List (Int × Int × Int)) → Prop) : runF Try.prog f30_E f30_A 6 Try.f30 f30_e.doms f30_e.cods a0 K =
    (f28_pre a0 ∧
    f80_pre ((f28 a0), 1) ∧
    f80_pre ((f28 a0), 0) ∧
    br ((f27 (f80 ((f28 a0), 1))) != (f27 (f80 ((f28 a0), 0))))
    (f80_pre ((f28 a0), 2) ∧
    f80_pre ((f28 a0), 1) ∧
    br ((f27 (f80 ((f28 a0), 2))) != (f27 (f80 ((f28 a0), 1))))
    (f80_pre ((f28 a0), 3) ∧
    f80_pre ((f28 a0), 2) ∧
    br ((f27 (f80 ((f28 a0), 3))) != (f27 (f80 ((f28 a0), 2))))
    (K ([] : List (Int × Int × Int)))
    (f81_pre ((f28 a0), 2) ∧
    K ([((f81 ((f28 a0), 2)).1, ((f81 ((f28 a0), 2)).2))] : List (Int × Int × Int))))
    (f81_pre ((f28 a0), 1) ∧
    f80_pre ((f28 a0), 3) ∧
    f80_pre ((f28 a0), 2) ∧
    br ((f27 (f80 ((f28 a0), 3))) != (f27 (f80 ((f28 a0), 2))))
    (K ([((f81 ((f28 a0), 1)).1, ((f81 ((f28 a0), 1)).2))] : List (Int × Int × Int)))
    (f81_pre ((f28 a0), 2) ∧
    K ([((f81 ((f28 a0), 1)).1, ((f81 ((f28 a0), 1)).2)), ((f81 ((f28 a0), 2)).1, ((f81 ((f28 a0), 2)).2))] : List (Int × Int × Int)))))
    (f81_pre ((f28 a0), 0) ∧
    f80_pre ((f28 a0), 2) ∧
    f80_pre ((f28 a0), 1) ∧
    br ((f27 (f80 ((f28 a0), 2))) != (f27 (f80 ((f28 a0), 1))))
    (f80_pre ((f28 a0), 3) ∧
    f80_pre ((f28 a0), 2) ∧
    br ((f27 (f80 ((f28 a0), 3))) != (f27 (f80 ((f28 a0), 2))))
    (K ([((f81 ((f28 a0), 0)).1, ((f81 ((f28 a0), 0)).2))] : List (Int × Int × Int)))
    (f81_pre ((f28 a0), 2) ∧
    K ([((f81 ((f28 a0), 0)).1, ((f81 ((f28 a0), 0)).2)), ((f81 ((f28 a0), 2)).1, ((f81 ((f28 a0), 2)).2))] : List (Int × Int × Int))))
    (f81_pre ((f28 a0), 1) ∧
    f80_pre ((f28 a0), 3) ∧
    f80_pre ((f28 a0), 2) ∧
    br ((f27 (f80 ((f28 a0), 3))) != (f27 (f80 ((f28 a0), 2))))
    (K ([((f81 ((f28 a0), 0)).1, ((f81 ((f28 a0), 0)).2)), ((f81 ((f28 a0), 1)).1, ((f81 ((f28 a0), 1)).2))] : List (Int × Int × Int)))
    (f81_pre ((f28 a0), 2) ∧
    K ([((f81 ((f28 a0), 0)).1, ((f81 ((f28 a0), 0)).2)), ((f81 ((f28 a0), 1)).1, ((f81 ((f28 a0), 1)).2)), ((f81 ((f28 a0), 2)).1, ((f81 ((f28 a0), 2)).2))] : List (Int × Int × Int)))))) := by kernel_rfl
theorem f30_t (a0 : List ((Int × Int × Int) × Int × Int)) (hpre : f30_pre a0) (K : (List (Int × Int × Int)) → Prop) (hK : ∀ y : List (Int × Int × Int), y = f30 a0 → K y) : RunF Try.prog f30_E f30_A 6 Try.f30 f30_e.doms f30_e.cods a0 K := by
  refine ⟨?_⟩
  rw [f30_run a0 K]
  obtain ⟨hl, hd⟩ := hpre
  have e28 : f28 a0 = a0.map (·.1) := rfl
  have e27 : ∀ l, f27 l = rkR l := fun _ => rfl
  have e80 : ∀ (l : List V3) n, f80 (l, n) = l.map (kpt · n) := fun _ _ => rfl
  have e81 : ∀ (l : List V3) n, f81 (l, n) = solA l n := fun _ _ => rfl
  have e0 : f30 a0 = undE (a0.map (·.1)) 0 ++ (undE (a0.map (·.1)) 1 ++ undE (a0.map (·.1)) 2) := by
    show undR _ = _
    simp [undR, List.range, List.range.loop]
  have p28 : f28_pre a0 := show a0.length ≤ 1048576 by omega
  have hml : (a0.map (·.1)).length = a0.length := List.length_map ..
  have hdm : ∀ d ∈ a0.map (·.1), V3.le d 9 := fun d hd2 => by
    obtain ⟨r, hr, rfl⟩ := List.mem_map.1 hd2; exact hd r hr
  simp only [e28, e27, e80, e81]
  rw [e0] at hK
  clear e0 e28
  generalize a0.map (·.1) = D at *
  have P : ∀ n : Int, n ≤ 3 → f80_pre (D, n) := fun n hn => ⟨by dsimp only; omega, hn⟩
  have Q : ∀ n : Int, 0 ≤ n → n < 3 → f81_pre (D, n) := fun n h0 h1 => ⟨by dsimp only; omega, hdm, h0, h1⟩
  have t0 : (rkR (D.map (kpt · 1)) != rkR (D.map (kpt · 0))) = !(freeB D ((0 : Nat) : Int)) := rfl
  have t1 : (rkR (D.map (kpt · 2)) != rkR (D.map (kpt · 1))) = !(freeB D ((1 : Nat) : Int)) := rfl
  have t2 : (rkR (D.map (kpt · 3)) != rkR (D.map (kpt · 2))) = !(freeB D ((2 : Nat) : Int)) := rfl
  rw [t0, t1, t2]
  unfold undE at hK
  refine ⟨p28, ?_⟩
  refine ⟨P _ (by omega), P _ (by omega), br_two (fun y0 => ?_) fun y0 => ?_⟩
  · have x0 : freeB D ((0 : Nat) : Int) = false := by simpa using y0
    refine ⟨P _ (by omega), P _ (by omega), br_two (fun y1 => ?_) fun y1 => ?_⟩
    · have x1 : freeB D ((1 : Nat) : Int) = false := by simpa using y1
      refine ⟨P _ (by omega), P _ (by omega), br_two (fun y2 => ?_) fun y2 => ?_⟩
      · have x2 : freeB D ((2 : Nat) : Int) = false := by simpa using y2
        exact hK _ (by rw [x0, x1, x2]; rfl)
      · have x2 : freeB D ((2 : Nat) : Int) = true := by simpa using y2
        refine ⟨Q _ (by omega) (by omega), ?_⟩
        exact hK _ (by rw [x0, x1, x2]; rfl)
    · have x1 : freeB D ((1 : Nat) : Int) = true := by simpa using y1
      refine ⟨Q _ (by omega) (by omega), ?_⟩
      refine ⟨P _ (by omega), P _ (by omega), br_two (fun y2 => ?_) fun y2 => ?_⟩
      · have x2 : freeB D ((2 : Nat) : Int) = false := by simpa using y2
        exact hK _ (by rw [x0, x1, x2]; rfl)
      · have x2 : freeB D ((2 : Nat) : Int) = true := by simpa using y2
        refine ⟨Q _ (by omega) (by omega), ?_⟩
        exact hK _ (by rw [x0, x1, x2]; rfl)
  · have x0 : freeB D ((0 : Nat) : Int) = true := by simpa using y0
    refine ⟨Q _ (by omega) (by omega), ?_⟩
    refine ⟨P _ (by omega), P _ (by omega), br_two (fun y1 => ?_) fun y1 => ?_⟩
    · have x1 : freeB D ((1 : Nat) : Int) = false := by simpa using y1
      refine ⟨P _ (by omega), P _ (by omega), br_two (fun y2 => ?_) fun y2 => ?_⟩
      · have x2 : freeB D ((2 : Nat) : Int) = false := by simpa using y2
        exact hK _ (by rw [x0, x1, x2]; rfl)
      · have x2 : freeB D ((2 : Nat) : Int) = true := by simpa using y2
        refine ⟨Q _ (by omega) (by omega), ?_⟩
        exact hK _ (by rw [x0, x1, x2]; rfl)
    · have x1 : freeB D ((1 : Nat) : Int) = true := by simpa using y1
      refine ⟨Q _ (by omega) (by omega), ?_⟩
      refine ⟨P _ (by omega), P _ (by omega), br_two (fun y2 => ?_) fun y2 => ?_⟩
      · have x2 : freeB D ((2 : Nat) : Int) = false := by simpa using y2
        exact hK _ (by rw [x0, x1, x2]; rfl)
      · have x2 : freeB D ((2 : Nat) : Int) = true := by simpa using y2
        refine ⟨Q _ (by omega) (by omega), ?_⟩
        exact hK _ (by rw [x0, x1, x2]; rfl)
theorem f30_fn : f30_e.fn = f30 := rfl
theorem f30_ok : EntryOK Try.prog 30 f30_e := by
  refine entryF progOK (EnvOK.cons f27_ok (EnvOK.cons f28_ok (EnvOK.cons f80_ok (EnvOK.cons f81_ok (EnvOK.nil))))) (A := f30_A) (d := 6) Try.func30 rfl rfl rfl rfl (fun h => by cases h) fun x hpre => ?_
  exact f30_t x hpre _ fun _ h => h.trans (congrFun f30_fn.symm _)
end Go.Proofs.Ytglijnhkdnhofaa
end

section
namespace Go.Pi
set_option linter.unusedVariables false
theorem prim_low {v : V3} {k : Int} (hk : k = 0 ∨ k = 1 ∨ k = 2) : prim v k = wpt (lowV v (at3 v k)) := by
  have hd : g3 v ∣ (at3 v k).natAbs := by
    obtain ⟨h1, h2, h3⟩ := g3_dvd v
    rcases hk with rfl | rfl | rfl
    · exact h1
    · exact h2
    · exact h3
  have e : g4 v (at3 v k) = g3 v := by
    unfold g4
    rw [gcdL_four, ← gcdL_three]
    exact Nat.gcd_eq_right hd
  have e2 : s4 v (at3 v k) = gS v k := by
    unfold s4 gS
    rw [e]
    split <;> omega
  unfold prim lowV wpt
  rw [e2]
theorem prim_par {v w : V3} {k : Int} (hk : k = 0 ∨ k = 1 ∨ k = 2) (hc : cross v w = z3) (hv : at3 v k ≠ 0) (hw : at3 w k ≠ 0) : prim v k = prim w k := by
  rw [prim_low hk, prim_low hk]
  have pr : v.1 * at3 w k = w.1 * at3 v k ∧ v.2.1 * at3 w k = w.2.1 * at3 v k ∧ v.2.2 * at3 w k = w.2.2 * at3 v k := by
    obtain ⟨v1, v2, v3⟩ := v
    obtain ⟨w1, w2, w3⟩ := w
    simp only [cross, Prod.mk.injEq] at hc
    obtain ⟨h1, h2, h3⟩ := hc
    rcases hk with rfl | rfl | rfl
    · show v1 * w1 = w1 * v1 ∧ v2 * w1 = w2 * v1 ∧ v3 * w1 = w3 * v1
      exact ⟨by grind, by grind, by grind⟩
    · show v1 * w2 = w1 * v2 ∧ v2 * w2 = w2 * v2 ∧ v3 * w2 = w3 * v2
      exact ⟨by grind, by grind, by grind⟩
    · show v1 * w3 = w1 * v3 ∧ v2 * w3 = w2 * v3 ∧ v3 * w3 = w3 * v3
      exact ⟨by grind, by grind, by grind⟩
  obtain ⟨a1, a2, a3⟩ := lowV_mul v (at3 v k) hv
  obtain ⟨b1, b2, b3⟩ := lowV_mul w (at3 w k) hw
  have key : ∀ {x y p q : Int}, x * at3 w k = y * at3 v k → x * (lowV v (at3 v k)).2.2.2 = p * at3 v k → y * (lowV w (at3 w k)).2.2.2 = q * at3 w k → p * (lowV w (at3 w k)).2.2.2 = q * (lowV v (at3 v k)).2.2.2 := fun {x y p q} h e1 e2 => by
    generalize (lowV v (at3 v k)).2.2.2 = dv at *
    generalize (lowV w (at3 w k)).2.2.2 = dw at *
    generalize at3 v k = d at *
    generalize at3 w k = e at *
    refine Int.eq_of_mul_eq_mul_right hv (Int.eq_of_mul_eq_mul_right hw ?_)
    have f1 : p * dw * d * e = (p * d) * dw * e := by grind
    have f2 : q * dv * d * e = (q * e) * dv * d := by grind
    rw [f1, f2, ← e1, ← e2]
    have f3 : x * dv * dw * e = (x * e) * dv * dw := by grind
    have f4 : y * dw * dv * d = (y * d) * dv * dw := by grind
    rw [f3, f4, h]
  rw [(lowV_ok hv).eq (lowV_ok hw) (key pr.1 a1 b1) (key pr.2.1 a2 b2) (key pr.2.2 a3 b3)]
/-- A cross of two vectors at right angles to a third is along it. -/
theorem cross_along {r s w : V3} (h1 : dot r w = 0) (h2 : dot s w = 0) : cross (cross r s) w = z3 := by
  obtain ⟨r1, r2, r3⟩ := r
  obtain ⟨s1, s2, s3⟩ := s
  obtain ⟨w1, w2, w3⟩ := w
  simp only [dot] at h1 h2
  simp only [cross, Prod.mk.injEq]
  refine ⟨by grind, by grind, by grind⟩
theorem fnd_some {R : List V3} {c : Int} {n : Nat} : (∃ i j, i < n ∧ j < i ∧ at3 (w3 (cross (R.getD i z3) (R.getD j z3))) c ≠ 0) → ∃ i j, i < n ∧ j < i ∧ fnd R c n = some (w3 (cross (R.getD i z3) (R.getD j z3))) ∧ at3 (w3 (cross (R.getD i z3) (R.getD j z3))) c ≠ 0 := by
  rintro ⟨i, j, hi, hj, h⟩
  cases e : fnd R c n with
  | none =>
    exfalso
    unfold fnd at e
    rw [List.findSome?_eq_none_iff] at e
    have e1 := e i (List.mem_range.2 hi)
    unfold fndI at e1
    rw [List.findSome?_eq_none_iff] at e1
    have e2 := e1 j (List.mem_range.2 hj)
    unfold fndJ at e2
    rw [if_pos h] at e2
    cases e2
  | some v =>
    unfold fnd at e
    obtain ⟨i, hi, e1⟩ := List.exists_of_findSome?_eq_some e
    unfold fndI at e1
    obtain ⟨j, hj, e2⟩ := List.exists_of_findSome?_eq_some e1
    unfold fndJ at e2
    split at e2
    · rename_i h2
      exact ⟨i, j, List.mem_range.1 hi, List.mem_range.1 hj, by rw [← e2], h2⟩
    · cases e2
theorem at3_neg (r s : V3) {k : Int} (hk : k = 0 ∨ k = 1 ∨ k = 2) : at3 (cross s r) k = -at3 (cross r s) k := by
  rcases hk with rfl | rfl | rfl
  · show s.2.1 * r.2.2 - s.2.2 * r.2.1 = -(r.2.1 * s.2.2 - r.2.2 * s.2.1); grind
  · show s.2.2 * r.1 - s.1 * r.2.2 = -(r.2.2 * s.1 - r.1 * s.2.2); grind
  · show s.1 * r.2.1 - s.2.1 * r.1 = -(r.1 * s.2.1 - r.2.1 * s.1); grind
/-- What the rows give is what is at right angles to all of them. -/
theorem sol_eq {l : List V3} (h : ∀ d ∈ l, V3.le d 9) {k : Int} (hk : k = 0 ∨ k = 1 ∨ k = 2) {w : V3} (hw : at3 w k ≠ 0) (ho : ∀ r ∈ rowsA l k, dot r w = 0) {r s : V3} (hr : r ∈ rowsA l k) (hs : s ∈ rowsA l k) (hn : at3 (cross r s) k ≠ 0) : solA l k = prim w k := by
  have hle := rowsA_le k h
  have hz : r ≠ z3 := fun hh => by
    subst hh
    refine hn ?_
    rcases hk with rfl | rfl | rfl <;> simp [at3, cross]
  have h1 : rkR (rowsA l k) ≠ 0 := by
    unfold rkR
    rw [any1_iff.2 ⟨r, hr, hz⟩]
    cases any2 (rowsA l k) (rowsA l k).length <;> cases any3 (rowsA l k) (rowsA l k).length <;> decide
  have pos : ∃ i j, i < (rowsA l k).length ∧ j < i ∧ at3 (w3 (cross ((rowsA l k).getD i z3) ((rowsA l k).getD j z3))) k ≠ 0 := by
    obtain ⟨i, hi, ei⟩ := List.getElem_of_mem hr
    obtain ⟨j, hj, ej⟩ := List.getElem_of_mem hs
    have ei' : (rowsA l k).getD i z3 = r := by rw [getD_lt hi, ei]
    have ej' : (rowsA l k).getD j z3 = s := by rw [getD_lt hj, ej]
    rcases Nat.lt_trichotomy i j with hij | hij | hij
    · refine ⟨j, i, hj, hij, ?_⟩
      rw [ei', ej', cr_w (hle _ hs) (hle _ hr), at3_neg r s hk]
      omega
    · subst hij
      rw [ei'] at ej'
      subst ej'
      rw [cross_self] at hn
      exact absurd (by rcases hk with rfl | rfl | rfl <;> rfl) hn
    · refine ⟨i, j, hi, hij, ?_⟩
      rw [ei', ej', cr_w (hle _ hr) (hle _ hs)]
      exact hn
  obtain ⟨i, j, hi, hj, hf, ha⟩ := fnd_some pos
  unfold solA
  rw [if_neg h1, hf]
  show prim _ k = prim w k
  have m1 := getD_mem3 hi
  have m2 := getD_mem3 (show j < (rowsA l k).length by omega)
  rw [cr_w (hle _ m1) (hle _ m2)] at ha ⊢
  exact prim_par hk (cross_along (ho _ m1) (ho _ m2)) ha hw
/-! ### which coordinates are free -/
theorem rkR_0 {l : List V3} (h : ∀ d ∈ l, V3.le d 9) (h1 : ∀ d ∈ l, d = z3) : rkR l = 0 := by
  have a1 : any1 l l.length = false := by
    rw [← Bool.not_eq_true, any1_iff]
    rintro ⟨d, hd, hn⟩; exact hn (h1 d hd)
  have a2 : any2 l l.length = false := by
    rw [← Bool.not_eq_true, any2_iff h]
    rintro ⟨d, e, hd, he, hn⟩; rw [h1 d hd, h1 e he] at hn; exact hn rfl
  have a3 : any3 l l.length = false := by
    rw [← Bool.not_eq_true, any3_iff h]
    rintro ⟨d, e, f, hd, he, hf, hn⟩; rw [h1 d hd, h1 e he, h1 f hf] at hn; exact hn rfl
  unfold rkR; rw [a1, a2, a3]; rfl
theorem rkR_1 {l : List V3} (h : ∀ d ∈ l, V3.le d 9) {a : V3} (ha : a ∈ l) (hn : a ≠ z3) (h2 : ∀ d ∈ l, ∀ e ∈ l, cross d e = z3) : rkR l = 1 := by
  have a2 : any2 l l.length = false := by
    rw [← Bool.not_eq_true, any2_iff h]
    rintro ⟨d, e, hd, he, hn⟩; exact hn (h2 d hd e he)
  have a3 : any3 l l.length = false := by
    rw [← Bool.not_eq_true, any3_iff h]
    rintro ⟨d, e, f, hd, he, hf, hn⟩; exact hn (det_cross0 f (h2 d hd e he))
  unfold rkR; rw [any1_iff.2 ⟨a, ha, hn⟩, a2, a3]; rfl
theorem rkR_2 {l : List V3} (h : ∀ d ∈ l, V3.le d 9) {a b : V3} (ha : a ∈ l) (hb : b ∈ l) (hn : cross a b ≠ z3) (h3 : ∀ d ∈ l, ∀ e ∈ l, ∀ f ∈ l, det d e f = 0) : rkR l = 2 := by
  have a3 : any3 l l.length = false := by
    rw [← Bool.not_eq_true, any3_iff h]
    rintro ⟨d, e, f, hd, he, hf, hn⟩; exact hn (h3 d hd e he f hf)
  unfold rkR; rw [(any2_iff h).2 ⟨a, b, ha, hb, hn⟩, a3]
  cases any1 l l.length <;> rfl
theorem kpt_le {d : V3} (h : V3.le d 9) (n : Int) : V3.le (kpt d n) 9 := by
  obtain ⟨h1, h2, h3⟩ := h
  unfold kpt
  refine ⟨?_, ?_, ?_⟩ <;> dsimp only <;> split <;> omega
theorem kept_le {l : List V3} (h : ∀ d ∈ l, V3.le d 9) (n : Int) : ∀ d ∈ l.map (kpt · n), V3.le d 9 := fun d hd => by
  obtain ⟨e, he, rfl⟩ := List.mem_map.1 hd
  exact kpt_le (h e he) n
theorem kept_3 (l : List V3) : l.map (kpt · 3) = l := by
  have : ∀ d : V3, kpt d 3 = d := fun d => rfl
  simp only [this, List.map_id']
theorem kept_0 {l : List V3} (h : ∀ d ∈ l, V3.le d 9) : rkR (l.map (kpt · 0)) = 0 := rkR_0 (kept_le h 0) fun d hd => by
  obtain ⟨e, _, rfl⟩ := List.mem_map.1 hd; rfl
theorem kept_1z {l : List V3} (h : ∀ d ∈ l, V3.le d 9) (hz : ∀ d ∈ l, d.1 = 0) : rkR (l.map (kpt · 1)) = 0 := rkR_0 (kept_le h 1) fun d hd => by
  obtain ⟨e, he, rfl⟩ := List.mem_map.1 hd
  show (e.1, (0 : Int), (0 : Int)) = z3
  rw [hz e he]
theorem kept_1n {l : List V3} (h : ∀ d ∈ l, V3.le d 9) {a : V3} (ha : a ∈ l) (hn : a.1 ≠ 0) : rkR (l.map (kpt · 1)) = 1 := by
  refine rkR_1 (kept_le h 1) (List.mem_map.2 ⟨a, ha, rfl⟩) (fun hh => hn (congrArg (·.1) hh)) fun d hd e he => ?_
  obtain ⟨d, _, rfl⟩ := List.mem_map.1 hd
  obtain ⟨e, _, rfl⟩ := List.mem_map.1 he
  show cross (d.1, 0, 0) (e.1, 0, 0) = z3
  simp [cross]
theorem kept_20 {l : List V3} (h : ∀ d ∈ l, V3.le d 9) (hz : ∀ d ∈ l, d.1 = 0 ∧ d.2.1 = 0) : rkR (l.map (kpt · 2)) = 0 := rkR_0 (kept_le h 2) fun d hd => by
  obtain ⟨e, he, rfl⟩ := List.mem_map.1 hd
  show (e.1, e.2.1, (0 : Int)) = z3
  rw [(hz e he).1, (hz e he).2]
theorem kept_21 {l : List V3} (h : ∀ d ∈ l, V3.le d 9) {a : V3} (ha : a ∈ l) (hn : a.1 ≠ 0 ∨ a.2.1 ≠ 0) (hc : ∀ d ∈ l, ∀ e ∈ l, (cross d e).2.2 = 0) : rkR (l.map (kpt · 2)) = 1 := by
  refine rkR_1 (kept_le h 2) (List.mem_map.2 ⟨a, ha, rfl⟩) (fun hh => ?_) fun d hd e he => ?_
  · rcases hn with hn | hn
    · exact hn (congrArg (·.1) hh)
    · exact hn (congrArg (·.2.1) hh)
  · obtain ⟨d, md, rfl⟩ := List.mem_map.1 hd
    obtain ⟨e, me, rfl⟩ := List.mem_map.1 he
    have := hc d md e me
    show cross (d.1, d.2.1, 0) (e.1, e.2.1, 0) = z3
    simp only [cross] at this ⊢
    rw [this]
    simp
theorem kept_22 {l : List V3} (h : ∀ d ∈ l, V3.le d 9) {a b : V3} (ha : a ∈ l) (hb : b ∈ l) (hn : (cross a b).2.2 ≠ 0) : rkR (l.map (kpt · 2)) = 2 := by
  refine rkR_2 (kept_le h 2) (List.mem_map.2 ⟨a, ha, rfl⟩) (List.mem_map.2 ⟨b, hb, rfl⟩) (fun hh => hn (congrArg (·.2.2) hh)) fun d hd e he f hf => ?_
  obtain ⟨d, hd, rfl⟩ := List.mem_map.1 hd
  obtain ⟨e, he, rfl⟩ := List.mem_map.1 he
  obtain ⟨f, hf, rfl⟩ := List.mem_map.1 hf
  show det (d.1, d.2.1, 0) (e.1, e.2.1, 0) (f.1, f.2.1, 0) = 0
  simp only [det, dot, cross]
  grind
end Go.Pi
end

section
namespace Go.Pi
set_option linter.unusedVariables false
theorem undR_of {l : List V3} (h : ∀ d ∈ l, V3.le d 9) {r1 r2 r3 : Int} (h1 : rkR (l.map (kpt · 1)) = r1) (h2 : rkR (l.map (kpt · 2)) = r2) (h3 : rkR l = r3) :
    freeB l ((0 : Nat) : Int) = (r1 == 0) ∧ freeB l ((1 : Nat) : Int) = (r2 == r1) ∧ freeB l ((2 : Nat) : Int) = (r3 == r2) := by
  refine ⟨?_, ?_, ?_⟩
  · show (rkR (l.map (kpt · 1)) == rkR (l.map (kpt · 0))) = _
    rw [h1, kept_0 h]
  · show (rkR (l.map (kpt · 2)) == rkR (l.map (kpt · 1))) = _
    rw [h1, h2]
  · show (rkR (l.map (kpt · 3)) == rkR (l.map (kpt · 2))) = _
    rw [h2, kept_3, h3]
theorem undR_3 (l : List V3) : undR l = undE l 0 ++ (undE l 1 ++ undE l 2) := by
  simp [undR, List.range, List.range.loop]
/-- Of rank 3: none. -/
theorem undR_full {l : List V3} (h : ∀ d ∈ l, V3.le d 9) {a b c : V3} (ha : a ∈ l) (hb : b ∈ l) (hc : c ∈ l) (hn : det a b c ≠ 0) (h3 : rkR l = 3) : undR l = [] := by
  have k1 : rkR (l.map (kpt · 1)) = 1 := by
    by_cases h1 : a.1 = 0
    · by_cases h2 : b.1 = 0
      · by_cases h4 : c.1 = 0
        · exact absurd (by simp only [det, dot, cross]; rw [h1, h2, h4]; grind) hn
        · exact kept_1n h hc h4
      · exact kept_1n h hb h2
    · exact kept_1n h ha h1
  have k2 : rkR (l.map (kpt · 2)) = 2 := by
    by_cases h1 : (cross a b).2.2 = 0
    · by_cases h2 : (cross b c).2.2 = 0
      · by_cases h4 : (cross a c).2.2 = 0
        · exact absurd (by simp only [det, dot, cross] at *; grind) hn
        · exact kept_22 h ha hc h4
      · exact kept_22 h hb hc h2
    · exact kept_22 h ha hb h1
  obtain ⟨f0, f1, f2⟩ := undR_of h k1 k2 h3
  rw [undR_3, undE, undE, undE, f0, f1, f2]
  rfl
theorem rows_in {l : List V3} (k : Int) {d : V3} (h : d ∈ l) : d ∈ rowsA l k := List.mem_append_left _ h
/-- Rows when no other coordinate is free. -/
theorem rows_own {l : List V3} {k : Int} (h : ∀ i : Nat, i < 3 → (i : Int) ≠ k → freeB l i = false) : ∀ r ∈ rowsA l k, r ∈ l := fun r hr => by
  rcases List.mem_append.1 hr with hr | hr
  · exact hr
  · obtain ⟨i, hi, hr⟩ := List.mem_flatMap.1 hr
    unfold addU at hr
    split at hr
    · rename_i hh
      rw [h i (List.mem_range.1 hi) hh.1] at hh
      exact absurd hh.2 (by simp)
    · cases hr
/-- Of rank 2. -/
theorem undR_two {l : List V3} (h : ∀ d ∈ l, V3.le d 9) {a b : V3} (ha : a ∈ l) (hb : b ∈ l) (hn : cross a b ≠ z3) (hc : ∀ d ∈ l, dot (cross a b) d = 0) (h3 : rkR l = 2) : undR l = und [a, b] := by
  have uu : und [a, b] = if (cross a b).2.2 ≠ 0 then [prim (cross a b) 2] else if (cross a b).2.1 ≠ 0 then [prim (cross a b) 1] else [prim (cross a b) 0] := rfl
  have hd : ∀ d ∈ l, dot d (cross a b) = 0 := fun d hd => by rw [dot_comm]; exact hc d hd
  have al : ∀ d ∈ l, ∀ e ∈ l, cross (cross d e) (cross a b) = z3 := fun d md e me => cross_along (hd d md) (hd e me)
  have fin : ∀ k : Int, (k = 0 ∨ k = 1 ∨ k = 2) → (∀ i : Nat, i < 3 → (i : Int) ≠ k → freeB l i = false) → at3 (cross a b) k ≠ 0 → solA l k = prim (cross a b) k := fun k hk hf hw =>
    sol_eq h hk hw (fun r hr => hd r (rows_own hf r hr)) (rows_in k ha) (rows_in k hb) hw
  by_cases n3 : (cross a b).2.2 = 0
  · by_cases n2 : (cross a b).2.1 = 0
    · have n1 : (cross a b).1 ≠ 0 := fun hh => hn (Prod.ext hh (Prod.ext n2 n3))
      have dz : ∀ d ∈ l, d.1 = 0 := fun d md => by
        have := hc d md
        rw [dot, n2, n3] at this
        have : (cross a b).1 * d.1 = 0 := by grind
        exact (Int.mul_eq_zero.1 this).resolve_left n1
      have k1 := kept_1z h dz
      have k2 : rkR (l.map (kpt · 2)) = 1 := by
        have q : ∀ d ∈ l, ∀ e ∈ l, (cross d e).2.2 = 0 := fun d md e me => by
          show d.1 * e.2.1 - d.2.1 * e.1 = 0
          rw [dz d md, dz e me]; simp
        by_cases h1 : a.2.1 = 0
        · by_cases h2 : b.2.1 = 0
          · exact absurd (by simp only [cross]; rw [h1, h2]; simp) n1
          · exact kept_21 h hb (.inr h2) q
        · exact kept_21 h ha (.inr h1) q
      obtain ⟨f0, f1, f2⟩ := undR_of h k1 k2 h3
      have f0 : freeB l ((0 : Nat) : Int) = true := f0
      have f1 : freeB l ((1 : Nat) : Int) = false := f1
      have f2 : freeB l ((2 : Nat) : Int) = false := f2
      rw [undR_3, undE, undE, undE, f0, f1, f2, uu, if_neg (show ¬ (cross a b).2.2 ≠ 0 from fun hh => hh n3), if_neg (show ¬ (cross a b).2.1 ≠ 0 from fun hh => hh n2)]
      have := fin 0 (.inl rfl) (fun i hi hne => by
        have : i = 1 ∨ i = 2 := by omega
        rcases this with rfl | rfl
        · exact f1
        · exact f2) n1
      show [solA l 0] = _
      rw [this]
    · have q : ∀ d ∈ l, ∀ e ∈ l, (cross d e).2.2 = 0 := fun d md e me => by
        have h1 : (cross d e).2.1 * (cross a b).2.2 - (cross d e).2.2 * (cross a b).2.1 = 0 := congrArg (·.1) (al d md e me)
        rw [n3] at h1
        have : (cross d e).2.2 * (cross a b).2.1 = 0 := by omega
        exact (Int.mul_eq_zero.1 this).resolve_right n2
      have k12 : rkR (l.map (kpt · 1)) = 1 ∧ rkR (l.map (kpt · 2)) = 1 := by
        by_cases h1 : a.1 = 0
        · by_cases h2 : b.1 = 0
          · exact absurd (by simp only [cross]; rw [h1, h2]; simp) n2
          · exact ⟨kept_1n h hb h2, kept_21 h hb (.inl h2) q⟩
        · exact ⟨kept_1n h ha h1, kept_21 h ha (.inl h1) q⟩
      obtain ⟨f0, f1, f2⟩ := undR_of h k12.1 k12.2 h3
      have f0 : freeB l ((0 : Nat) : Int) = false := f0
      have f1 : freeB l ((1 : Nat) : Int) = true := f1
      have f2 : freeB l ((2 : Nat) : Int) = false := f2
      rw [undR_3, undE, undE, undE, f0, f1, f2, uu, if_neg (show ¬ (cross a b).2.2 ≠ 0 from fun hh => hh n3), if_pos (show (cross a b).2.1 ≠ 0 from n2)]
      have := fin 1 (.inr (.inl rfl)) (fun i hi hne => by
        have : i = 0 ∨ i = 2 := by omega
        rcases this with rfl | rfl
        · exact f0
        · exact f2) n2
      show [solA l 1] = _
      rw [this]
  · have k2 := kept_22 h ha hb n3
    have k1 : rkR (l.map (kpt · 1)) = 1 := by
      by_cases h1 : a.1 = 0
      · by_cases h2 : b.1 = 0
        · exact absurd (by simp only [cross]; rw [h1, h2]; simp) n3
        · exact kept_1n h hb h2
      · exact kept_1n h ha h1
    obtain ⟨f0, f1, f2⟩ := undR_of h k1 k2 h3
    have f0 : freeB l ((0 : Nat) : Int) = false := f0
    have f1 : freeB l ((1 : Nat) : Int) = false := f1
    have f2 : freeB l ((2 : Nat) : Int) = true := f2
    rw [undR_3, undE, undE, undE, f0, f1, f2, uu, if_pos n3]
    have := fin 2 (.inr (.inr rfl)) (fun i hi hne => by
      have : i = 0 ∨ i = 1 := by omega
      rcases this with rfl | rfl
      · exact f0
      · exact f1) n3
    show [solA l 2] = _
    rw [this]
/-- Of one direction and one other free coordinate. -/
theorem sol_one {l : List V3} (h : ∀ d ∈ l, V3.le d 9) {k : Int} (hk : k = 0 ∨ k = 1 ∨ k = 2) {w a : V3} (ha : a ∈ l) (hw : at3 w k ≠ 0) (hd : ∀ d ∈ l, dot d w = 0) (j : Nat) (hj : j < 3) (hjk : (j : Int) ≠ k) (hjf : freeB l j = true)
    (ho : ∀ i : Nat, i < 3 → (i : Int) ≠ k → i ≠ j → freeB l i = false) (hu : dot (unit3 j) w = 0) (hn : at3 (cross a (unit3 j)) k ≠ 0) : solA l k = prim w k := by
  refine sol_eq h hk hw (fun r hr => ?_) (rows_in k ha) (List.mem_append_right _ (List.mem_flatMap.2 ⟨j, List.mem_range.2 hj, ?_⟩)) hn
  · rcases List.mem_append.1 hr with hr | hr
    · exact hd r hr
    · obtain ⟨i, hi, hr⟩ := List.mem_flatMap.1 hr
      unfold addU at hr
      split at hr
      · rename_i hh
        by_cases hij : i = j
        · subst hij
          rw [List.mem_singleton] at hr
          rw [hr]; exact hu
        · have := ho i (List.mem_range.1 hi) hh.1 hij
          rw [this] at hh
          exact absurd hh.2 (by simp)
      · cases hr
  · unfold addU
    rw [if_pos ⟨hjk, hjf⟩]
    exact .head _
/-- Of rank 1. -/
theorem undR_one {l : List V3} (h : ∀ d ∈ l, V3.le d 9) {a : V3} (ha : a ∈ l) (hn : a ≠ z3) (hc : ∀ d ∈ l, cross a d = z3) (h3 : rkR l = 1) : undR l = und [a] := by
  obtain ⟨x, y, z⟩ := a
  have uu : und [(x, y, z)] = if x ≠ 0 then [prim (-y, x, 0) 1, prim (-z, 0, x) 2] else if y ≠ 0 then [prim (y, -x, 0) 0, prim (0, -z, y) 2] else [prim (z, 0, -x) 0, prim (0, z, -y) 1] := rfl
  have q : ∀ d ∈ l, ∀ e ∈ l, (cross d e).2.2 = 0 := fun d md e me => by rw [cross_par hn (hc d md) (hc e me)]
  have pd : ∀ w : V3, dot (x, y, z) w = 0 → ∀ d ∈ l, dot d w = 0 := fun w hw d md => par_of (hc d md) hn hw
  have u0 : unit3 ((0 : Nat) : Int) = (1, 0, 0) := rfl
  have u1 : unit3 ((1 : Nat) : Int) = (0, 1, 0) := rfl
  have u2 : unit3 ((2 : Nat) : Int) = (0, 0, 1) := rfl
  by_cases hx : x = 0
  · by_cases hy : y = 0
    · have hz : z ≠ 0 := fun hh => hn (by rw [hx, hy, hh])
      have dz : ∀ d ∈ l, d.1 = 0 ∧ d.2.1 = 0 := fun d md => by
        have h1 : y * d.2.2 - z * d.2.1 = 0 := congrArg (·.1) (hc d md)
        have h2 : z * d.1 - x * d.2.2 = 0 := congrArg (·.2.1) (hc d md)
        rw [hy] at h1
        rw [hx] at h2
        exact ⟨(Int.mul_eq_zero.1 (show z * d.1 = 0 by omega)).resolve_left hz, (Int.mul_eq_zero.1 (show z * d.2.1 = 0 by omega)).resolve_left hz⟩
      obtain ⟨f0, f1, f2⟩ := undR_of h (kept_1z h fun d md => (dz d md).1) (kept_20 h dz) h3
      have f0 : freeB l ((0 : Nat) : Int) = true := f0
      have f1 : freeB l ((1 : Nat) : Int) = true := f1
      have f2 : freeB l ((2 : Nat) : Int) = false := f2
      have s1 := sol_one h (k := 0) (.inl rfl) (w := (z, 0, -x)) ha hz (pd _ (by simp only [dot]; grind)) 1 (by omega) (by omega) f1 (fun i hi h1 h2 => by
        have : i = 2 := by omega
        rw [this]; exact f2) (by rw [u1]; simp [dot]) (by rw [u1]; show y * 0 - z * 1 ≠ 0; omega)
      have s2 := sol_one h (k := 1) (.inr (.inl rfl)) (w := (0, z, -y)) ha hz (pd _ (by simp only [dot]; grind)) 0 (by omega) (by omega) f0 (fun i hi h1 h2 => by
        have : i = 2 := by omega
        rw [this]; exact f2) (by rw [u0]; simp [dot]) (by rw [u0]; show z * 1 - x * 0 ≠ 0; omega)
      rw [undR_3, undE, undE, undE, f0, f1, f2, uu, if_neg (show ¬ x ≠ 0 from fun hh => hh hx), if_neg (show ¬ y ≠ 0 from fun hh => hh hy)]
      show [solA l 0, solA l 1] = _
      rw [s1, s2]
    · have dz : ∀ d ∈ l, d.1 = 0 := fun d md => by
        have h1 : x * d.2.1 - y * d.1 = 0 := congrArg (·.2.2) (hc d md)
        rw [hx] at h1
        exact (Int.mul_eq_zero.1 (show y * d.1 = 0 by omega)).resolve_left hy
      obtain ⟨f0, f1, f2⟩ := undR_of h (kept_1z h dz) (kept_21 h ha (.inr hy) q) h3
      have f0 : freeB l ((0 : Nat) : Int) = true := f0
      have f1 : freeB l ((1 : Nat) : Int) = false := f1
      have f2 : freeB l ((2 : Nat) : Int) = true := f2
      have s1 := sol_one h (k := 0) (.inl rfl) (w := (y, -x, 0)) ha hy (pd _ (by simp only [dot]; grind)) 2 (by omega) (by omega) f2 (fun i hi h1 h2 => by
        have : i = 1 := by omega
        rw [this]; exact f1) (by rw [u2]; simp [dot]) (by rw [u2]; show y * 1 - z * 0 ≠ 0; omega)
      have s2 := sol_one h (k := 2) (.inr (.inr rfl)) (w := (0, -z, y)) ha hy (pd _ (by simp only [dot]; grind)) 0 (by omega) (by omega) f0 (fun i hi h1 h2 => by
        have : i = 1 := by omega
        rw [this]; exact f1) (by rw [u0]; simp [dot]) (by rw [u0]; show x * 0 - y * 1 ≠ 0; omega)
      rw [undR_3, undE, undE, undE, f0, f1, f2, uu, if_neg (show ¬ x ≠ 0 from fun hh => hh hx), if_pos (show y ≠ 0 from hy)]
      show [solA l 0, solA l 2] = _
      rw [s1, s2]
  · obtain ⟨f0, f1, f2⟩ := undR_of h (kept_1n h ha hx) (kept_21 h ha (.inl hx) q) h3
    have f0 : freeB l ((0 : Nat) : Int) = false := f0
    have f1 : freeB l ((1 : Nat) : Int) = true := f1
    have f2 : freeB l ((2 : Nat) : Int) = true := f2
    have s1 := sol_one h (k := 1) (.inr (.inl rfl)) (w := (-y, x, 0)) ha hx (pd _ (by simp only [dot]; grind)) 2 (by omega) (by omega) f2 (fun i hi h1 h2 => by
      have : i = 0 := by omega
      rw [this]; exact f0) (by rw [u2]; simp [dot]) (by rw [u2]; show z * 0 - x * 1 ≠ 0; omega)
    have s2 := sol_one h (k := 2) (.inr (.inr rfl)) (w := (-z, 0, x)) ha hx (pd _ (by simp only [dot]; grind)) 1 (by omega) (by omega) f1 (fun i hi h1 h2 => by
      have : i = 0 := by omega
      rw [this]; exact f0) (by rw [u1]; simp [dot]) (by rw [u1]; show x * 1 - y * 0 ≠ 0; omega)
    rw [undR_3, undE, undE, undE, f0, f1, f2, uu, if_pos (show x ≠ 0 from hx)]
    show [solA l 1, solA l 2] = _
    rw [s1, s2]
theorem undR_eq {l : List V3} (h : Dirs l) (h0 : 0 < l.length) : undR l = und (rkOwn l) := by
  have hi := rkOwn_inv h
  have hr := rkR_eq h
  generalize rkOwn l = own at *
  match own, hi with
  | [], hi =>
    have hi : l = [] := hi
    subst hi
    simp at h0
  | [a], ⟨ha, hn, hc⟩ => exact undR_one h.le ha hn hc hr
  | [a, b], ⟨ha, hb, hn, hc⟩ => exact undR_two h.le ha hb hn hc hr
  | [a, b, c], ⟨ha, hb, hc, hn⟩ => exact undR_full h.le ha hb hc hn hr
end Go.Pi
end

section
namespace Go.Proofs.Ytglijnhkdnhofaa
open Go Go.Pi Go.RowKit
set_option maxRecDepth 100000
set_option linter.unusedVariables false
set_option linter.unusedSimpArgs false

def f4 (x : List ((Int × Int × Int) × Int × Int)) : Bool := true
def f4_e : Entry := { doms := [(false, (.sl (.pair (.pair (.int .i64) (.pair (.int .i64) (.int .i64))) (.pair (.int .i64) (.int .i64)))))], cods := [(false, .bool)], pre := fun _ => True, fn := f4, uq := false, total := true }
def f4_E : Env := [(10, f10_e), (21, f21_e), (22, f22_e), (23, f23_e), (24, f24_e), (25, f25_e), (26, f26_e), (27, f27_e), (28, f28_e), (29, f29_e), (30, f30_e)]
def f4_A : Anns := { loops := [], own := [] }
theorem f4_run (a0 : List ((Int × Int × Int) × Int × Int)) (K : Bool → Prop) : runF Try.prog f4_E f4_A 6 Try.f4 f4_e.doms f4_e.cods a0 K =
    (br (!(f10 ()))
    (K false)
    (br (!(f21 a0))
    (K true)
    (f23_pre a0 ∧
    f23_pre a0 ∧
    f23_pre a0 ∧
    br ((f22 (f23 a0)).2 != (f26 a0).2)
    (K false)
    (br ((f22 (f23 a0)).1 != (f26 a0).1)
    (K false)
    (br ((f26 a0).2 != 0)
    (br ((f24 (f23 a0)).2 == (f26 a0).2)
    (br ((f25 (f23 a0)).2 == (f26 a0).2)
    (br ((f24 (f23 a0)).1 == 0)
    (br (lenOk (((f25 (f23 a0)).1).length))
    (K (((((f25 (f23 a0)).1).length) : Int) == 0))
    True)
    (K false))
    (K false))
    (K false))
    (br ((f24 (f23 a0)).2 == 0)
    (f28_pre a0 ∧
    br ((f24 (f23 a0)).1 == (f27 (f28 a0)))
    (br ((f25 (f23 a0)).2 == 0)
    (f30_pre a0 ∧
    K (f29 ((f25 (f23 a0)).1, (f30 a0))))
    (K false))
    (K false))
    (K false))))))) := by kernel_rfl
theorem f4_t (a0 : List ((Int × Int × Int) × Int × Int)) (K : Bool → Prop) (hK : ∀ y : Bool, y = f4 a0 → K y) : RunF Try.prog f4_E f4_A 6 Try.f4 f4_e.doms f4_e.cods a0 K := by
  refine ⟨?_⟩
  rw [f4_run a0 K]
  have e10 : f10 () = true := rfl
  have hT : K true := hK _ rfl
  have hKb : ∀ b : Bool, b = true → K b := fun b h => hK _ (by rw [h]; rfl)
  have e21 : f21 a0 = decide (a0.length ≤ 8) := rfl
  have e23 : f23 a0 = a0 := rfl
  have e22 : f22 a0 = rdOf a0 := rfl
  have e26 : f26 a0 = rdOf a0 := rfl
  have e24 : f24 a0 = if (rdOf a0).2 ≠ 0 then (0, (rdOf a0).2) else (((rkOwn (a0.map (·.1))).length : Int), 0) := rfl
  have e25 : f25 a0 = if (rdOf a0).2 ≠ 0 then ([], (rdOf a0).2) else (und (rkOwn (a0.map (·.1))), 0) := rfl
  have e27 : f27 (f28 a0) = rkR (a0.map (·.1)) := rfl
  have e30 : f30 a0 = undR (a0.map (·.1)) := rfl
  have e29 : ∀ x y : List V3, f29 (x, y) = decide (x = y) := fun _ _ => rfl
  simp only [e23, e22, e26, e27, e30, e29]
  rw [e10, e21]
  refine br_two (fun h => by cases h) fun _ => br_two (fun _ => hT) fun h9 => ?_
  have hl : a0.length ≤ 8 := by simpa using h9
  have p23 : f23_pre a0 := show a0.length ≤ 1048576 by omega
  refine ⟨p23, p23, p23, br_two (fun h => by simp at h) fun _ => br_two (fun h => by simp at h) fun _ => ?_⟩
  by_cases hv : (rdOf a0).2 = 0
  · have ok := rdOf_ok hv
    have hd := dirs_ok ok
    rw [e24, e25, if_neg (fun hh => hh hv), if_neg (fun hh => hh hv), hv, rkR_eq hd, undR_eq hd (by rw [List.length_map]; exact ok.pos)]
    refine br_two (fun h => by simp at h) fun _ => br_two (fun _ => ⟨p23, br_two (fun _ => br_two (fun _ => ⟨⟨by omega, fun r hr => (ok.dir r hr).1⟩, hKb _ (by simp)⟩) fun h => by simp at h) fun h => by simp at h⟩) fun h => by simp at h
  · rw [e24, e25, if_pos hv, if_pos hv]
    refine br_two (fun _ => br_two (fun _ => br_two (fun _ => br_two (fun _ => br_weak (hKb _ (by simp))) fun h => by simp at h) fun h => by simp at h) fun h => by simp at h) fun h => absurd (bne_f.1 h) hv
theorem f4_fn : f4_e.fn = f4 := rfl
theorem f4_ok : EntryOK Try.prog 4 f4_e := by
  refine entryF progOK (EnvOK.cons f10_ok (EnvOK.cons f21_ok (EnvOK.cons f22_ok (EnvOK.cons f23_ok (EnvOK.cons f24_ok (EnvOK.cons f25_ok (EnvOK.cons f26_ok (EnvOK.cons f27_ok (EnvOK.cons f28_ok (EnvOK.cons f29_ok (EnvOK.cons f30_ok (EnvOK.nil)))))))))))) (A := f4_A) (d := 6) Try.func4 rfl rfl rfl rfl (fun _ _ => trivial) fun x hpre => ?_
  exact f4_t x _ fun _ h => h.trans (congrFun f4_fn.symm _)
end Go.Proofs.Ytglijnhkdnhofaa
end
