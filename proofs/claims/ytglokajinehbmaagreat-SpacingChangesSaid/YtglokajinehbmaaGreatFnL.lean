/- What functions of the program compute, each proved once, part 12. -/
import Derived.Test.YtglokajinehbmaaGreatPiD
import Derived.Test.YtglokajinehbmaaGreatFnA
import Derived.Test.YtglokajinehbmaaGreatFnD
import Derived.Test.YtglokajinehbmaaGreatFnK
import Derived.Test.YtglokajinehbmaaGreatFnF
import Derived.Test.YtglokajinehbmaaGreatFnH
import Derived.Test.YtglokajinehbmaaGreatFnG
import Derived.Test.YtglokajinehbmaaGreatFnB
import Derived.Test.YtglokajinehbmaaGreatFnC
import Derived.Test.YtglokajinehbmaaGreatFnE

section
namespace Go.Proofs.YtglokajinehbmaaGreat
open Go Go.Pi Go.RowKit
set_option maxRecDepth 100000
set_option linter.unusedVariables false
set_option linter.unusedSimpArgs false

def f23 (x : ((List (List Int) × List (List Int)) × List (ByteArray × Int × Int × Int × Int) × List Int) × Int × Int × Int) : (List (List Int) × List (List Int)) × List (ByteArray × Int × Int × Int × Int) × List Int := aroundF x.1 x.2
def f23_pre (x : ((List (List Int) × List (List Int)) × List (ByteArray × Int × Int × Int × Int) × List Int) × Int × Int × Int) : Prop := okP x.1 ∧ (f45_pre x.1.1 ∧ f46_pre x.1.2.1 ∧ x.1.2.2.length ≤ 1000) ∧ aroundE x.1 x.2 = 0
def f23_e : Entry := { doms := [(true, (.pair (.pair (.sl (.sl (.int .i64))) (.sl (.sl (.int .i64)))) (.pair (.sl (.pair .str (.pair (.int .i64) (.pair (.int .i64) (.pair (.int .i64) (.int .i64)))))) (.sl (.int .i64))))), (true, (.pair (.int .i64) (.pair (.int .i64) (.int .i64))))], cods := [(true, (.pair (.pair (.sl (.sl (.int .i64))) (.sl (.sl (.int .i64)))) (.pair (.sl (.pair .str (.pair (.int .i64) (.pair (.int .i64) (.pair (.int .i64) (.int .i64)))))) (.sl (.int .i64)))))], pre := f23_pre, fn := f23, uq := false, total := false }
def f23_E : Env := [(45, f45_e), (46, f46_e), (47, f47_e)]
def f23_A : Anns := { loops := [(1048576, { tms := [(2, .keep), (3, .keep), (4, .keep), (5, .keep), (7, .ref 1058823), (8, .data false (.int .i64))], obs := [(1048576, .keep), (1048577, .keep), (1048578, .keep), (1049602, .keep), (1058823, .arr (.uniq) (.int .i64)), (1100586418176, .keep), (1100586418177, .keep), (1100586419205, .keep)], fz := [] })], own := [1100586419205] }
theorem f23_run (a0 : (List (List Int) × List (List Int)) × List (ByteArray × Int × Int × Int × Int) × List Int) (a1 : Int × Int × Int) (K : ((List (List Int) × List (List Int)) × List (ByteArray × Int × Int × Int × Int) × List Int) → Prop) : runF Tryz.prog f23_E f23_A 6 Tryz.f23 f23_e.doms f23_e.cods (a0, a1) K =
    (f45_pre a0.1 ∧
    f46_pre a0.2.1 ∧
    f47_pre a0.2.2 ∧
    br (decide (0 ≤ a1.1) && decide (a1.1 < (((f46 a0.2.1).length) : Int)))
    (br (decide (0 ≤ a1.1) && decide (a1.1 < (((f46 a0.2.1).length) : Int)))
    (br (decide (0 ≤ a1.1) && decide (a1.1 < (((f46 a0.2.1).length) : Int)))
    (br (decide (0 ≤ a1.1) && decide (a1.1 < ((((f46 a0.2.1).set a1.1.toNat (((f46 a0.2.1).getD a1.1.toNat ((⟨#[]⟩ : ByteArray), (0, (0, (0, 0))))).1, ((((f46 a0.2.1).getD a1.1.toNat ((⟨#[]⟩ : ByteArray), (0, (0, (0, 0))))).2).1, ((IntKind.i64.wrap (((((f46 a0.2.1).getD a1.1.toNat ((⟨#[]⟩ : ByteArray), (0, (0, (0, 0))))).2).2).1 + (IntKind.i64.wrap ((IntKind.i64.wrap (a1.2.1 + a1.2.2)) - ((((f46 a0.2.1).getD a1.1.toNat ((⟨#[]⟩ : ByteArray), (0, (0, (0, 0))))).2).2).1)))), (((((f46 a0.2.1).getD a1.1.toNat ((⟨#[]⟩ : ByteArray), (0, (0, (0, 0))))).2).2).2))))).length) : Int)))
    (br (decide (0 ≤ a1.1) && decide (a1.1 < ((((f46 a0.2.1).set a1.1.toNat (((f46 a0.2.1).getD a1.1.toNat ((⟨#[]⟩ : ByteArray), (0, (0, (0, 0))))).1, ((((f46 a0.2.1).getD a1.1.toNat ((⟨#[]⟩ : ByteArray), (0, (0, (0, 0))))).2).1, ((IntKind.i64.wrap (((((f46 a0.2.1).getD a1.1.toNat ((⟨#[]⟩ : ByteArray), (0, (0, (0, 0))))).2).2).1 + (IntKind.i64.wrap ((IntKind.i64.wrap (a1.2.1 + a1.2.2)) - ((((f46 a0.2.1).getD a1.1.toNat ((⟨#[]⟩ : ByteArray), (0, (0, (0, 0))))).2).2).1)))), (((((f46 a0.2.1).getD a1.1.toNat ((⟨#[]⟩ : ByteArray), (0, (0, (0, 0))))).2).2).2))))).length) : Int)))
    (LoopP (V := Int × List Int × Unit) (fun again v => (fun (again1 : Int → List Int → Prop) (v1_0 : Int) (v1_1 : List Int) =>
    br (lenOk (a0.2.2.length))
    (br (decide (v1_0 < ((a0.2.2.length) : Int)))
    (br (decide (0 ≤ v1_0) && decide (v1_0 < ((a0.2.2.length) : Int)))
    (br ((a0.2.2.getD v1_0.toNat 0) != a1.1)
    (br (decide (0 ≤ v1_0) && decide (v1_0 < ((a0.2.2.length) : Int)))
    (br (roomOk ((v1_1.length) + 1) 8)
    (again1 (IntKind.i64.wrap (v1_0 + 1)) (v1_1 ++ ([(a0.2.2.getD v1_0.toNat 0)] : List Int)))
    False)
    False)
    (again1 (IntKind.i64.wrap (v1_0 + 1)) v1_1))
    False)
    (K ((f45 a0.1), ((((f46 a0.2.1).set a1.1.toNat (((f46 a0.2.1).getD a1.1.toNat ((⟨#[]⟩ : ByteArray), (0, (0, (0, 0))))).1, ((((f46 a0.2.1).getD a1.1.toNat ((⟨#[]⟩ : ByteArray), (0, (0, (0, 0))))).2).1, ((IntKind.i64.wrap (((((f46 a0.2.1).getD a1.1.toNat ((⟨#[]⟩ : ByteArray), (0, (0, (0, 0))))).2).2).1 + (IntKind.i64.wrap ((IntKind.i64.wrap (a1.2.1 + a1.2.2)) - ((((f46 a0.2.1).getD a1.1.toNat ((⟨#[]⟩ : ByteArray), (0, (0, (0, 0))))).2).2).1)))), (((((f46 a0.2.1).getD a1.1.toNat ((⟨#[]⟩ : ByteArray), (0, (0, (0, 0))))).2).2).2))))).set a1.1.toNat ((((f46 a0.2.1).set a1.1.toNat (((f46 a0.2.1).getD a1.1.toNat ((⟨#[]⟩ : ByteArray), (0, (0, (0, 0))))).1, ((((f46 a0.2.1).getD a1.1.toNat ((⟨#[]⟩ : ByteArray), (0, (0, (0, 0))))).2).1, ((IntKind.i64.wrap (((((f46 a0.2.1).getD a1.1.toNat ((⟨#[]⟩ : ByteArray), (0, (0, (0, 0))))).2).2).1 + (IntKind.i64.wrap ((IntKind.i64.wrap (a1.2.1 + a1.2.2)) - ((((f46 a0.2.1).getD a1.1.toNat ((⟨#[]⟩ : ByteArray), (0, (0, (0, 0))))).2).2).1)))), (((((f46 a0.2.1).getD a1.1.toNat ((⟨#[]⟩ : ByteArray), (0, (0, (0, 0))))).2).2).2))))).getD a1.1.toNat ((⟨#[]⟩ : ByteArray), (0, (0, (0, 0))))).1, (((((f46 a0.2.1).set a1.1.toNat (((f46 a0.2.1).getD a1.1.toNat ((⟨#[]⟩ : ByteArray), (0, (0, (0, 0))))).1, ((((f46 a0.2.1).getD a1.1.toNat ((⟨#[]⟩ : ByteArray), (0, (0, (0, 0))))).2).1, ((IntKind.i64.wrap (((((f46 a0.2.1).getD a1.1.toNat ((⟨#[]⟩ : ByteArray), (0, (0, (0, 0))))).2).2).1 + (IntKind.i64.wrap ((IntKind.i64.wrap (a1.2.1 + a1.2.2)) - ((((f46 a0.2.1).getD a1.1.toNat ((⟨#[]⟩ : ByteArray), (0, (0, (0, 0))))).2).2).1)))), (((((f46 a0.2.1).getD a1.1.toNat ((⟨#[]⟩ : ByteArray), (0, (0, (0, 0))))).2).2).2))))).getD a1.1.toNat ((⟨#[]⟩ : ByteArray), (0, (0, (0, 0))))).2).1, ((((((f46 a0.2.1).set a1.1.toNat (((f46 a0.2.1).getD a1.1.toNat ((⟨#[]⟩ : ByteArray), (0, (0, (0, 0))))).1, ((((f46 a0.2.1).getD a1.1.toNat ((⟨#[]⟩ : ByteArray), (0, (0, (0, 0))))).2).1, ((IntKind.i64.wrap (((((f46 a0.2.1).getD a1.1.toNat ((⟨#[]⟩ : ByteArray), (0, (0, (0, 0))))).2).2).1 + (IntKind.i64.wrap ((IntKind.i64.wrap (a1.2.1 + a1.2.2)) - ((((f46 a0.2.1).getD a1.1.toNat ((⟨#[]⟩ : ByteArray), (0, (0, (0, 0))))).2).2).1)))), (((((f46 a0.2.1).getD a1.1.toNat ((⟨#[]⟩ : ByteArray), (0, (0, (0, 0))))).2).2).2))))).getD a1.1.toNat ((⟨#[]⟩ : ByteArray), (0, (0, (0, 0))))).2).2).1, ((IntKind.i64.wrap (((((((f46 a0.2.1).set a1.1.toNat (((f46 a0.2.1).getD a1.1.toNat ((⟨#[]⟩ : ByteArray), (0, (0, (0, 0))))).1, ((((f46 a0.2.1).getD a1.1.toNat ((⟨#[]⟩ : ByteArray), (0, (0, (0, 0))))).2).1, ((IntKind.i64.wrap (((((f46 a0.2.1).getD a1.1.toNat ((⟨#[]⟩ : ByteArray), (0, (0, (0, 0))))).2).2).1 + (IntKind.i64.wrap ((IntKind.i64.wrap (a1.2.1 + a1.2.2)) - ((((f46 a0.2.1).getD a1.1.toNat ((⟨#[]⟩ : ByteArray), (0, (0, (0, 0))))).2).2).1)))), (((((f46 a0.2.1).getD a1.1.toNat ((⟨#[]⟩ : ByteArray), (0, (0, (0, 0))))).2).2).2))))).getD a1.1.toNat ((⟨#[]⟩ : ByteArray), (0, (0, (0, 0))))).2).2).2).1 + (IntKind.i64.wrap ((IntKind.i64.wrap (a1.2.1 + a1.2.2)) - ((((f46 a0.2.1).getD a1.1.toNat ((⟨#[]⟩ : ByteArray), (0, (0, (0, 0))))).2).2).1)))), ((((((f46 a0.2.1).set a1.1.toNat (((f46 a0.2.1).getD a1.1.toNat ((⟨#[]⟩ : ByteArray), (0, (0, (0, 0))))).1, ((((f46 a0.2.1).getD a1.1.toNat ((⟨#[]⟩ : ByteArray), (0, (0, (0, 0))))).2).1, ((IntKind.i64.wrap (((((f46 a0.2.1).getD a1.1.toNat ((⟨#[]⟩ : ByteArray), (0, (0, (0, 0))))).2).2).1 + (IntKind.i64.wrap ((IntKind.i64.wrap (a1.2.1 + a1.2.2)) - ((((f46 a0.2.1).getD a1.1.toNat ((⟨#[]⟩ : ByteArray), (0, (0, (0, 0))))).2).2).1)))), (((((f46 a0.2.1).getD a1.1.toNat ((⟨#[]⟩ : ByteArray), (0, (0, (0, 0))))).2).2).2))))).getD a1.1.toNat ((⟨#[]⟩ : ByteArray), (0, (0, (0, 0))))).2).2).2).2))))), v1_1))))
    True)
    (fun v1_0 v1_1 => again (v1_0, v1_1, ())) v.1 v.2.1) (0, ([] : List Int), ()))
    False)
    False)
    False)
    False)
    False) := by kernel_rfl
theorem f23_t (a0 : (List (List Int) × List (List Int)) × List (ByteArray × Int × Int × Int × Int) × List Int) (a1 : Int × Int × Int) (hpre : f23_pre (a0, a1)) (K : ((List (List Int) × List (List Int)) × List (ByteArray × Int × Int × Int × Int) × List Int) → Prop) (hK : ∀ y : (List (List Int) × List (List Int)) × List (ByteArray × Int × Int × Int × Int) × List Int, y = f23 (a0, a1) → K y) : RunF Tryz.prog f23_E f23_A 6 Tryz.f23 f23_e.doms f23_e.cods (a0, a1) K := by
  refine ⟨?_⟩
  rw [f23_run a0 a1 K]
  obtain ⟨hok, ⟨p1, p2, p3⟩, hz⟩ := hpre
  simp only at hok p1 p2 p3 hz
  have hv := hok.v
  have h6 := hv.six
  obtain ⟨hin, h1, h2, h3⟩ := aroundE_zero hz
  have hlt : a1.1.toNat < a0.2.1.length := by have := hin.1; have := hin.2; omega
  have h0 := hin.1
  obtain ⟨⟨_, av, hle⟩, _⟩ := hv.arr a1.1.toNat hlt
  have ef : f23 (a0, a1) = aroundF a0 a1 := rfl
  rw [ef] at hK
  have e46 : f46 a0.2.1 = a0.2.1 := rfl
  have e45 : f45 a0.1 = a0.1 := rfl
  have hd : ((⟨#[]⟩ : ByteArray), ((0 : Int), ((0 : Int), ((0 : Int), (0 : Int))))) = arrD := rfl
  have hg : ∀ X : Arr, (a0.2.1.set a1.1.toNat X).getD a1.1.toNat arrD = X := fun X => by
    rw [List.getD_eq_getElem?_getD, List.getElem?_set_self hlt]
    rfl
  simp only [hd, e46, e45, hg, List.length_set, List.set_set]
  unfold aroundF movedA at hK
  generalize hA : a0.2.1.getD a1.1.toNat arrD = A at *
  obtain ⟨_, v2, v3, _⟩ := av
  have hb : (decide (0 ≤ a1.1) && decide (a1.1 < (a0.2.1.length : Int))) = true := inb (by omega) (by omega)
  refine ⟨p1, p2, show a0.2.2.length ≤ 1048576 by omega, ?_⟩
  rw [hb]
  simp only [br_t]
  rw [wr (n := a1.2.1 + a1.2.2) (by omega) (by omega), wr (n := a1.2.1 + a1.2.2 - A.2.2.1) (by omega) (by omega), wr (n := A.2.2.1 + (a1.2.1 + a1.2.2 - A.2.2.1)) (by omega) (by omega), wr (n := A.2.2.2.1 + (a1.2.1 + a1.2.2 - A.2.2.1)) (by omega) (by omega), show A.2.2.1 + (a1.2.1 + a1.2.2 - A.2.2.1) = a1.2.1 + a1.2.2 by omega]
  refine LoopP.of (fun q : Int × List Int × Unit => ∃ i : Nat, i ≤ a0.2.2.length ∧ q.1 = (i : Int) ∧ q.2.1 = (a0.2.2.take i).filter fun n => n != a1.1) (fun q => ((a0.2.2.length : Int) - q.1).toNat) (fun again q hq hag => ?_) ⟨0, by omega, rfl, rfl⟩
  obtain ⟨ii, l, u⟩ := q
  obtain ⟨i, hi, e1, e2⟩ := hq
  simp only at e1 e2
  subst e1 e2
  dsimp only
  rw [br_true_]
  intro _
  rw [br_dec]
  refine ⟨fun hl => ?_, fun hl => ?_⟩
  · have hl : i < a0.2.2.length := by omega
    have hb : (decide (0 ≤ (i : Int)) && decide ((i : Int) < (a0.2.2.length : Int))) = true := inb (by omega) (by omega)
    have hs := filter_succ hl (fun n => n != a1.1)
    have hfl : ((a0.2.2.take i).filter fun n => n != a1.1).length ≤ 1000 := Nat.le_trans (List.length_filter_le _ _) (by rw [List.length_take]; omega)
    rw [hb, Int.toNat_natCast, wr (n := (i : Int) + 1) (by omega) (by omega)]
    simp only [br_t]
    rw [br_both]
    refine ⟨fun hne => ?_, fun he => ?_⟩
    · rw [br_false_, roomOk_iff]
      rw [if_pos hne] at hs
      exact ⟨by omega, hag _ ⟨i + 1, by omega, by simp only; omega, by simp only; rw [hs]⟩ (by simp only; omega)⟩
    · rw [if_neg (by rw [he]; simp), List.append_nil] at hs
      exact hag _ ⟨i + 1, by omega, by simp only; omega, by simp only; rw [hs]⟩ (by simp only; omega)
  · have : i = a0.2.2.length := by omega
    subst this
    rw [List.take_length]
    exact hK _ rfl
theorem f23_fn : f23_e.fn = f23 := rfl
theorem f23_ok : EntryOK Tryz.prog 23 f23_e := by
  refine entryF progOK (EnvOK.cons f45_ok (EnvOK.cons f46_ok (EnvOK.cons f47_ok (EnvOK.nil)))) (A := f23_A) (d := 6) Tryz.func23 rfl rfl rfl rfl (fun h => by cases h) fun x hpre => ?_
  obtain ⟨a0, a1⟩ := x
  exact f23_t a0 a1 hpre _ fun _ h => h.trans (congrFun f23_fn.symm _)
end Go.Proofs.YtglokajinehbmaaGreat
end

section
namespace Go.Proofs.YtglokajinehbmaaGreat
open Go Go.Pi Go.RowKit
set_option maxRecDepth 100000
set_option linter.unusedVariables false
set_option linter.unusedSimpArgs false

def f26 (x : List (Int × Int) × List (Int × Int)) : Bool := decide (x.1 = x.2)
def f26_e : Entry := { doms := [(false, (.sl (.pair (.int .i64) (.int .i64)))), (false, (.sl (.pair (.int .i64) (.int .i64))))], cods := [(false, .bool)], pre := fun _ => True, fn := f26, uq := false, total := true }
def f26_E : Env := []
def f26_A : Anns := { loops := [(1048576, { tms := [(0, .keep), (1, .keep), (5, .data false (.int .i64))], obs := [], fz := [] })], own := [] }
theorem f26_run (a0 : List (Int × Int)) (a1 : List (Int × Int)) (K : Bool → Prop) : runF Tryz.prog f26_E f26_A 6 Tryz.f26 f26_e.doms f26_e.cods (a0, a1) K =
    (br (lenOk (a0.length))
    (br (lenOk (a1.length))
    (br (((a0.length) : Int) != ((a1.length) : Int))
    (K false)
    (LoopP (V := Int × Unit) (fun again v => (fun (again1 : Int → Prop) (v1_0 : Int) =>
    br (lenOk (a0.length))
    (br (decide (v1_0 < ((a0.length) : Int)))
    (br (decide (0 ≤ v1_0) && decide (v1_0 < ((a0.length) : Int)))
    (br (decide (0 ≤ v1_0) && decide (v1_0 < ((a1.length) : Int)))
    (br (!(((a0.getD v1_0.toNat (0, 0)).1 == (a1.getD v1_0.toNat (0, 0)).1) && (((a0.getD v1_0.toNat (0, 0)).2 == (a1.getD v1_0.toNat (0, 0)).2) && true)))
    (K false)
    (again1 (IntKind.i64.wrap (v1_0 + 1))))
    False)
    False)
    (K true))
    True)
    (fun v1_0 => again (v1_0, ())) v.1) (0, ())))
    True)
    True) := by kernel_rfl
theorem f26_t (a0 : List (Int × Int)) (a1 : List (Int × Int)) (K : Bool → Prop) (hK : ∀ y : Bool, y = f26 (a0, a1) → K y) : RunF Tryz.prog f26_E f26_A 6 Tryz.f26 f26_e.doms f26_e.cods (a0, a1) K := by
  refine ⟨?_⟩
  rw [f26_run a0 a1 K]
  have hK : K (decide (a0 = a1)) := hK _ rfl
  rw [br_true_, br_true_]
  intro _ _
  rw [br_both]
  refine ⟨fun h => same_len hK (cast_ne.1 h), fun h => ?_⟩
  have hl := cast_ne_f.1 h
  refine sameW (d := (0, 0)) hK hl (fun again i hi hag hno hend => ?_)
  dsimp only
  rw [br_true_]
  intro hlen
  have hlen := lenOk_iff.1 hlen
  rw [br_dec]
  refine ⟨fun hlt => ?_, fun hlt => hend (by omega)⟩
  have hlt : i < a0.length := by omega
  rw [br_false_]
  refine ⟨inb (by omega) (by omega), ?_⟩
  rw [br_false_]
  refine ⟨inb (by omega) (by omega), ?_⟩
  simp only [Int.toNat_natCast]
  rw [br_both, wr (n := (i : Int) + 1) (by omega) (by omega)]
  refine ⟨fun hne => hno hlt fun he => ?_, fun heq => hag hlt ?_⟩
  · rw [he] at hne
    simp at hne
  · simp only [Bool.not_eq_false', Bool.and_eq_true, beq_iff_eq] at heq
    exact Prod.ext heq.1 heq.2.1
theorem f26_fn : f26_e.fn = f26 := rfl
theorem f26_ok : EntryOK Tryz.prog 26 f26_e := by
  refine entryF progOK (EnvOK.nil) (A := f26_A) (d := 6) Tryz.func26 rfl rfl rfl rfl (fun _ _ => trivial) fun x hpre => ?_
  obtain ⟨a0, a1⟩ := x
  exact f26_t a0 a1 _ fun _ h => h.trans (congrFun f26_fn.symm _)
end Go.Proofs.YtglokajinehbmaaGreat
end

section
namespace Go.Proofs.YtglokajinehbmaaGreat
open Go Go.Pi Go.RowKit
set_option maxRecDepth 100000
set_option linter.unusedVariables false
set_option linter.unusedSimpArgs false

def f27 (x : List (Int × Int) × Int) : List (Int × Int) := fixF x.1 x.2
def f27_pre (x : List (Int × Int) × Int) : Prop := x.1.length ≤ 1000
def f27_e : Entry := { doms := [(false, (.sl (.pair (.int .i64) (.int .i64)))), (false, (.int .i64))], cods := [(false, (.sl (.pair (.int .i64) (.int .i64))))], pre := f27_pre, fn := f27, uq := false, total := false }
def f27_E : Env := [(18, f18_e)]
def f27_A : Anns := { loops := [(1048576, { tms := [(0, .keep), (1, .keep), (5, .data false (.int .i64)), (6, .data false (.int .i64))], obs := [], fz := [] })], own := [] }
theorem f27_run (a0 : List (Int × Int)) (a1 : Int) (K : (List (Int × Int)) → Prop) : runF Tryz.prog f27_E f27_A 6 Tryz.f27 f27_e.doms f27_e.cods (a0, a1) K =
    (LoopP (V := Int × Int × Unit) (fun again v => (fun (again1 : Int → Int → Prop) (v1_0 : Int) (v1_1 : Int) =>
    br (lenOk (a0.length))
    (br (decide (v1_1 < ((a0.length) : Int)))
    (br (decide (0 ≤ v1_1) && decide (v1_1 < ((a0.length) : Int)))
    (br (decide ((a0.getD v1_1.toNat (0, 0)).2 ≤ a1))
    (again1 (IntKind.i64.wrap (v1_1 + 1)) (IntKind.i64.wrap (v1_1 + 1)))
    (again1 v1_0 (IntKind.i64.wrap (v1_1 + 1))))
    False)
    (br (decide ((0 : Int) ≤ 0 ∧ 0 ≤ v1_0 ∧ v1_0 ≤ ((a0.length) : Int)))
    (f18_pre ((a0.take v1_0.toNat).drop 0) ∧
    K (f18 ((a0.take v1_0.toNat).drop 0)))
    False))
    True)
    (fun v1_0 v1_1 => again (v1_0, v1_1, ())) v.1 v.2.1) (0, 0, ())) := by kernel_rfl
theorem f27_t (a0 : List (Int × Int)) (a1 : Int) (hpre : f27_pre (a0, a1)) (K : (List (Int × Int)) → Prop) (hK : ∀ y : List (Int × Int), y = f27 (a0, a1) → K y) : RunF Tryz.prog f27_E f27_A 6 Tryz.f27 f27_e.doms f27_e.cods (a0, a1) K := by
  refine ⟨?_⟩
  rw [f27_run a0 a1 K]
  have hl : a0.length ≤ 1000 := hpre
  have ef : f27 (a0, a1) = fixF a0 a1 := rfl
  rw [ef] at hK
  refine LoopP.of (fun q : Int × Int × Unit => ∃ i : Nat, i ≤ a0.length ∧ q.2.1 = (i : Int) ∧ q.1 = (fixN a0 a1 i : Int)) (fun q => ((a0.length : Int) - q.2.1).toNat) (fun again q hq hag => ?_) ⟨0, by omega, rfl, rfl⟩
  obtain ⟨cn, ii, u⟩ := q
  obtain ⟨i, hi, e1, e2⟩ := hq
  simp only at e1 e2
  subst e1 e2
  dsimp only
  have hfl := fixN_le a0 a1 i
  rw [br_true_]
  intro _
  rw [br_dec]
  refine ⟨fun hlt => ?_, fun hlt => ?_⟩
  · have hlt : i < a0.length := by omega
    rw [br_false_]
    refine ⟨inb (by omega) (by omega), ?_⟩
    have hs : fixN a0 a1 (i + 1) = if (a0.getD i (0, 0)).2 ≤ a1 then i + 1 else fixN a0 a1 i := rfl
    rw [Int.toNat_natCast, wr (n := (i : Int) + 1) (by omega) (by omega), br_dec]
    refine ⟨fun h => hag _ ⟨i + 1, by omega, by simp only; omega, ?_⟩ (by simp only; omega), fun h => hag _ ⟨i + 1, by omega, by simp only; omega, ?_⟩ (by simp only; omega)⟩
    · simp only
      rw [hs, if_pos h]
      omega
    · simp only
      rw [hs, if_neg h]
  · have : i = a0.length := by omega
    subst this
    rw [br_false_]
    refine ⟨by simp; omega, ?_, hK _ ?_⟩
    · show ((a0.take _).drop 0).length ≤ 1000
      simp
      omega
    · show (a0.take _).drop 0 = _
      rw [Int.toNat_natCast, List.drop_zero]
      rfl
theorem f27_fn : f27_e.fn = f27 := rfl
theorem f27_ok : EntryOK Tryz.prog 27 f27_e := by
  refine entryF progOK (EnvOK.cons f18_ok (EnvOK.nil)) (A := f27_A) (d := 6) Tryz.func27 rfl rfl rfl rfl (fun h => by cases h) fun x hpre => ?_
  obtain ⟨a0, a1⟩ := x
  exact f27_t a0 a1 hpre _ fun _ h => h.trans (congrFun f27_fn.symm _)
end Go.Proofs.YtglokajinehbmaaGreat
end

section
namespace Go.Proofs.YtglokajinehbmaaGreat
open Go Go.Pi Go.RowKit
set_option maxRecDepth 100000
set_option linter.unusedVariables false
set_option linter.unusedSimpArgs false

def f67 (l : List Int) : List (List Int) := perms l.length l
def f67_preN (n : Nat) (l : List Int) : Prop := l.length < n ∧ n ≤ 9
theorem f67_no {l : List Int} (h : f67_preN 0 l) : False := by
  have := h.1
  omega
def f67_eN (n : Nat) : Entry := { doms := [(false, (.sl (.int .i64)))], cods := [(false, (.sl (.sl (.int .i64))))], pre := f67_preN n, fn := f67, uq := false, total := false }
def f67_E (n : Nat) : Env := [(67, f67_eN n), (47, f47_e)]
def f67_A : Anns := { loops := [(1048576, { tms := [(0, .keep), (3, .ref 1060876), (4, .data false (.int .i64))], obs := [(1060876, .arr (.uniq) (.sl (.int .i64)))], fz := [] }),
  (1048578, { tms := [(0, .keep), (3, .ref 1060876), (4, .keep), (6, .keep), (7, .data false (.int .i64))], obs := [(1055747, .keep), (1060876, .arr (.uniq) (.sl (.int .i64)))], fz := [] })], own := [1055747, 1056264, 1056265] }
theorem f67_run (n : Nat) (a0 : List Int) (K : (List (List Int)) → Prop) : runF Tryz.prog (f67_E n) f67_A 6 Tryz.f67 (f67_eN n).doms (f67_eN n).cods a0 K =
    (br (lenOk (a0.length))
    (br (((a0.length) : Int) == 0)
    (K ([([] : List Int)] : List (List Int)))
    (LoopP (V := Int × List (List Int) × Unit) (fun again v => (fun (again1 : Int → List (List Int) → Prop) (v1_0 : Int) (v1_1 : List (List Int)) =>
    br (lenOk (a0.length))
    (br (decide (v1_0 < ((a0.length) : Int)))
    (br (decide ((0 : Int) ≤ 0 ∧ 0 ≤ v1_0 ∧ v1_0 ≤ ((a0.length) : Int)))
    (f47_pre ((a0.take v1_0.toNat).drop 0) ∧
    br (decide ((0 : Int) ≤ (IntKind.i64.wrap (v1_0 + 1)) ∧ (IntKind.i64.wrap (v1_0 + 1)) ≤ ((a0.length) : Int) ∧ ((a0.length) : Int) ≤ ((a0.length) : Int)))
    (br (roomOk (((f47 ((a0.take v1_0.toNat).drop 0)).length) + (((a0.take (((a0.length) : Int).toNat)).drop ((IntKind.i64.wrap (v1_0 + 1)).toNat)).length)) 8)
    (f67_preN n ((f47 ((a0.take v1_0.toNat).drop 0)) ++ ((a0.take (((a0.length) : Int).toNat)).drop ((IntKind.i64.wrap (v1_0 + 1)).toNat))) ∧
    LoopP (V := Int × List (List Int) × Unit) (fun again v => (fun (again2 : Int → List (List Int) → Prop) (v2_0 : Int) (v2_1 : List (List Int)) =>
    br (lenOk ((f67 ((f47 ((a0.take v1_0.toNat).drop 0)) ++ ((a0.take (((a0.length) : Int).toNat)).drop ((IntKind.i64.wrap (v1_0 + 1)).toNat)))).length))
    (br (decide (v2_0 < (((f67 ((f47 ((a0.take v1_0.toNat).drop 0)) ++ ((a0.take (((a0.length) : Int).toNat)).drop ((IntKind.i64.wrap (v1_0 + 1)).toNat)))).length) : Int)))
    (br (decide (0 ≤ v1_0) && decide (v1_0 < ((a0.length) : Int)))
    (br (decide (0 ≤ v2_0) && decide (v2_0 < (((f67 ((f47 ((a0.take v1_0.toNat).drop 0)) ++ ((a0.take (((a0.length) : Int).toNat)).drop ((IntKind.i64.wrap (v1_0 + 1)).toNat)))).length) : Int)))
    (br (roomOk (1 + (((f67 ((f47 ((a0.take v1_0.toNat).drop 0)) ++ ((a0.take (((a0.length) : Int).toNat)).drop ((IntKind.i64.wrap (v1_0 + 1)).toNat)))).getD v2_0.toNat []).length)) 8)
    (br (roomOk ((v2_1.length) + 1) 24)
    (again2 (IntKind.i64.wrap (v2_0 + 1)) (v2_1 ++ ([(([(a0.getD v1_0.toNat 0)] : List Int) ++ ((f67 ((f47 ((a0.take v1_0.toNat).drop 0)) ++ ((a0.take (((a0.length) : Int).toNat)).drop ((IntKind.i64.wrap (v1_0 + 1)).toNat)))).getD v2_0.toNat []))] : List (List Int))))
    False)
    False)
    False)
    False)
    (again1 (IntKind.i64.wrap (v1_0 + 1)) v2_1))
    True)
    (fun v2_0 v2_1 => again (v2_0, v2_1, ())) v.1 v.2.1) (0, v1_1, ()))
    False)
    False)
    False)
    (K v1_1))
    True)
    (fun v1_0 v1_1 => again (v1_0, v1_1, ())) v.1 v.2.1) (0, ([] : List (List Int)), ())))
    True) := by kernel_rfl
theorem f67_t (n : Nat) (a0 : List Int) (hpre : f67_preN (n + 1) a0) (K : (List (List Int)) → Prop) (hK : ∀ y : List (List Int), y = f67 a0 → K y) : RunF Tryz.prog (f67_E n) f67_A 6 Tryz.f67 (f67_eN n).doms (f67_eN n).cods a0 K := by
  refine ⟨?_⟩
  rw [f67_run n a0 K]
  obtain ⟨h1, h2⟩ := hpre
  rw [br_true_]
  intro _
  rw [br_both]
  refine ⟨fun h => hK _ ?_, fun h => ?_⟩
  · have h0 : ((a0.length : Nat) : Int) = 0 := by simpa using h
    have : a0 = [] := List.length_eq_zero_iff.1 (by omega)
    subst this
    rfl
  have hne : a0.length ≠ 0 := fun hh => by simp [hh] at h
  obtain ⟨m, hm⟩ : ∃ m, a0.length = m + 1 := ⟨a0.length - 1, by omega⟩
  have hfin : f67 a0 = permsTo m a0 a0.length := by
    rw [f67, hm, perms_to hne, ← hm]
  have h9 : factN m ≤ 5040 := by
    have : m ≤ 7 := by omega
    have : m = 0 ∨ m = 1 ∨ m = 2 ∨ m = 3 ∨ m = 4 ∨ m = 5 ∨ m = 6 ∨ m = 7 := by omega
    rcases this with e | e | e | e | e | e | e | e <;> subst e <;> decide
  refine LoopP.of (fun q : Int × List (List Int) × Unit => ∃ i : Nat, i ≤ a0.length ∧ q.1 = (i : Int) ∧ q.2.1 = permsTo m a0 i) (fun q => ((a0.length : Int) - q.1).toNat) (fun again q hq hag => ?_) ⟨0, by omega, rfl, rfl⟩
  obtain ⟨ii, out, u⟩ := q
  obtain ⟨i, hi, e1, e2⟩ := hq
  simp only at e1 e2
  subst e1 e2
  dsimp only
  rw [br_true_]
  intro _
  rw [br_dec]
  refine ⟨fun hlt => ?_, fun hlt => hK _ (by rw [hfin, show i = a0.length by omega])⟩
  have hlt : i < a0.length := by omega
  have w1 : IntKind.i64.wrap ((i : Int) + 1) = (i : Int) + 1 := wr (by omega) (by omega)
  have n1 : ((i : Int) + 1).toNat = i + 1 := by omega
  have e20 : f47 ((a0.take i).drop 0) ++ (a0.take a0.length).drop (i + 1) = outAt a0 i := by simp [f47, outAt]
  have hol := outAt_len hlt
  have l20 : (f47 ((a0.take i).drop 0)).length + ((a0.take a0.length).drop (i + 1)).length = m := by rw [← List.length_append, e20, hol]; omega
  have e88 : f67 (outAt a0 i) = perms m (outAt a0 i) := by rw [f67, hol, hm]; rfl
  simp only [w1, n1, Int.toNat_natCast, e20, l20, e88]
  rw [br_false_]
  refine ⟨decide_eq_true (by omega), show ((a0.take i).drop 0).length ≤ 1048576 by simp; omega, ?_⟩
  rw [br_false_]
  refine ⟨decide_eq_true (by omega), ?_⟩
  rw [br_false_, roomOk_iff]
  refine ⟨by omega, ⟨by rw [hol]; omega, by omega⟩, ?_⟩
  have hcnt := perms_count m (outAt a0 i) (by rw [hol]; omega)
  have hto := permsTo_count (perms_count m) (by omega : a0.length ≤ m + 1) i (by omega)
  have hto2 : i * factN m ≤ 8 * 5040 := Nat.mul_le_mul (by omega) h9
  have hs := permsTo_succ m a0 i
  have hlen := perms_len m (outAt a0 i) (by rw [hol]; omega)
  generalize hP : perms m (outAt a0 i) = Q at *
  refine LoopP.of (fun q : Int × List (List Int) × Unit => ∃ j : Nat, j ≤ Q.length ∧ q.1 = (j : Int) ∧ q.2.1 = permsTo m a0 i ++ (Q.take j).map (a0.getD i 0 :: ·)) (fun q => ((Q.length : Int) - q.1).toNat) (fun again2 q hq hag2 => ?_) ⟨0, by omega, rfl, by simp⟩
  obtain ⟨jj, out, u⟩ := q
  obtain ⟨j, hj, e1, e2⟩ := hq
  simp only at e1 e2
  subst e1 e2
  dsimp only
  rw [br_true_]
  intro _
  rw [br_dec]
  refine ⟨fun hlt2 => ?_, fun hlt2 => ?_⟩
  · have hlt2 : j < Q.length := by omega
    simp only [Int.toNat_natCast]
    rw [br_false_]
    refine ⟨inb (by omega) (by omega), ?_⟩
    rw [br_false_]
    refine ⟨inb (by omega) (by omega), ?_⟩
    have hQ : (Q.getD j []).length = m := by
      rw [getD_lt hlt2, hlen _ (List.getElem_mem _), hol]
      omega
    rw [br_false_, br_false_, roomOk_iff, roomOk_iff, hQ, List.length_append, List.length_map, List.length_take, wr (n := (j : Int) + 1) (by omega) (by omega)]
    refine ⟨by omega, by omega, hag2 (_, _, ()) ⟨j + 1, by omega, by simp only; omega, ?_⟩ (by simp only; omega)⟩
    simp only
    rw [List.take_add_one, List.getElem?_eq_getElem hlt2, getD_lt hlt2, List.map_append, List.append_assoc]
    rfl
  · have : j = Q.length := by omega
    subst this
    refine hag (_, _, ()) ⟨i + 1, by omega, by simp only; omega, ?_⟩ (by simp only; omega)
    simp only
    rw [hs, List.take_length]
theorem f67_okN : ∀ n, EntryOK Tryz.prog 67 (f67_eN n)
  | 0 => ⟨⟨_, Tryz.func67, rfl⟩, fun h => (by cases h), fun _ _ _ _ _ _ h => (f67_no h).elim⟩
  | n + 1 => by
    refine entryF progOK (EnvOK.cons (f67_okN n) (EnvOK.cons f47_ok (EnvOK.nil))) (A := f67_A) (d := 6) Tryz.func67 rfl rfl rfl rfl (fun h => by cases h) fun x hpre => ?_
    exact f67_t n x hpre _ fun _ h => h
def f67_pre := f67_preN 9
def f67_e : Entry := f67_eN 9
theorem f67_ok : EntryOK Tryz.prog 67 f67_e := f67_okN 9
end Go.Proofs.YtglokajinehbmaaGreat
end

section
namespace Go.Proofs.YtglokajinehbmaaGreat
open Go Go.Pi Go.RowKit
set_option maxRecDepth 100000
set_option linter.unusedVariables false
set_option linter.unusedSimpArgs false

def f69 (x : ((List (List Int) × List (List Int)) × List (ByteArray × Int × Int × Int × Int) × List Int) × List (Int × Int)) : Int := costF x.1 x.2
def f69_pre (x : ((List (List Int) × List (List Int)) × List (ByteArray × Int × Int × Int × Int) × List Int) × List (Int × Int)) : Prop := okP x.1 ∧ (∀ s ∈ x.2, slotV x.1 s) ∧ x.2.length ≤ 1000
def f69_e : Entry := { doms := [(true, (.pair (.pair (.sl (.sl (.int .i64))) (.sl (.sl (.int .i64)))) (.pair (.sl (.pair .str (.pair (.int .i64) (.pair (.int .i64) (.pair (.int .i64) (.int .i64)))))) (.sl (.int .i64))))), (false, (.sl (.pair (.int .i64) (.int .i64))))], cods := [(false, (.int .i64))], pre := f69_pre, fn := f69, uq := false, total := false }
def f69_E : Env := [(71, f71_e)]
def f69_A : Anns := { loops := [(1048576, { tms := [(1, .keep), (2, .keep), (5, .data false (.int .i64)), (6, .data false (.int .i64))], obs := [(1048576, .keep)], fz := [] })], own := [] }
theorem f69_run (a0 : (List (List Int) × List (List Int)) × List (ByteArray × Int × Int × Int × Int) × List Int) (a1 : List (Int × Int)) (K : Int → Prop) : runF Tryz.prog f69_E f69_A 6 Tryz.f69 f69_e.doms f69_e.cods (a0, a1) K =
    (LoopP (V := Int × Int × Unit) (fun again v => (fun (again1 : Int → Int → Prop) (v1_0 : Int) (v1_1 : Int) =>
    br (lenOk (a1.length))
    (br (decide (v1_1 < ((a1.length) : Int)))
    (br (decide (0 ≤ v1_1) && decide (v1_1 < ((a1.length) : Int)))
    (br (decide (0 ≤ (a1.getD v1_1.toNat (0, 0)).1) && decide ((a1.getD v1_1.toNat (0, 0)).1 < ((a0.2.1.length) : Int)))
    (br (decide (0 ≤ v1_1) && decide (v1_1 < ((a1.length) : Int)))
    (again1 (IntKind.i64.wrap (v1_0 + (IntKind.i64.wrap (((((a0.2.1.getD (((a1.getD v1_1.toNat (0, 0)).1).toNat) ((⟨#[]⟩ : ByteArray), (0, (0, (0, 0))))).2).2).2).2 * (IntKind.i64.wrap ((a1.getD v1_1.toNat (0, 0)).2 - (((a0.2.1.getD (((a1.getD v1_1.toNat (0, 0)).1).toNat) ((⟨#[]⟩ : ByteArray), (0, (0, (0, 0))))).2).2).1)))))) (IntKind.i64.wrap (v1_1 + 1)))
    False)
    False)
    False)
    (K v1_0))
    True)
    (fun v1_0 v1_1 => again (v1_0, v1_1, ())) v.1 v.2.1) (0, 0, ())) := by kernel_rfl
theorem f69_t (a0 : (List (List Int) × List (List Int)) × List (ByteArray × Int × Int × Int × Int) × List Int) (a1 : List (Int × Int)) (hpre : f69_pre (a0, a1)) (K : Int → Prop) (hK : ∀ y : Int, y = f69 (a0, a1) → K y) : RunF Tryz.prog f69_E f69_A 6 Tryz.f69 f69_e.doms f69_e.cods (a0, a1) K := by
  refine ⟨?_⟩
  rw [f69_run a0 a1 K]
  obtain ⟨h, hs, h3⟩ := hpre
  simp only at h hs h3
  have hv := h.v
  have hd : ((⟨#[]⟩ : ByteArray), ((0 : Int), ((0 : Int), ((0 : Int), (0 : Int))))) = arrD := rfl
  simp only [hd]
  refine LoopP.of (fun q : Int × Int × Unit => ∃ i : Nat, i ≤ a1.length ∧ q.2.1 = (i : Int) ∧ q.1 = costF a0 (a1.take i)) (fun q => ((a1.length : Int) - q.2.1).toNat) (fun again q hq hag => ?_) ⟨0, by omega, rfl, rfl⟩
  obtain ⟨t, j, u⟩ := q
  obtain ⟨i, hi, e1, e2⟩ := hq
  simp only at e1 e2
  subst e1 e2
  dsimp only
  rw [br_true_, lenOk_iff]
  intro _
  rw [br_dec]
  refine ⟨fun hlt => ?_, fun hlt => hK _ ?_⟩
  · have hlt : i < a1.length := by omega
    have b0 : (decide (0 ≤ (i : Int)) && decide ((i : Int) < (a1.length : Int))) = true := inb (by omega) (by omega)
    rw [b0]
    simp only [Int.toNat_natCast, br_t]
    have hm := hs (a1.getD i (0, 0)) (by rw [getD_lt hlt]; exact List.getElem_mem _)
    have hc1 := cost1_in hv hm
    have hc := costF_in hv hs i hi
    have hst := costF_take a0 a1 hlt
    obtain ⟨⟨s1, s2⟩, s3, s4⟩ := hm
    obtain ⟨⟨_, b, _⟩, _⟩ := hv.arr (a1.getD i (0, 0)).1.toNat (by omega)
    have be := b.2.1
    rw [br_false_]
    refine ⟨inb s1 s2, ?_⟩
    generalize (a1.getD i (0, 0)) = s at *
    rw [wr (n := s.2 - (a0.2.1.getD s.1.toNat arrD).2.2.1) (by omega) (by omega)]
    rw [wr (n := (a0.2.1.getD s.1.toNat arrD).2.2.2.2 * (s.2 - (a0.2.1.getD s.1.toNat arrD).2.2.1)) (by omega) (by omega), wr (n := costF a0 (a1.take i) + _) (by omega) (by omega), wr (n := (i : Int) + 1) (by omega) (by omega)]
    exact hag (_, _, ()) ⟨i + 1, by omega, by simp only; omega, hst.symm⟩ (by simp only; omega)
  · rw [f69, List.take_of_length_le (by omega)]
theorem f69_fn : f69_e.fn = f69 := rfl
theorem f69_ok : EntryOK Tryz.prog 69 f69_e := by
  refine entryF progOK (EnvOK.cons f71_ok (EnvOK.nil)) (A := f69_A) (d := 6) Tryz.func69 rfl rfl rfl rfl (fun h => by cases h) fun x hpre => ?_
  obtain ⟨a0, a1⟩ := x
  exact f69_t a0 a1 hpre _ fun _ h => h.trans (congrFun f69_fn.symm _)
end Go.Proofs.YtglokajinehbmaaGreat
end

section
namespace Go.Proofs.YtglokajinehbmaaGreat
open Go Go.Pi Go.RowKit
set_option maxRecDepth 100000
set_option linter.unusedVariables false
set_option linter.unusedSimpArgs false

def f28 (x : ((List (List Int) × List (List Int)) × List (ByteArray × Int × Int × Int × Int) × List Int) × List (Int × Int)) : List (Int × Int) × Int × Bool := bestF x.1 x.2
def f28_pre (x : ((List (List Int) × List (List Int)) × List (ByteArray × Int × Int × Int × Int) × List Int) × List (Int × Int)) : Prop := FixV x.1 x.2
theorem best_take {p : Prob} {fixed : List (Int × Int)} {L : List (List Int)} {s0 : List (Int × Int) × Int × Bool} {i : Nat} (hi : i < L.length) : (L.take (i + 1)).foldl (bestStep p fixed) s0 = bestStep p fixed ((L.take i).foldl (bestStep p fixed) s0) (L.getD i []) := by
  rw [List.take_add_one, List.getElem?_eq_getElem hi, List.foldl_append, getD_lt hi]
  rfl
def f28_e : Entry := { doms := [(true, (.pair (.pair (.sl (.sl (.int .i64))) (.sl (.sl (.int .i64)))) (.pair (.sl (.pair .str (.pair (.int .i64) (.pair (.int .i64) (.pair (.int .i64) (.int .i64)))))) (.sl (.int .i64))))), (false, (.sl (.pair (.int .i64) (.int .i64))))], cods := [(false, (.sl (.pair (.int .i64) (.int .i64)))), (false, (.int .i64)), (false, .bool)], pre := f28_pre, fn := f28, uq := false, total := false }
def f28_E : Env := [(65, f65_e), (67, f67_e), (68, f68_e), (69, f69_e), (56, f56_e)]
def f28_A : Anns := { loops := [(1048576, { tms := [(1, .keep), (2, .keep), (7, .ref 1054723), (8, .data false (.int .i64))], obs := [(1048576, .keep), (1054723, .arr (.uniq) (.int .i64))], fz := [] }),
  (1048578, { tms := [(1, .keep), (2, .keep), (9, .data false (.sl (.pair (.int .i64) (.int .i64)))), (10, .data false (.int .i64)), (11, .data false .bool), (12, .keep), (13, .data false (.int .i64))], obs := [(1048576, .keep), (1054723, .keep)], fz := [] })], own := [] }
theorem f28_run (a0 : (List (List Int) × List (List Int)) × List (ByteArray × Int × Int × Int × Int) × List Int) (a1 : List (Int × Int)) (K : (List (Int × Int) × Int × Bool) → Prop) : runF Tryz.prog f28_E f28_A 6 Tryz.f28 f28_e.doms f28_e.cods (a0, a1) K =
    (LoopP (V := Int × List Int × Unit) (fun again v => (fun (again1 : Int → List Int → Prop) (v1_0 : Int) (v1_1 : List Int) =>
    br (lenOk (a0.2.1.length))
    (br (decide (v1_0 < ((a0.2.1.length) : Int)))
    (br (!(f65 (a1, v1_0)))
    (br (roomOk ((v1_1.length) + 1) 8)
    (again1 (IntKind.i64.wrap (v1_0 + 1)) (v1_1 ++ ([v1_0] : List Int)))
    False)
    (again1 (IntKind.i64.wrap (v1_0 + 1)) v1_1))
    (f67_pre v1_1 ∧
    LoopP (V := List (Int × Int) × Int × Bool × Int × Unit) (fun again v => (fun (again2 : List (Int × Int) → Int → Bool → Int → Prop) (v2_0 : List (Int × Int)) (v2_1 : Int) (v2_2 : Bool) (v2_3 : Int) =>
    br (lenOk ((f67 v1_1).length))
    (br (decide (v2_3 < (((f67 v1_1).length) : Int)))
    (br (decide (0 ≤ v2_3) && decide (v2_3 < (((f67 v1_1).length) : Int)))
    (f68_pre (a0, (a1, ((f67 v1_1).getD v2_3.toNat []))) ∧
    br (!(f68 (a0, (a1, ((f67 v1_1).getD v2_3.toNat [])))).2)
    (again2 v2_0 v2_1 v2_2 (IntKind.i64.wrap (v2_3 + 1)))
    (f69_pre (a0, (f68 (a0, (a1, ((f67 v1_1).getD v2_3.toNat [])))).1) ∧
    br (!v2_2)
    (again2 ((f68 (a0, (a1, ((f67 v1_1).getD v2_3.toNat [])))).1) (f69 (a0, (f68 (a0, (a1, ((f67 v1_1).getD v2_3.toNat [])))).1)) true (IntKind.i64.wrap (v2_3 + 1)))
    (br (decide ((f69 (a0, (f68 (a0, (a1, ((f67 v1_1).getD v2_3.toNat [])))).1)) < v2_1))
    (again2 ((f68 (a0, (a1, ((f67 v1_1).getD v2_3.toNat [])))).1) (f69 (a0, (f68 (a0, (a1, ((f67 v1_1).getD v2_3.toNat [])))).1)) true (IntKind.i64.wrap (v2_3 + 1)))
    (again2 v2_0 v2_1 v2_2 (IntKind.i64.wrap (v2_3 + 1))))))
    False)
    (K (v2_0, (v2_1, v2_2))))
    True)
    (fun v2_0 v2_1 v2_2 v2_3 => again (v2_0, v2_1, v2_2, v2_3, ())) v.1 v.2.1 v.2.2.1 v.2.2.2.1) (([] : List (Int × Int)), 0, false, 0, ())))
    True)
    (fun v1_0 v1_1 => again (v1_0, v1_1, ())) v.1 v.2.1) (0, ([] : List Int), ())) := by kernel_rfl
theorem f28_t (a0 : (List (List Int) × List (List Int)) × List (ByteArray × Int × Int × Int × Int) × List Int) (a1 : List (Int × Int)) (hpre : f28_pre (a0, a1)) (K : (List (Int × Int) × Int × Bool) → Prop) (hK : ∀ y : List (Int × Int) × Int × Bool, y = f28 (a0, a1) → K y) : RunF Tryz.prog f28_E f28_A 6 Tryz.f28 f28_e.doms f28_e.cods (a0, a1) K := by
  refine ⟨?_⟩
  rw [f28_run a0 a1 K]
  have hf : FixV a0 a1 := hpre
  have h6 := hf.ok.v.six
  refine LoopP.of (fun q : Int × List Int × Unit => ∃ i : Nat, i ≤ a0.2.1.length ∧ q.1 = (i : Int) ∧ q.2.1 = leftF a0 a1 i) (fun q => ((a0.2.1.length : Int) - q.1).toNat) (fun again q hq hag => ?_) ⟨0, by omega, rfl, rfl⟩
  obtain ⟨ii, l, u⟩ := q
  obtain ⟨i, hi, e1, e2⟩ := hq
  simp only at e1 e2
  subst e1 e2
  dsimp only
  have hll := leftF_len a0 a1 i
  rw [br_true_]
  intro _
  rw [br_dec]
  refine ⟨fun hlt => ?_, fun hlt => ?_⟩
  · have hlt : i < a0.2.1.length := by omega
    have e87 : f65 (a1, (i : Int)) = hasS a1 i := rfl
    rw [e87, wr (n := (i : Int) + 1) (by omega) (by omega)]
    have hs := leftF_succ a0 a1 i
    rw [br_both]
    refine ⟨fun h => ?_, fun h => ?_⟩
    · rw [if_neg (by rw [not_true.1 h]; simp)] at hs
      rw [br_false_, roomOk_iff]
      exact ⟨by omega, hag (_, _, ()) ⟨i + 1, by omega, by simp only; omega, hs.symm⟩ (by simp only; omega)⟩
    · rw [if_pos (not_false_.1 h)] at hs
      exact hag (_, _, ()) ⟨i + 1, by omega, by simp only; omega, hs.symm⟩ (by simp only; omega)
  · have hi : i = a0.2.1.length := by omega
    subst hi
    have hrl : (restF a0 a1).length ≤ 6 := by unfold restF; omega
    have e88 : f67 (leftF a0 a1 a0.2.1.length) = perms 8 (restF a0 a1) := perms_fuel _ _ _ (Nat.le_refl _) (by show (restF a0 a1).length ≤ 8; omega)
    rw [e88]
    refine ⟨⟨by omega, by omega⟩, ?_⟩
    have hlen := perms_len 8 (restF a0 a1) (by omega)
    have hmem := perms_mem 8 (restF a0 a1)
    have hcnt := perms_count 8 (restF a0 a1) (by omega)
    rw [show factN 8 = 40320 from rfl] at hcnt
    have hb : f28 (a0, a1) = (perms 8 (restF a0 a1)).foldl (bestStep a0 a1) ([], 0, false) := rfl
    rw [hb] at hK
    generalize hL : perms 8 (restF a0 a1) = L at *
    refine LoopP.of (fun q : List (Int × Int) × Int × Bool × Int × Unit => ∃ i : Nat, i ≤ L.length ∧ q.2.2.2.1 = (i : Int) ∧ (q.1, q.2.1, q.2.2.1) = (L.take i).foldl (bestStep a0 a1) ([], 0, false)) (fun q => ((L.length : Int) - q.2.2.2.1).toNat) (fun again q hq hag => ?_) ⟨0, by omega, rfl, rfl⟩
    obtain ⟨pl, le, fo, jj, u⟩ := q
    obtain ⟨j, hj, e1, e2⟩ := hq
    simp only at e1 e2
    subst e1
    dsimp only
    rw [br_true_]
    intro _
    rw [br_dec]
    refine ⟨fun hlt2 => ?_, fun hlt2 => hK _ ?_⟩
    · have hlt2 : j < L.length := by omega
      rw [br_false_]
      refine ⟨inb (by omega) (by omega), ?_⟩
      generalize hoj : L.getD ((j : Int)).toNat [] = o
      rw [Int.toNat_natCast] at hoj
      have hoL : L.getD j [] ∈ L := by rw [getD_lt hlt2]; exact List.getElem_mem _
      rw [hoj] at hoL
      have ho1 := hlen _ hoL
      have ho2 : ∀ a ∈ o, inA a0 a := fun a ha => leftF_in a0 a1 a (hmem _ hoL a ha)
      have hst := best_take (p := a0) (fixed := a1) (s0 := ([], 0, false)) hlt2
      rw [← e2] at hst
      rw [hoj] at hst
      have e43 : f68 (a0, (a1, o)) = contF a0 a1 o := rfl
      rw [e43, wr (n := (j : Int) + 1) (by omega) (by omega)]
      refine ⟨⟨hf.ok, ⟨hf.slots, show a1.length ≤ 900 from hf.len⟩, ho2, by simp only; omega⟩, ?_⟩
      rw [bestStep] at hst
      have go : ∀ pl' le' fo', (pl', le', fo') = (L.take (j + 1)).foldl (bestStep a0 a1) ([], 0, false) → again (pl', le', fo', (j : Int) + 1, ()) := fun pl' le' fo' e => hag (_, _, _, _, ()) ⟨j + 1, by omega, by simp only; omega, e⟩ (by simp only; omega)
      rw [br_both]
      refine ⟨fun h => go _ _ _ ?_, fun h => ?_⟩
      · rw [hst, if_neg (by rw [not_true.1 h]; simp)]
      · have h := not_false_.1 h
        rw [if_pos h] at hst
        have hvl : (∀ s ∈ (contF a0 a1 o).1, slotV a0 s) ∧ (contF a0 a1 o).1.length ≤ 1000 := by
          unfold contF at h ⊢
          cases e : contL a0 a1 o with
          | none => rw [e] at h; cases h
          | some l =>
            obtain ⟨v1, v2⟩ := contL_ok hf.ok.v o a1 hf.slots ho2 l e
            exact ⟨v1, show l.length ≤ 1000 by have := hf.len; omega⟩
        refine ⟨⟨hf.ok, hvl.1, hvl.2⟩, ?_⟩
        have e46 : f69 (a0, (contF a0 a1 o).1) = costF a0 (contF a0 a1 o).1 := rfl
        rw [e46]
        simp only at hst
        cases fo with
        | false => exact go _ _ _ (by rw [hst, if_pos (.inl rfl)])
        | true =>
          rw [Bool.not_true, br_f, br_dec]
          refine ⟨fun hlt => go _ _ _ (by rw [hst, if_pos (.inr hlt)]), fun hlt => go _ _ _ ?_⟩
          rw [hst, if_neg]
          rintro (h1 | h1)
          · cases h1
          · exact hlt h1
    · have : j = L.length := by omega
      subst this
      rw [List.take_length] at e2
      exact e2
theorem f28_fn : f28_e.fn = f28 := rfl
theorem f28_ok : EntryOK Tryz.prog 28 f28_e := by
  refine entryF progOK (EnvOK.cons f65_ok (EnvOK.cons f67_ok (EnvOK.cons f68_ok (EnvOK.cons f69_ok (EnvOK.cons f56_ok (EnvOK.nil)))))) (A := f28_A) (d := 6) Tryz.func28 rfl rfl rfl rfl (fun h => by cases h) fun x hpre => ?_
  obtain ⟨a0, a1⟩ := x
  exact f28_t a0 a1 hpre _ fun _ h => h.trans (congrFun f28_fn.symm _)
end Go.Proofs.YtglokajinehbmaaGreat
end

section
namespace Go.Proofs.YtglokajinehbmaaGreat
open Go Go.Pi Go.RowKit
set_option maxRecDepth 100000
set_option linter.unusedVariables false
set_option linter.unusedSimpArgs false

def f4 (x : ((List (List Int) × List (List Int)) × List (ByteArray × Int × Int × Int × Int) × List Int) × List (Int × Int) × Int × Int × Int × Int) : Bool := true
def chRest (K : Bool → Prop) (P28 : Prop) (c7 : List (Int × Int) × Int × Int) (c15 : List (Int × Int) × Int × Bool) (c16 : Bool) : Prop :=
  P28 ∧ br (!(c15.2).2) (br ((c7.2).2 == 12) (br (lenOk ((c7.1).length)) (br ((((c7.1).length) : Int) == 0) (K ((c7.2).1 == 0)) (K false)) True) (K false)) (br ((c7.2).2 == 0) (br c16 (K ((c7.2).1 == (c15.2).1)) (K false)) (K false))
def chTail (K : Bool → Prop) (P24 P27 P28 : Prop) (c6 : List (Int × Int) × Int) (c7 : List (Int × Int) × Int × Int) (c13 : Int) (c14 : Bool) (c15 : List (Int × Int) × Int × Bool) (c16 c18 : Bool) : Prop :=
  P24 ∧ br (c13 != 0) (br (c6.2 == c13) (br (lenOk ((c6.1).length)) (br ((((c6.1).length) : Int) == 0) (br ((c7.2).2 == c13) (br (lenOk ((c7.1).length)) (br ((((c7.1).length) : Int) == 0) (K ((c7.2).1 == 0)) (K false)) True) (K false)) (K false)) True) (K false))
    (JoinQ (V := Unit) (fun J => br (!c14) (br (c6.2 != 2) (K false) (br (lenOk ((c6.1).length)) (br ((((c6.1).length) : Int) != 0) (K false) (J ())) True))
      (br (c6.2 != 0) (K false) (P27 ∧ br (!c18) (K false) (J ())))) (fun _ => chRest K P28 c7 c15 c16))
theorem planE_ok {p : Prob} (hok : okP p) (l : List (Int × Int)) : planE p l = slotsErr p l := if_pos hok
def f4_e : Entry := { doms := [(true, (.pair (.pair (.sl (.sl (.int .i64))) (.sl (.sl (.int .i64)))) (.pair (.sl (.pair .str (.pair (.int .i64) (.pair (.int .i64) (.pair (.int .i64) (.int .i64)))))) (.sl (.int .i64))))), (false, (.sl (.pair (.int .i64) (.int .i64)))), (true, (.pair (.int .i64) (.pair (.int .i64) (.pair (.int .i64) (.int .i64)))))], cods := [(false, .bool)], pre := fun _ => True, fn := f4, uq := false, total := true }
def f4_E : Env := [(5, f5_e), (6, f6_e), (8, f8_e), (11, f11_e), (17, f17_e), (18, f18_e), (19, f19_e), (20, f20_e), (21, f21_e), (22, f22_e), (23, f23_e), (24, f24_e), (25, f25_e), (26, f26_e), (27, f27_e), (28, f28_e), (53, f53_e)]
def f4_A : Anns := { loops := [(1572921, { tms := [(1, .keep), (3, .keep), (5, .keep), (7, .keep), (8, .keep), (9, .keep), (10, .keep), (11, .keep)], obs := [(1048576, .keep), (1048577, .keep)], fz := [] }),
  (1572953, { tms := [(1, .keep), (3, .keep), (9, .keep), (10, .keep), (11, .keep)], obs := [(1048576, .keep)], fz := [] })], own := [] }
theorem f4_run (a0 : (List (List Int) × List (List Int)) × List (ByteArray × Int × Int × Int × Int) × List Int) (a1 : List (Int × Int)) (a2 : Int × Int × Int × Int) (K : Bool → Prop) : runF Tryz.prog f4_E f4_A 6 Tryz.f4 f4_e.doms f4_e.cods (a0, a1, a2) K =
    (br (!(f5 ()))
    (K false)
    (br (!(f6 a0))
    (K true)
    (br (lenOk (a1.length))
    (br (decide (((a1.length) : Int) > 8))
    (K true)
    (f8_pre a0 ∧
    f18_pre a1 ∧
    f17_pre ((((f8 a0).1), ((f8 a0).2)), ((f18 a1), a2.1)) ∧
    f8_pre a0 ∧
    f18_pre a1 ∧
    f19_pre ((((f8 a0).1), ((f8 a0).2)), (f18 a1)) ∧
    f8_pre a0 ∧
    f20_pre ((((f8 a0).1), ((f8 a0).2)), a2.2) ∧
    br ((f11 a0) != 0)
    (br ((f17 ((((f8 a0).1), ((f8 a0).2)), ((f18 a1), a2.1))).2 == (f11 a0))
    (br (lenOk (((f17 ((((f8 a0).1), ((f8 a0).2)), ((f18 a1), a2.1))).1).length))
    (br (((((f17 ((((f8 a0).1), ((f8 a0).2)), ((f18 a1), a2.1))).1).length) : Int) == 0)
    (br (((f19 ((((f8 a0).1), ((f8 a0).2)), (f18 a1))).2).2 == (f11 a0))
    (br (lenOk (((f19 ((((f8 a0).1), ((f8 a0).2)), (f18 a1))).1).length))
    (br (((((f19 ((((f8 a0).1), ((f8 a0).2)), (f18 a1))).1).length) : Int) == 0)
    (br (((f19 ((((f8 a0).1), ((f8 a0).2)), (f18 a1))).2).1 == 0)
    (br ((f20 ((((f8 a0).1), ((f8 a0).2)), a2.2)).2 == (f11 a0))
    (K (f21 (((((f20 ((((f8 a0).1), ((f8 a0).2)), a2.2)).1).1), (((f20 ((((f8 a0).1), ((f8 a0).2)), a2.2)).1).2)), ((([] : List (List Int)), ([] : List (List Int))), (([] : List (ByteArray × Int × Int × Int × Int)), ([] : List Int))))))
    (K false))
    (K false))
    (K false))
    True)
    (K false))
    (K false))
    True)
    (K false))
    (JoinQ (V := Unit) (fun J => (fun (join1 : Prop) =>
    f22_pre (a0, a2.2) ∧
    br ((f22 (a0, a2.2)) != 0)
    (br ((f20 ((((f8 a0).1), ((f8 a0).2)), a2.2)).2 != (f22 (a0, a2.2)))
    (K false)
    (br (!(f21 (((((f20 ((((f8 a0).1), ((f8 a0).2)), a2.2)).1).1), (((f20 ((((f8 a0).1), ((f8 a0).2)), a2.2)).1).2)), ((([] : List (List Int)), ([] : List (List Int))), (([] : List (ByteArray × Int × Int × Int × Int)), ([] : List Int))))))
    (K false)
    (br ((f22 (a0, a2.2)) == 0)
    (br ((f20 ((((f8 a0).1), ((f8 a0).2)), a2.2)).2 != 0)
    (K false)
    (f23_pre (a0, a2.2) ∧
    br (!(f21 (((((f20 ((((f8 a0).1), ((f8 a0).2)), a2.2)).1).1), (((f20 ((((f8 a0).1), ((f8 a0).2)), a2.2)).1).2)), (((f23 (a0, a2.2)).1), ((f23 (a0, a2.2)).2)))))
    (K false)
    (join1)))
    (join1))))
    (br ((f22 (a0, a2.2)) == 0)
    (br ((f20 ((((f8 a0).1), ((f8 a0).2)), a2.2)).2 != 0)
    (K false)
    (f23_pre (a0, a2.2) ∧
    br (!(f21 (((((f20 ((((f8 a0).1), ((f8 a0).2)), a2.2)).1).1), (((f20 ((((f8 a0).1), ((f8 a0).2)), a2.2)).1).2)), (((f23 (a0, a2.2)).1), ((f23 (a0, a2.2)).2)))))
    (K false)
    (join1)))
    (join1))) (J ())) (fun v =>
    f24_pre (a0, a1) ∧
    br ((f24 (a0, a1)) != 0)
    (br ((f17 ((((f8 a0).1), ((f8 a0).2)), ((f18 a1), a2.1))).2 == (f24 (a0, a1)))
    (br (lenOk (((f17 ((((f8 a0).1), ((f8 a0).2)), ((f18 a1), a2.1))).1).length))
    (br (((((f17 ((((f8 a0).1), ((f8 a0).2)), ((f18 a1), a2.1))).1).length) : Int) == 0)
    (br (((f19 ((((f8 a0).1), ((f8 a0).2)), (f18 a1))).2).2 == (f24 (a0, a1)))
    (br (lenOk (((f19 ((((f8 a0).1), ((f8 a0).2)), (f18 a1))).1).length))
    (br (((((f19 ((((f8 a0).1), ((f8 a0).2)), (f18 a1))).1).length) : Int) == 0)
    (K (((f19 ((((f8 a0).1), ((f8 a0).2)), (f18 a1))).2).1 == 0))
    (K false))
    True)
    (K false))
    (K false))
    True)
    (K false))
    (JoinQ (V := Unit) (fun J => (fun (join2 : Prop) =>
    br (!(f25 (a2.1, (0, 100000))))
    (br ((f17 ((((f8 a0).1), ((f8 a0).2)), ((f18 a1), a2.1))).2 != 2)
    (K false)
    (br (lenOk (((f17 ((((f8 a0).1), ((f8 a0).2)), ((f18 a1), a2.1))).1).length))
    (br (((((f17 ((((f8 a0).1), ((f8 a0).2)), ((f18 a1), a2.1))).1).length) : Int) != 0)
    (K false)
    (join2))
    True))
    (br ((f17 ((((f8 a0).1), ((f8 a0).2)), ((f18 a1), a2.1))).2 != 0)
    (K false)
    (f27_pre (a1, a2.1) ∧
    br (!(f26 ((f17 ((((f8 a0).1), ((f8 a0).2)), ((f18 a1), a2.1))).1, (f27 (a1, a2.1)))))
    (K false)
    (join2)))) (J ())) (fun v =>
    f28_pre (a0, a1) ∧
    br (!((f28 (a0, a1)).2).2)
    (br (((f19 ((((f8 a0).1), ((f8 a0).2)), (f18 a1))).2).2 == 12)
    (br (lenOk (((f19 ((((f8 a0).1), ((f8 a0).2)), (f18 a1))).1).length))
    (br (((((f19 ((((f8 a0).1), ((f8 a0).2)), (f18 a1))).1).length) : Int) == 0)
    (K (((f19 ((((f8 a0).1), ((f8 a0).2)), (f18 a1))).2).1 == 0))
    (K false))
    True)
    (K false))
    (br (((f19 ((((f8 a0).1), ((f8 a0).2)), (f18 a1))).2).2 == 0)
    (br (f26 ((f19 ((((f8 a0).1), ((f8 a0).2)), (f18 a1))).1, (f28 (a0, a1)).1))
    (K (((f19 ((((f8 a0).1), ((f8 a0).2)), (f18 a1))).2).1 == ((f28 (a0, a1)).2).1))
    (K false))
    (K false))))))))
    True))) := by kernel_rfl
theorem f4_t (a0 : (List (List Int) × List (List Int)) × List (ByteArray × Int × Int × Int × Int) × List Int) (a1 : List (Int × Int)) (a2 : Int × Int × Int × Int) (K : Bool → Prop) (hK : ∀ y : Bool, y = f4 (a0, a1, a2) → K y) : RunF Tryz.prog f4_E f4_A 6 Tryz.f4 f4_e.doms f4_e.cods (a0, a1, a2) K := by
  refine ⟨?_⟩
  rw [f4_run a0 a1 a2 K]
  have hT : K true := hK _ rfl
  rw [show (!(f5 ())) = false from rfl, br_f, br_both]
  refine ⟨fun _ => hT, fun hs => ?_⟩
  obtain ⟨m1, m2, m3⟩ := small_pre (not_false_.1 hs)
  rw [br_true_]
  intro _
  rw [br_dec]
  refine ⟨fun _ => hT, fun h8 => ?_⟩
  have hl : a1.length ≤ 1000 := by omega
  have e11 : f11 a0 = (probOf a0).2 := rfl
  have e17 : f17 (((f8 a0).1, (f8 a0).2), (f18 a1, a2.1)) = if fixErr a0 a1 a2.1 ≠ 0 then ([], fixErr a0 a1 a2.1) else (fixF a1 a2.1, 0) := rfl
  have e19 : f19 (((f8 a0).1, (f8 a0).2), f18 a1) = replF a0 a1 := rfl
  have e20 : f20 (((f8 a0).1, (f8 a0).2), a2.2) = if (probOf a0).2 ≠ 0 then (noProb, (probOf a0).2) else if aroundE a0 a2.2 ≠ 0 then (noProb, aroundE a0 a2.2) else (aroundF a0 a2.2, 0) := rfl
  refine ⟨m1, hl, ⟨m3, hl⟩, m1, hl, ⟨m3, show a1.length ≤ 900 by omega⟩, m1, ⟨m3, m2, m1.1.1, m1.1.2, m1.2.2⟩, ?_⟩
  rw [e17, e19, e20, e11]
  have h9 : f21 ((noProb.1, noProb.2), ((([] : List (List Int)), ([] : List (List Int))), (([] : List (ByteArray × Int × Int × Int × Int)), ([] : List Int)))) = true := f21_self noProb
  by_cases hp : (probOf a0).2 ≠ 0
  · have hpl : planE a0 a1 = (probOf a0).2 := if_neg hp
    have hfe : fixErr a0 a1 a2.1 = (probOf a0).2 := by rw [fixErr, if_pos (by rw [hpl]; exact hp), hpl]
    have hrp : replF a0 a1 = ([], 0, (probOf a0).2) := by rw [replF, if_pos (by rw [hpl]; exact hp), hpl]
    rw [hfe, hrp]
    simp only [if_pos hp]
    rw [show ((probOf a0).2 != 0) = true from by simpa using hp]
    simp only [br_t, beq_self_eq_true, List.length_nil, h9]
    rw [br_true_]
    intro _
    exact hT
  have hok : okP a0 := Classical.byContradiction hp
  have hpl := planE_ok hok a1
  rw [show ((probOf a0).2 != 0) = false from by simpa using hp, br_f]
  simp only [if_neg hp]
  have hcut : ∀ (l : List (Int × Int)) (e : Int) (X Y : Prop), l = [] → X → br (lenOk l.length) (br ((l.length : Int) == 0) X Y) True := fun l e X Y h hX => by
    subst h
    rw [br_true_]
    intro _
    exact hX
  have tail : chTail K (f24_pre (a0, a1)) (f27_pre (a1, a2.1)) (f28_pre (a0, a1)) (if fixErr a0 a1 a2.1 ≠ 0 then ([], fixErr a0 a1 a2.1) else (fixF a1 a2.1, 0)) (replF a0 a1) (f24 (a0, a1)) (f25 (a2.1, (0, 100000))) (f28 (a0, a1))
      (f26 ((replF a0 a1).1, (f28 (a0, a1)).1)) (f26 ((if fixErr a0 a1 a2.1 ≠ 0 then (([] : List (Int × Int)), fixErr a0 a1 a2.1) else (fixF a1 a2.1, 0)).1, f27 (a1, a2.1))) := by
    refine ⟨hok, ?_⟩
    have e24 : f24 (a0, a1) = slotsErr a0 a1 := rfl
    rw [e24]
    by_cases hs : slotsErr a0 a1 ≠ 0
    · have hfe : fixErr a0 a1 a2.1 = slotsErr a0 a1 := by rw [fixErr, if_pos (by rw [hpl]; exact hs), hpl]
      have hrp : replF a0 a1 = ([], 0, slotsErr a0 a1) := by rw [replF, if_pos (by rw [hpl]; exact hs), hpl]
      rw [hfe, hrp]
      simp only [if_pos hs]
      rw [show (slotsErr a0 a1 != 0) = true from by simpa using hs]
      simp only [br_t, beq_self_eq_true, List.length_nil]
      rw [br_true_]
      intro _
      exact hT
    have h0 : slotsErr a0 a1 = 0 := Classical.byContradiction hs
    have h0' : planE a0 a1 = 0 := hpl.trans h0
    have hF : FixV a0 a1 := ⟨hok, slotsErr_valid hok h0, show a1.length ≤ 900 by omega⟩
    have e28 : f28 (a0, a1) = bestF a0 a1 := rfl
    have e26 : ∀ l : List (Int × Int), f26 (l, l) = true := fun l => by simp [f26]
    have rest : chRest K (f28_pre (a0, a1)) (replF a0 a1) (f28 (a0, a1)) (f26 ((replF a0 a1).1, (f28 (a0, a1)).1)) := by
      refine ⟨hF, ?_⟩
      have hrp : replF a0 a1 = ((bestF a0 a1).1, (bestF a0 a1).2.1, if (bestF a0 a1).2.2 = true then 0 else 12) := by rw [replF, if_neg (fun hh => hh h0')]
      rw [hrp, e28]
      cases hb : (bestF a0 a1).2.2 with
      | false =>
        obtain ⟨hn, _⟩ := best_none hb
        rw [hn]
        simp only [Bool.not_false, br_t, if_neg (show ¬ (false = true) by decide), beq_self_eq_true, List.length_nil]
        rw [br_true_]
        intro _
        exact hT
      | true =>
        simp only [Bool.not_true, br_f, if_pos, beq_self_eq_true, br_t, e26]
        exact hT
    rw [h0, bne_self_eq_false, br_f]
    refine ⟨?_⟩
    dsimp only
    by_cases hw : 0 ≤ a2.1 ∧ a2.1 ≤ 100000
    · have hfe : fixErr a0 a1 a2.1 = 0 := by rw [fixErr, if_neg (fun hh => hh h0'), if_pos hw]
      have h25 : f25 (a2.1, (0, 100000)) = true := f25_t1.2 hw
      have e27 : f27 (a1, a2.1) = fixF a1 a2.1 := rfl
      have hz : ∀ z y : List (Int × Int) × Int, (if (0 : Int) ≠ 0 then z else y) = y := fun z y => rfl
      rw [hfe, h25, e27]
      simp only [hz, Bool.not_true, br_f, bne_self_eq_false, e26]
      exact ⟨hl, rest⟩
    · have hfe : fixErr a0 a1 a2.1 = 2 := by rw [fixErr, if_neg (fun hh => hh h0'), if_neg hw]
      have h25 : f25 (a2.1, (0, 100000)) = false := f25_f1.2 hw
      have hz : ∀ z y : List (Int × Int) × Int, (if (2 : Int) ≠ 0 then z else y) = z := fun z y => rfl
      rw [hfe, h25]
      simp only [hz, Bool.not_false, br_t, bne_self_eq_false, br_f, List.length_nil]
      rw [br_true_]
      intro _
      exact rest
  have e22 : f22 (a0, a2.2) = aroundE a0 a2.2 := rfl
  refine ⟨?_⟩
  dsimp only
  refine ⟨hok, ?_⟩
  rw [e22]
  by_cases ha : aroundE a0 a2.2 ≠ 0
  · have ha2 : (aroundE a0 a2.2 != 0) = true := by simpa using ha
    have ha3 : (aroundE a0 a2.2 == 0) = false := by simpa using ha
    simp only [if_pos ha, ha2, ha3, br_t, br_f, bne_self_eq_false, h9, Bool.not_true]
    exact tail
  · have ha0 : aroundE a0 a2.2 = 0 := Classical.byContradiction ha
    have hz : ∀ z y : Prob × Int, (if (0 : Int) ≠ 0 then z else y) = y := fun z y => rfl
    have e23 : f23 (a0, a2.2) = aroundF a0 a2.2 := rfl
    have h12 : f21 (((aroundF a0 a2.2).1, (aroundF a0 a2.2).2), ((aroundF a0 a2.2).1, (aroundF a0 a2.2).2)) = true := f21_self _
    simp only [ha0, hz, bne_self_eq_false, br_f, beq_self_eq_true, br_t, e23, h12, Bool.not_true]
    exact ⟨⟨hok, ⟨m1.1, m1.2.1, m1.2.2⟩, ha0⟩, tail⟩
theorem f4_fn : f4_e.fn = f4 := rfl
theorem f4_ok : EntryOK Tryz.prog 4 f4_e := by
  refine entryF progOK (EnvOK.cons f5_ok (EnvOK.cons f6_ok (EnvOK.cons f8_ok (EnvOK.cons f11_ok (EnvOK.cons f17_ok (EnvOK.cons f18_ok (EnvOK.cons f19_ok (EnvOK.cons f20_ok (EnvOK.cons f21_ok (EnvOK.cons f22_ok (EnvOK.cons f23_ok (EnvOK.cons f24_ok (EnvOK.cons f25_ok (EnvOK.cons f26_ok (EnvOK.cons f27_ok (EnvOK.cons f28_ok (EnvOK.cons f53_ok (EnvOK.nil)))))))))))))))))) (A := f4_A) (d := 6) Tryz.func4 rfl rfl rfl rfl (fun _ _ => trivial) fun x hpre => ?_
  obtain ⟨a0, a1, a2⟩ := x
  exact f4_t a0 a1 a2 _ fun _ h => h.trans (congrFun f4_fn.symm _)
end Go.Proofs.YtglokajinehbmaaGreat
end
