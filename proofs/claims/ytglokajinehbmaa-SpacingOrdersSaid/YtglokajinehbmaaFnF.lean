/- What functions of the program compute, each proved once, part 6. -/
import Derived.Test.YtglokajinehbmaaPiD
import Derived.Test.YtglokajinehbmaaFnA
import Derived.Test.YtglokajinehbmaaFnB
import Derived.Test.YtglokajinehbmaaFnE
import Derived.Test.YtglokajinehbmaaFnC
import Derived.Test.YtglokajinehbmaaFnD

section
namespace Go.Proofs.Ytglokajinehbmaa
open Go Go.Pi Go.RowKit
set_option maxRecDepth 100000
set_option linter.unusedVariables false
set_option linter.unusedSimpArgs false

def f41 (x : ((List (List Int) × List (List Int)) × List (ByteArray × Int × Int × Int × Int) × List Int) × List Int) : Int × Int := if (f91 x).2.2 ≠ 0 then (0, (f91 x).2.2) else (costF x.1 (f91 x).2.1, 0)
def f41_pre (x : ((List (List Int) × List (List Int)) × List (ByteArray × Int × Int × Int × Int) × List Int) × List Int) : Prop := f91_pre x
def f41_e : Entry := { doms := [(true, (.pair (.pair (.sl (.sl (.int .i64))) (.sl (.sl (.int .i64)))) (.pair (.sl (.pair .str (.pair (.int .i64) (.pair (.int .i64) (.pair (.int .i64) (.int .i64)))))) (.sl (.int .i64))))), (false, (.sl (.int .i64)))], cods := [(false, (.int .i64)), (false, (.int .i64))], pre := f41_pre, fn := f41, uq := false, total := false }
def f41_E : Env := [(90, f90_e), (91, f91_e), (40, f40_e)]
def f41_A : Anns := { loops := [], own := [] }
theorem f41_run (a0 : (List (List Int) × List (List Int)) × List (ByteArray × Int × Int × Int × Int) × List Int) (a1 : List Int) (K : (Int × Int) → Prop) : runF Try.prog f41_E f41_A 6 Try.f41 f41_e.doms f41_e.cods (a0, a1) K =
    (f91_pre (a0, a1) ∧
    br (((f91 (a0, a1)).2).2 != 0)
    (K (0, ((f91 (a0, a1)).2).2))
    (f90_pre (((((f91 (a0, a1)).1).1), (((f91 (a0, a1)).1).2)), ((f91 (a0, a1)).2).1) ∧
    K ((f90 (((((f91 (a0, a1)).1).1), (((f91 (a0, a1)).1).2)), ((f91 (a0, a1)).2).1)), 0))) := by kernel_rfl
theorem f41_t (a0 : (List (List Int) × List (List Int)) × List (ByteArray × Int × Int × Int × Int) × List Int) (a1 : List Int) (hpre : f41_pre (a0, a1)) (K : (Int × Int) → Prop) (hK : ∀ y : Int × Int, y = f41 (a0, a1) → K y) : RunF Try.prog f41_E f41_A 6 Try.f41 f41_e.doms f41_e.cods (a0, a1) K := by
  refine ⟨?_⟩
  rw [f41_run a0 a1 K]
  refine ⟨hpre, ?_⟩
  rw [br_both]
  refine ⟨fun h => hK _ ?_, fun h => ?_⟩
  · rw [f41, if_pos (by simpa using h)]
  have h0 : (f91 (a0, a1)).2.2 = 0 := by simpa using h
  obtain ⟨hok, hin, he, _⟩ := f91_ok2 h0
  obtain ⟨h1, h2⟩ := contF_ok hok.v (out := []) (fun s hs => (by cases hs)) hin
  have hl1 : a1.length ≤ 1000 := hpre.2
  have e41 : f41 (a0, a1) = (costF a0 (contF a0 [] a1).1, 0) := by rw [f41, if_neg (by simp [h0]), he]
  rw [he]
  refine ⟨⟨hok, h1, by simp only [List.length_nil] at h2; show (contF a0 [] a1).1.length ≤ 1000; omega⟩, hK _ e41.symm⟩
theorem f41_fn : f41_e.fn = f41 := rfl
theorem f41_ok : EntryOK Try.prog 41 f41_e := by
  refine entryF progOK (EnvOK.cons f90_ok (EnvOK.cons f91_ok (EnvOK.cons f40_ok (EnvOK.nil)))) (A := f41_A) (d := 6) Try.func41 rfl rfl rfl (fun h => by cases h) fun x hpre => ?_
  obtain ⟨a0, a1⟩ := x
  exact f41_t a0 a1 hpre _ fun _ h => h.trans (congrFun f41_fn.symm _)
end Go.Proofs.Ytglokajinehbmaa
end

section
namespace Go.Proofs.Ytglokajinehbmaa
open Go Go.Pi Go.RowKit
set_option maxRecDepth 100000
set_option linter.unusedVariables false
set_option linter.unusedSimpArgs false

def f44 (x : List Int × List Int) : Bool := decide (x.1 = x.2)
def f44_e : Entry := { doms := [(false, (.sl (.int .i64))), (false, (.sl (.int .i64)))], cods := [(false, .bool)], pre := fun _ => True, fn := f44, uq := false, total := true }
def f44_E : Env := []
def f44_A : Anns := { loops := [(1048576, { tms := [(0, .keep), (1, .keep), (5, .data false (.int .i64))], obs := [], fz := [] })], own := [] }
theorem f44_run (a0 : List Int) (a1 : List Int) (K : Bool → Prop) : runF Try.prog f44_E f44_A 6 Try.f44 f44_e.doms f44_e.cods (a0, a1) K =
    (br (lenOk (a0.length))
    (br (lenOk (a1.length))
    (br (((a0.length) : Int) != ((a1.length) : Int))
    (K false)
    (LoopP (V := Int × Unit) (fun again v => (fun (again1 : Int → Prop) (v1_0 : Int) =>
    br (lenOk (a0.length))
    (br (decide (v1_0 < ((a0.length) : Int)))
    (br (decide (0 ≤ v1_0) && decide (v1_0 < ((a0.length) : Int)))
    (br (decide (0 ≤ v1_0) && decide (v1_0 < ((a1.length) : Int)))
    (br ((a0.getD v1_0.toNat 0) != (a1.getD v1_0.toNat 0))
    (K false)
    (again1 (IntKind.i64.wrap (v1_0 + 1))))
    False)
    False)
    (K true))
    True)
    (fun v1_0 => again (v1_0, ())) v.1) (0, ())))
    True)
    True) := by kernel_rfl
theorem f44_t (a0 : List Int) (a1 : List Int) (K : Bool → Prop) (hK : ∀ y : Bool, y = f44 (a0, a1) → K y) : RunF Try.prog f44_E f44_A 6 Try.f44 f44_e.doms f44_e.cods (a0, a1) K := by
  refine ⟨?_⟩
  rw [f44_run a0 a1 K]
  rw [br_true_, lenOk_iff]
  intro hl
  rw [br_true_]
  intro _
  rw [br_both]
  refine ⟨fun hne => hK _ ?_, fun he => ?_⟩
  · have : a0 ≠ a1 := fun e => by simp [e] at hne
    simp [f44, this]
  have he : a0.length = a1.length := by
    simp only [bne_eq_false_iff_eq] at he
    omega
  refine LoopP.up a0.length (fun i _ => a0.take i.toNat = a1.take i.toNat) (fun again i v hi0 hn hI hag => ?_) (by omega) (by simp)
  dsimp only
  rw [br_true_]
  intro _
  rw [br_both]
  refine ⟨fun hi => ?_, fun hi => hK _ ?_⟩
  · simp only [decide_eq_true_eq] at hi
    simp only [br_false_, Bool.and_eq_true, decide_eq_true_eq]
    refine ⟨⟨hi0, hi⟩, ⟨hi0, by omega⟩, ?_⟩
    rw [br_both]
    refine ⟨fun hne => hK _ ?_, fun heq => ?_⟩
    · have : a0 ≠ a1 := fun e => by simp [e] at hne
      simp [f44, this]
    · rw [wr (by omega) (by omega)]
      refine hag () hi ?_
      have h1 : i.toNat < a0.length := by omega
      have h2 : i.toNat < a1.length := by omega
      rw [getD_lt h1, getD_lt h2] at heq
      have h3 : a0[i.toNat] = a1[i.toNat] := by simpa using heq
      rw [show (i + 1).toNat = i.toNat + 1 by omega, List.take_add_one, List.take_add_one, hI, List.getElem?_eq_getElem h1, List.getElem?_eq_getElem h2, h3]
  · simp only [decide_eq_false_iff_not] at hi
    rw [List.take_of_length_le (by omega), List.take_of_length_le (by omega)] at hI
    simp [f44, hI]
theorem f44_fn : f44_e.fn = f44 := rfl
theorem f44_ok : EntryOK Try.prog 44 f44_e := by
  refine entryF progOK (EnvOK.nil) (A := f44_A) (d := 6) Try.func44 rfl rfl rfl (fun _ _ => trivial) fun x hpre => ?_
  obtain ⟨a0, a1⟩ := x
  exact f44_t a0 a1 _ fun _ h => h.trans (congrFun f44_fn.symm _)
end Go.Proofs.Ytglokajinehbmaa
end

section
namespace Go.Proofs.Ytglokajinehbmaa
open Go Go.Pi Go.RowKit
set_option maxRecDepth 100000
set_option linter.unusedVariables false
set_option linter.unusedSimpArgs false

def f46 (x : ((List (List Int) × List (List Int)) × List (ByteArray × Int × Int × Int × Int) × List Int) × List (Int × Int)) : Int := costF x.1 x.2
def f46_pre (x : ((List (List Int) × List (List Int)) × List (ByteArray × Int × Int × Int × Int) × List Int) × List (Int × Int)) : Prop := okP x.1 ∧ (∀ s ∈ x.2, slotV x.1 s) ∧ x.2.length ≤ 1000
def f46_e : Entry := { doms := [(true, (.pair (.pair (.sl (.sl (.int .i64))) (.sl (.sl (.int .i64)))) (.pair (.sl (.pair .str (.pair (.int .i64) (.pair (.int .i64) (.pair (.int .i64) (.int .i64)))))) (.sl (.int .i64))))), (false, (.sl (.pair (.int .i64) (.int .i64))))], cods := [(false, (.int .i64))], pre := f46_pre, fn := f46, uq := false, total := false }
def f46_E : Env := [(90, f90_e)]
def f46_A : Anns := { loops := [(1048576, { tms := [(1, .keep), (2, .keep), (5, .data false (.int .i64)), (6, .data false (.int .i64))], obs := [(1048576, .keep)], fz := [] })], own := [] }
theorem f46_run (a0 : (List (List Int) × List (List Int)) × List (ByteArray × Int × Int × Int × Int) × List Int) (a1 : List (Int × Int)) (K : Int → Prop) : runF Try.prog f46_E f46_A 6 Try.f46 f46_e.doms f46_e.cods (a0, a1) K =
    (LoopP (V := Int × Int × Unit) (fun again v => (fun (again1 : Int → Int → Prop) (v1_0 : Int) (v1_1 : Int) =>
    br (lenOk (a1.length))
    (br (decide (v1_1 < ((a1.length) : Int)))
    (br (decide (0 ≤ v1_1) && decide (v1_1 < ((a1.length) : Int)))
    (br (decide (0 ≤ (a1.getD v1_1.toNat (0, 0)).1) && decide ((a1.getD v1_1.toNat (0, 0)).1 < ((a0.2.1.length) : Int)))
    (br (decide (0 ≤ v1_1) && decide (v1_1 < ((a1.length) : Int)))
    (again1 (IntKind.i64.wrap (v1_0 + (IntKind.i64.wrap (((((a0.2.1.getD (((a1.getD v1_1.toNat (0, 0)).1).toNat) ((⟨#[]⟩ : ByteArray), (0, (0, (0, 0))))).2).2).2).2 * (IntKind.i64.wrap ((a1.getD v1_1.toNat (0, 0)).2 - (((a0.2.1.getD (((a1.getD v1_1.toNat (0, 0)).1).toNat) ((⟨#[]⟩ : ByteArray), (0, (0, (0, 0))))).2).2).1)))))) (IntKind.i64.wrap (v1_1 + 1)))
    False)
    False)
    False)
    (K v1_0))
    True)
    (fun v1_0 v1_1 => again (v1_0, v1_1, ())) v.1 v.2.1) (0, 0, ())) := by kernel_rfl
theorem f46_t (a0 : (List (List Int) × List (List Int)) × List (ByteArray × Int × Int × Int × Int) × List Int) (a1 : List (Int × Int)) (hpre : f46_pre (a0, a1)) (K : Int → Prop) (hK : ∀ y : Int, y = f46 (a0, a1) → K y) : RunF Try.prog f46_E f46_A 6 Try.f46 f46_e.doms f46_e.cods (a0, a1) K := by
  refine ⟨?_⟩
  rw [f46_run a0 a1 K]
  obtain ⟨h, hs, h3⟩ := hpre
  simp only at h hs h3
  have hv := h.v
  have hd : ((⟨#[]⟩ : ByteArray), ((0 : Int), ((0 : Int), ((0 : Int), (0 : Int))))) = arrD := rfl
  simp only [hd]
  refine LoopP.of (fun q : Int × Int × Unit => ∃ i : Nat, i ≤ a1.length ∧ q.2.1 = (i : Int) ∧ q.1 = costF a0 (a1.take i)) (fun q => ((a1.length : Int) - q.2.1).toNat) (fun again q hq hag => ?_) ⟨0, by omega, rfl, rfl⟩
  obtain ⟨t, j, u⟩ := q
  obtain ⟨i, hi, e1, e2⟩ := hq
  simp only at e1 e2
  subst e1 e2
  dsimp only
  rw [br_true_, lenOk_iff]
  intro _
  rw [br_dec]
  refine ⟨fun hlt => ?_, fun hlt => hK _ ?_⟩
  · have hlt : i < a1.length := by omega
    have b0 : (decide (0 ≤ (i : Int)) && decide ((i : Int) < (a1.length : Int))) = true := inb (by omega) (by omega)
    rw [b0]
    simp only [Int.toNat_natCast, br_t]
    have hm := hs (a1.getD i (0, 0)) (by rw [getD_lt hlt]; exact List.getElem_mem _)
    have hc1 := cost1_in hv hm
    have hc := costF_in hv hs i hi
    have hst := costF_take a0 a1 hlt
    obtain ⟨⟨s1, s2⟩, s3, s4⟩ := hm
    obtain ⟨⟨_, b, _⟩, _⟩ := hv.arr (a1.getD i (0, 0)).1.toNat (by omega)
    have be := b.2.1
    rw [br_false_]
    refine ⟨inb s1 s2, ?_⟩
    generalize (a1.getD i (0, 0)) = s at *
    rw [wr (n := s.2 - (a0.2.1.getD s.1.toNat arrD).2.2.1) (by omega) (by omega)]
    rw [wr (n := (a0.2.1.getD s.1.toNat arrD).2.2.2.2 * (s.2 - (a0.2.1.getD s.1.toNat arrD).2.2.1)) (by omega) (by omega), wr (n := costF a0 (a1.take i) + _) (by omega) (by omega), wr (n := (i : Int) + 1) (by omega) (by omega)]
    exact hag (_, _, ()) ⟨i + 1, by omega, by simp only; omega, hst.symm⟩ (by simp only; omega)
  · rw [f46, List.take_of_length_le (by omega)]
theorem f46_fn : f46_e.fn = f46 := rfl
theorem f46_ok : EntryOK Try.prog 46 f46_e := by
  refine entryF progOK (EnvOK.cons f90_ok (EnvOK.nil)) (A := f46_A) (d := 6) Try.func46 rfl rfl rfl (fun h => by cases h) fun x hpre => ?_
  obtain ⟨a0, a1⟩ := x
  exact f46_t a0 a1 hpre _ fun _ h => h.trans (congrFun f46_fn.symm _)
end Go.Proofs.Ytglokajinehbmaa
end

section
namespace Go.Proofs.Ytglokajinehbmaa
open Go Go.Pi Go.RowKit
set_option maxRecDepth 100000
set_option linter.unusedVariables false
set_option linter.unusedSimpArgs false

def f7 (x : ((List (List Int) × List (List Int)) × List (ByteArray × Int × Int × Int × Int) × List Int) × List Int) : Bool := true
def f7_e : Entry := { doms := [(true, (.pair (.pair (.sl (.sl (.int .i64))) (.sl (.sl (.int .i64)))) (.pair (.sl (.pair .str (.pair (.int .i64) (.pair (.int .i64) (.pair (.int .i64) (.int .i64)))))) (.sl (.int .i64))))), (false, (.sl (.int .i64)))], cods := [(false, .bool)], pre := fun _ => True, fn := f7, uq := false, total := true }
def f7_E : Env := [(13, f13_e), (20, f20_e), (21, f21_e), (25, f25_e), (27, f27_e), (40, f40_e), (41, f41_e), (42, f42_e), (43, f43_e), (44, f44_e), (45, f45_e), (46, f46_e)]
def f7_A : Anns := { loops := [], own := [] }
theorem f7_run (a0 : (List (List Int) × List (List Int)) × List (ByteArray × Int × Int × Int × Int) × List Int) (a1 : List Int) (K : Bool → Prop) : runF Try.prog f7_E f7_A 6 Try.f7 f7_e.doms f7_e.cods (a0, a1) K =
    (br (!(f13 ()))
    (K false)
    (br (!(f21 a0))
    (K true)
    (br (lenOk (a1.length))
    (br (decide (((a1.length) : Int) > 8))
    (K true)
    (f25_pre a0 ∧
    f20_pre a1 ∧
    f40_pre ((((f25 a0).1), ((f25 a0).2)), (f20 a1)) ∧
    f25_pre a0 ∧
    f20_pre a1 ∧
    f41_pre ((((f25 a0).1), ((f25 a0).2)), (f20 a1)) ∧
    br ((f27 a0).2 == 0)
    (f42_pre (a0, a1) ∧
    br ((f42 (a0, a1)) != 0)
    (br ((f40 ((((f25 a0).1), ((f25 a0).2)), (f20 a1))).2 == (f42 (a0, a1)))
    (br (lenOk (((f40 ((((f25 a0).1), ((f25 a0).2)), (f20 a1))).1).length))
    (br (((((f40 ((((f25 a0).1), ((f25 a0).2)), (f20 a1))).1).length) : Int) == 0)
    (br ((f41 ((((f25 a0).1), ((f25 a0).2)), (f20 a1))).2 == (f42 (a0, a1)))
    (K ((f41 ((((f25 a0).1), ((f25 a0).2)), (f20 a1))).1 == 0))
    (K false))
    (K false))
    True)
    (K false))
    (f43_pre (a0, (([] : List (Int × Int)), a1)) ∧
    br ((f40 ((((f25 a0).1), ((f25 a0).2)), (f20 a1))).2 == 0)
    (f45_pre ((f43 (a0, (([] : List (Int × Int)), a1))).1) ∧
    br (f44 ((f40 ((((f25 a0).1), ((f25 a0).2)), (f20 a1))).1, (f45 ((f43 (a0, (([] : List (Int × Int)), a1))).1))))
    (br ((f41 ((((f25 a0).1), ((f25 a0).2)), (f20 a1))).2 == 0)
    (f46_pre (a0, (f43 (a0, (([] : List (Int × Int)), a1))).1) ∧
    K ((f41 ((((f25 a0).1), ((f25 a0).2)), (f20 a1))).1 == (f46 (a0, (f43 (a0, (([] : List (Int × Int)), a1))).1))))
    (K false))
    (K false))
    (K false)))
    (br ((f27 a0).2 != 0)
    (br ((f40 ((((f25 a0).1), ((f25 a0).2)), (f20 a1))).2 == (f27 a0).2)
    (br (lenOk (((f40 ((((f25 a0).1), ((f25 a0).2)), (f20 a1))).1).length))
    (br (((((f40 ((((f25 a0).1), ((f25 a0).2)), (f20 a1))).1).length) : Int) == 0)
    (br ((f41 ((((f25 a0).1), ((f25 a0).2)), (f20 a1))).2 == (f27 a0).2)
    (K ((f41 ((((f25 a0).1), ((f25 a0).2)), (f20 a1))).1 == 0))
    (K false))
    (K false))
    True)
    (K false))
    (f43_pre (a0, (([] : List (Int × Int)), a1)) ∧
    br ((f40 ((((f25 a0).1), ((f25 a0).2)), (f20 a1))).2 == 0)
    (f45_pre ((f43 (a0, (([] : List (Int × Int)), a1))).1) ∧
    br (f44 ((f40 ((((f25 a0).1), ((f25 a0).2)), (f20 a1))).1, (f45 ((f43 (a0, (([] : List (Int × Int)), a1))).1))))
    (br ((f41 ((((f25 a0).1), ((f25 a0).2)), (f20 a1))).2 == 0)
    (f46_pre (a0, (f43 (a0, (([] : List (Int × Int)), a1))).1) ∧
    K ((f41 ((((f25 a0).1), ((f25 a0).2)), (f20 a1))).1 == (f46 (a0, (f43 (a0, (([] : List (Int × Int)), a1))).1))))
    (K false))
    (K false))
    (K false)))))
    True))) := by kernel_rfl
theorem f7_t (a0 : (List (List Int) × List (List Int)) × List (ByteArray × Int × Int × Int × Int) × List Int) (a1 : List Int) (K : Bool → Prop) (hK : ∀ y : Bool, y = f7 (a0, a1) → K y) : RunF Try.prog f7_E f7_A 6 Try.f7 f7_e.doms f7_e.cods (a0, a1) K := by
  refine ⟨?_⟩
  rw [f7_run a0 a1 K]
  have hT : K true := hK _ rfl
  rw [show (!(f13 ())) = false from rfl, br_f, br_both]
  refine ⟨fun _ => hT, fun hs => ?_⟩
  obtain ⟨m1, m2, m3⟩ := small_pre (not_false_.1 hs)
  rw [br_true_, lenOk_iff]
  intro _
  rw [br_dec]
  refine ⟨fun _ => hT, fun h8 => ?_⟩
  have h8 : a1.length ≤ 8 := by omega
  have p20 : f20_pre a1 := by show a1.length ≤ 1048576; omega
  have p91 : f91_pre (a0, a1) := ⟨m3, by simp only; omega⟩
  have e40 : f40 (((f25 a0).1, (f25 a0).2), f20 a1) = f40 (a0, a1) := rfl
  have e41 : f41 (((f25 a0).1, (f25 a0).2), f20 a1) = f41 (a0, a1) := rfl
  have e27 : f27 a0 = probOf a0 := rfl
  simp only [e40, e41, e27]
  refine ⟨m1, p20, p91, m1, p20, p91, ?_⟩
  have bad : ∀ e : Int, (f91 (a0, a1)).2.2 = e → e ≠ 0 → f40 (a0, a1) = ([], e) ∧ f41 (a0, a1) = (0, e) := fun e h hn => by
    rw [f40, f41, h, if_pos hn, if_pos hn]
    exact ⟨rfl, rfl⟩
  have err : ∀ e : Int, (f91 (a0, a1)).2.2 = e → e ≠ 0 → br ((f40 (a0, a1)).2 == e) (br (lenOk (f40 (a0, a1)).1.length) (br (((f40 (a0, a1)).1.length : Int) == 0) (br ((f41 (a0, a1)).2 == e) (K ((f41 (a0, a1)).1 == 0)) (K false)) (K false)) True) (K false) := fun e h hn => by
    obtain ⟨b1, b2⟩ := bad e h hn
    simp only [b1, b2, beq_self_eq_true, br_t]
    exact hT
  have good : (f91 (a0, a1)).2.2 = 0 → (f43_pre (a0, [], a1) ∧ br ((f40 (a0, a1)).2 == 0) (f45_pre (f43 (a0, [], a1)).1 ∧ br (f44 ((f40 (a0, a1)).1, f45 (f43 (a0, [], a1)).1)) (br ((f41 (a0, a1)).2 == 0) (f46_pre (a0, (f43 (a0, [], a1)).1) ∧ K ((f41 (a0, a1)).1 == f46 (a0, (f43 (a0, [], a1)).1))) (K false)) (K false)) (K false)) := fun h0 => by
    obtain ⟨hok, hin, he, _⟩ := f91_ok2 h0
    obtain ⟨h1, h2⟩ := contF_ok hok.v (out := []) (fun s hs => (by cases hs)) hin
    simp only [List.length_nil] at h2
    have e43 : f43 (a0, [], a1) = contF a0 [] a1 := rfl
    have c40 : f40 (a0, a1) = ((contF a0 [] a1).1.map (·.2), 0) := by rw [f40, if_neg (by simp [h0]), he]
    have c41 : f41 (a0, a1) = (costF a0 (contF a0 [] a1).1, 0) := by rw [f41, if_neg (by simp [h0]), he]
    refine ⟨⟨hok, ⟨fun s hs => (by cases hs), Nat.zero_le _⟩, hin, by simp only; omega⟩, ?_⟩
    have e44 : f44 ((contF a0 [] a1).1.map (·.2), f45 (contF a0 [] a1).1) = true := decide_eq_true rfl
    have e46 : f46 (a0, (contF a0 [] a1).1) = costF a0 (contF a0 [] a1).1 := rfl
    simp only [e43, c40, c41, e44, e46, beq_self_eq_true, br_t]
    exact ⟨show (contF a0 [] a1).1.length ≤ 2000 by omega, ⟨hok, h1, by simp only; omega⟩, hT⟩
  rw [br_both]
  refine ⟨fun hp => ?_, fun hp => ?_⟩
  · have hp : (probOf a0).2 = 0 := by simpa using hp
    refine ⟨⟨hp, by simp only; omega⟩, ?_⟩
    have e42 : f42 (a0, a1) = orderErr a0 a1 := rfl
    rw [e42]
    have e91 : (f91 (a0, a1)).2.2 = orderErr a0 a1 := by
      rw [f91, if_neg (fun hh => hh hp), orderErr]
      split <;> rfl
    rw [br_both]
    exact ⟨fun h => err _ e91 (by simpa using h), fun h => good (e91.trans (by simpa using h))⟩
  · have hp : (probOf a0).2 ≠ 0 := by simpa using hp
    have e91 : (f91 (a0, a1)).2.2 = (probOf a0).2 := by rw [f91, if_pos hp]
    rw [br_both]
    exact ⟨fun h => err _ e91 hp, fun h => absurd (by simpa using h) hp⟩
theorem f7_fn : f7_e.fn = f7 := rfl
theorem f7_ok : EntryOK Try.prog 7 f7_e := by
  refine entryF progOK (EnvOK.cons f13_ok (EnvOK.cons f20_ok (EnvOK.cons f21_ok (EnvOK.cons f25_ok (EnvOK.cons f27_ok (EnvOK.cons f40_ok (EnvOK.cons f41_ok (EnvOK.cons f42_ok (EnvOK.cons f43_ok (EnvOK.cons f44_ok (EnvOK.cons f45_ok (EnvOK.cons f46_ok (EnvOK.nil))))))))))))) (A := f7_A) (d := 6) Try.func7 rfl rfl rfl (fun _ _ => trivial) fun x hpre => ?_
  obtain ⟨a0, a1⟩ := x
  exact f7_t a0 a1 _ fun _ h => h.trans (congrFun f7_fn.symm _)
end Go.Proofs.Ytglokajinehbmaa
end
