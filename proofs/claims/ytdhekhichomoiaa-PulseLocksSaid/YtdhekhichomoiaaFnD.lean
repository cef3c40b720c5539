/- What functions of the program compute, each proved once, part 4. -/
import Derived.Test.YtdhekhichomoiaaPiC
import Derived.Test.YtdhekhichomoiaaFnA
import Derived.Test.YtdhekhichomoiaaFnC
import Derived.Test.YtdhekhichomoiaaFnB

section
namespace Go.Proofs.Ytdhekhichomoiaa
open Go Go.Pi Go.RowKit
set_option maxRecDepth 100000
set_option linter.unusedVariables false
set_option linter.unusedSimpArgs false

def f57 (x : List Int × List Int × Int) : Int := if mgE x.1 x.2.1 x.2.2 ≠ 0 then mgE x.1 x.2.1 x.2.2 else if lkd x.1 x.2.1 0 then 0 else 18
def f57_pre (x : List Int × List Int × Int) : Prop := True
theorem sum_zero {a b : List Int} (h : ∀ x ∈ a, -60 ≤ x ∧ x ≤ 60) : f23 (a, b, 0) = a := by
  apply List.ext_getElem (by simp [f23])
  intro i h1 h2
  have h3 := h a[i] (List.getElem_mem h2)
  simp only [f23, List.getElem_map, List.getElem_range, sumAt, getD_lt h2, Int.zero_mul, wrap_zero, Int.add_zero]
  exact wr (by omega) (by omega)
theorem lkd_zero {a b : List Int} (h : f17 a = 0) : lkd a b 0 = f92 a := by
  rw [lkd, sum_zero (pol_ok h).2.2]
  simp [h]
def f57_e : Entry := { doms := [(false, (.sl (.int .i64))), (false, (.sl (.int .i64))), (false, (.int .i64))], cods := [(false, (.int .i64))], pre := f57_pre, fn := f57, uq := false, total := false }
def f57_E : Env := [(17, f17_e), (18, f18_e), (56, f56_e), (22, f22_e)]
def f57_A : Anns := { loops := [], own := [] }
theorem f57_run (a0 : List Int) (a1 : List Int) (a2 : Int) (K : Int → Prop) : runF Try.prog f57_E f57_A 6 Try.f57 f57_e.doms f57_e.cods (a0, a1, a2) K =
    (br ((f17 a0) != 0)
    (K (f17 a0))
    (br ((f17 a1) != 0)
    (K (f17 a1))
    (br (lenOk (a0.length))
    (br (lenOk (a1.length))
    (br (((a0.length) : Int) != ((a1.length) : Int))
    (K 13)
    (br (!(f18 (a2, (0, 60))))
    (K 2)
    (f56_pre a0 ∧
    br (!(f56 a0))
    (K 18)
    (K 0))))
    True)
    True))) := by kernel_rfl
theorem f57_t (a0 : List Int) (a1 : List Int) (a2 : Int) (hpre : f57_pre (a0, a1, a2)) (K : Int → Prop) (hK : ∀ y : Int, y = f57 (a0, a1, a2) → K y) : RunF Try.prog f57_E f57_A 6 Try.f57 f57_e.doms f57_e.cods (a0, a1, a2) K := by
  refine ⟨?_⟩
  rw [f57_run a0 a1 a2 K]
  rw [br_both]
  refine ⟨fun h => hK _ ?_, fun h => ?_⟩
  · have h : f17 a0 ≠ 0 := by simpa using h
    simp [f57, mgE, f42, h]
  have ha : f17 a0 = 0 := by simpa using h
  rw [br_both]
  refine ⟨fun h => hK _ ?_, fun h => ?_⟩
  · have h : f17 a1 ≠ 0 := by simpa using h
    simp [f57, mgE, f42, ha, h]
  have hb : f17 a1 = 0 := by simpa using h
  rw [br_true_]
  intro _
  rw [br_true_]
  intro _
  rw [br_both]
  refine ⟨fun h => hK _ ?_, fun h => ?_⟩
  · have h : ((a0.length : Int) == (a1.length : Int)) = false := by simpa using h
    have e : mgE a0 a1 a2 = 13 := by
      unfold mgE
      rw [ha, hb]
      simp only [f94, h]
      rfl
    simp [f57, e]
  have hl : ((a0.length : Int) == (a1.length : Int)) = true := by simpa using h
  rw [br_both]
  refine ⟨fun h => hK _ ?_, fun h => ?_⟩
  · have h : f95 (a2, 0, 60) = false := (show f95 (a2, 0, 60) = f18 (a2, (0, 60)) from rfl).trans (by simpa only [Bool.not_eq_true'] using h)
    have e : mgE a0 a1 a2 = 2 := by
      unfold mgE
      rw [ha, hb]
      simp only [f94, hl, h]
      rfl
    simp [f57, e]
  have hm : f95 (a2, 0, 60) = true := (show f95 (a2, 0, 60) = f18 (a2, (0, 60)) from rfl).trans (by simpa only [Bool.not_eq_false'] using h)
  have e0 : mgE a0 a1 a2 = 0 := by
    unfold mgE
    rw [ha, hb]
    simp only [f94, hl, hm]
    rfl
  obtain ⟨h0, h4, _⟩ := pol_ok ha
  refine ⟨⟨h0, by omega⟩, ?_⟩
  have e1 : f57 (a0, a1, a2) = if f56 a0 then 0 else 18 := by
    unfold f57 f56
    rw [if_neg (fun hh => hh e0), lkd_zero ha]
  rw [br_both]
  refine ⟨fun h => hK _ ?_, fun h => hK _ ?_⟩
  · have h : f56 a0 = false := by simpa using h
    rw [e1, h]; rfl
  · have h : f56 a0 = true := by simpa using h
    rw [e1, h]; rfl
theorem f57_fn : f57_e.fn = f57 := rfl
theorem f57_ok : EntryOK Try.prog 57 f57_e := by
  refine entryF progOK (EnvOK.cons f17_ok (EnvOK.cons f18_ok (EnvOK.cons f56_ok (EnvOK.cons f22_ok (EnvOK.nil))))) (A := f57_A) (d := 6) Try.func57 rfl rfl (fun h => by cases h) fun x hpre => ?_
  obtain ⟨a0, a1, a2⟩ := x
  exact f57_t a0 a1 a2 hpre _ fun _ h => h.trans (congrFun f57_fn.symm _)
end Go.Proofs.Ytdhekhichomoiaa
end

section
namespace Go.Proofs.Ytdhekhichomoiaa
open Go Go.Pi Go.RowKit
set_option maxRecDepth 100000
set_option linter.unusedVariables false
set_option linter.unusedSimpArgs false

def f58 (x : List Int × List Int × Int) : Int := (mgOf x.1 x.2.1 x.2.2).1
def f58_pre (x : List Int × List Int × Int) : Prop := mgE x.1 x.2.1 x.2.2 = 0 ∧ lkd x.1 x.2.1 0 = true
def f58_e : Entry := { doms := [(false, (.sl (.int .i64))), (false, (.sl (.int .i64))), (false, (.int .i64))], cods := [(false, (.int .i64))], pre := f58_pre, fn := f58, uq := false, total := false }
def f58_E : Env := [(17, f17_e), (23, f23_e), (56, f56_e), (57, f57_e)]
def f58_A : Anns := { loops := [(1048576, { tms := [(0, .keep), (1, .keep), (2, .keep), (7, .data false (.int .i64))], obs := [], fz := [] })], own := [] }
theorem f58_run (a0 : List Int) (a1 : List Int) (a2 : Int) (K : Int → Prop) : runF Try.prog f58_E f58_A 6 Try.f58 f58_e.doms f58_e.cods (a0, a1, a2) K =
    (LoopP (V := Int × Unit) (fun again v => (fun (again1 : Int → Prop) (v1_0 : Int) =>
    br (decide (v1_0 < a2))
    (f23_pre (a0, (a1, (IntKind.i64.wrap (v1_0 + 1)))) ∧
    br ((f17 (f23 (a0, (a1, (IntKind.i64.wrap (v1_0 + 1)))))) != 0)
    (K v1_0)
    (f56_pre (f23 (a0, (a1, (IntKind.i64.wrap (v1_0 + 1))))) ∧
    br (!(f56 (f23 (a0, (a1, (IntKind.i64.wrap (v1_0 + 1)))))))
    (K v1_0)
    (again1 (IntKind.i64.wrap (v1_0 + 1)))))
    (K v1_0))
    (fun v1_0 => again (v1_0, ())) v.1) (0, ())) := by kernel_rfl
theorem f58_t (a0 : List Int) (a1 : List Int) (a2 : Int) (hpre : f58_pre (a0, a1, a2)) (K : Int → Prop) (hK : ∀ y : Int, y = f58 (a0, a1, a2) → K y) : RunF Try.prog f58_E f58_A 6 Try.f58 f58_e.doms f58_e.cods (a0, a1, a2) K := by
  refine ⟨?_⟩
  rw [f58_run a0 a1 a2 K]
  obtain ⟨he, hz⟩ := hpre
  simp only at he hz
  obtain ⟨ha, hb, hlen, hm⟩ := mg_ok he
  obtain ⟨h0, h4, _⟩ := pol_ok ha
  refine LoopP.up a2 (fun i _ => ∀ j : Nat, (j : Int) ≤ i → lkd a0 a1 j = true) (fun again i v hi0 hn hI hag => ?_) (by omega) (fun j hj => by rw [show j = 0 by omega]; exact hz)
  dsimp only
  rw [br_dec]
  refine ⟨fun hi => ?_, fun hi => hK _ ?_⟩
  · rw [wr (n := i + 1) (by omega) (by omega)]
    refine ⟨⟨by simp only; omega, by simp only; omega⟩, ?_⟩
    have bad : lkd a0 a1 (i + 1) = false → K i := fun hl => hK _ (by
      have hf : (List.range (a2 + 1).toNat).find? (fun (h : Nat) => !lkd a0 a1 (h : Int)) = some (i.toNat + 1) := by
        refine range_find_some (by omega) (fun j hj => ?_) ?_
        · rw [hI j (by omega)]; rfl
        · rw [show ((i.toNat + 1 : Nat) : Int) = i + 1 by omega, hl]; rfl
      simp only [f58, mgOf, hf]
      omega)
    rw [br_both]
    refine ⟨fun h => bad (by
      have h : f17 (f23 (a0, a1, i + 1)) ≠ 0 := by simpa using h
      simp [lkd, h]), fun h => ?_⟩
    have h : f17 (f23 (a0, a1, i + 1)) = 0 := by simpa using h
    obtain ⟨k0, k4, _⟩ := pol_ok h
    refine ⟨⟨k0, by omega⟩, ?_⟩
    rw [br_both]
    refine ⟨fun h2 => bad (by
      have h2 : f92 (f23 (a0, a1, i + 1)) = false := by simpa [f56] using h2
      simp [lkd, h2]), fun h2 => hag () hi fun j hj => ?_⟩
    have h2 : f92 (f23 (a0, a1, i + 1)) = true := by simpa [f56] using h2
    by_cases hji : (j : Int) = i + 1
    · rw [hji]; simp [lkd, h, h2]
    · exact hI j (by omega)
  · have hf : (List.range (a2 + 1).toNat).find? (fun (h : Nat) => !lkd a0 a1 (h : Int)) = none := range_find_none fun j hj => by
      rw [hI j (by omega)]; rfl
    simp only [f58, mgOf, hf]
    omega
theorem f58_fn : f58_e.fn = f58 := rfl
theorem f58_ok : EntryOK Try.prog 58 f58_e := by
  refine entryF progOK (EnvOK.cons f17_ok (EnvOK.cons f23_ok (EnvOK.cons f56_ok (EnvOK.cons f57_ok (EnvOK.nil))))) (A := f58_A) (d := 6) Try.func58 rfl rfl (fun h => by cases h) fun x hpre => ?_
  obtain ⟨a0, a1, a2⟩ := x
  exact f58_t a0 a1 a2 hpre _ fun _ h => h.trans (congrFun f58_fn.symm _)
end Go.Proofs.Ytdhekhichomoiaa
end

section
namespace Go.Proofs.Ytdhekhichomoiaa
open Go Go.Pi Go.RowKit
set_option maxRecDepth 100000
set_option linter.unusedVariables false
set_option linter.unusedSimpArgs false

def f9 (x : List Int × List Int × Int) : Bool := true
theorem mgOf_zero {a b : List Int} {n : Int} (hn : 0 ≤ n) (h : lkd a b 0 = false) : mgOf a b n = (0, 18) := by
  have hf : (List.range (n + 1).toNat).find? (fun (h : Nat) => !lkd a b (h : Int)) = some 0 := range_find_some (by omega) (fun j hj => by omega) (by
    show (!lkd a b 0) = true
    rw [h]; rfl)
  simp only [mgOf, hf]
theorem mgOf_ok {a b : List Int} {n : Int} (h : lkd a b 0 = true) : (mgOf a b n).2 = 0 := by
  unfold mgOf
  split
  · rfl
  · rename_i he
    have := List.find?_some he
    rw [show ((0 : Nat) : Int) = 0 from rfl, h] at this
    cases this
  · rfl
/-- What the law asks of the margin. -/
def mgTail (a0 a1 : List Int) (a2 : Int) (K : Bool → Prop) : Prop :=
  (f57_pre (a0, (a1, a2)) ∧
    br ((f57 (a0, (a1, a2))) != 0)
    (br ((f22 ((f21 a0), ((f21 a1), a2))).2 == (f57 (a0, (a1, a2))))
    (K ((f22 ((f21 a0), ((f21 a1), a2))).1 == 0))
    (K false))
    (br ((f22 ((f21 a0), ((f21 a1), a2))).2 == 0)
    (f58_pre (a0, (a1, a2)) ∧
    K ((f22 ((f21 a0), ((f21 a1), a2))).1 == (f58 (a0, (a1, a2)))))
    (K false)))
theorem mgTail_ok {a0 a1 : List Int} {a2 : Int} {K : Bool → Prop} (hT : K true) : mgTail a0 a1 a2 K := by
  unfold mgTail
  refine ⟨trivial, ?_⟩
  have e22 : f22 (f21 a0, f21 a1, a2) = if mgE a0 a1 a2 ≠ 0 then (0, mgE a0 a1 a2) else mgOf a0 a1 a2 := rfl
  by_cases hm : mgE a0 a1 a2 = 0
  · have hb := (mg_ok hm).most
    have e1 : f22 (f21 a0, f21 a1, a2) = mgOf a0 a1 a2 := by rw [e22, if_neg (fun h => h hm)]
    cases hl : lkd a0 a1 0 with
    | false =>
      have e2 : f57 (a0, a1, a2) = 18 := by unfold f57; rw [if_neg (fun h => h hm)]; simp only; rw [hl]; rfl
      rw [e1, e2, mgOf_zero hb.1 hl]
      exact hT
    | true =>
      have e2 : f57 (a0, a1, a2) = 0 := by unfold f57; rw [if_neg (fun h => h hm)]; simp only; rw [hl]; rfl
      have e3 : f58 (a0, a1, a2) = (mgOf a0 a1 a2).1 := rfl
      rw [e1, e2, mgOf_ok hl, e3]
      have : ((mgOf a0 a1 a2).1 == (mgOf a0 a1 a2).1) = true := by simp
      rw [this]
      exact ⟨⟨hm, hl⟩, hT⟩
  · have e1 : f22 (f21 a0, f21 a1, a2) = (0, mgE a0 a1 a2) := by rw [e22, if_pos hm]
    have e2 : f57 (a0, a1, a2) = mgE a0 a1 a2 := by unfold f57; rw [if_pos hm]
    rw [e1, e2]
    have h1 : (mgE a0 a1 a2 != 0) = true := by simpa using hm
    have h2 : (mgE a0 a1 a2 == mgE a0 a1 a2) = true := by simp
    simp only
    rw [h1, h2]
    exact hT
def f9_e : Entry := { doms := [(false, (.sl (.int .i64))), (false, (.sl (.int .i64))), (false, (.int .i64))], cods := [(false, .bool)], pre := fun _ => True, fn := f9, uq := false, total := true }
def f9_E : Env := [(16, f16_e), (17, f17_e), (20, f20_e), (21, f21_e), (22, f22_e), (53, f53_e), (54, f54_e), (55, f55_e), (56, f56_e), (57, f57_e), (58, f58_e)]
def f9_A : Anns := { loops := [], own := [] }
theorem f9_run (a0 : List Int) (a1 : List Int) (a2 : Int) (K : Bool → Prop) : runF Try.prog f9_E f9_A 6 Try.f9 f9_e.doms f9_e.cods (a0, a1, a2) K =
    (br (!(f16 ()))
    (K false)
    (br (lenOk (a0.length))
    (br (decide (((a0.length) : Int) > 6))
    (K true)
    (br (lenOk (a1.length))
    (br (decide (((a1.length) : Int) > 6))
    (K true)
    (f21_pre a0 ∧
    f53_pre (f21 a0) ∧
    f21_pre a0 ∧
    f21_pre a0 ∧
    f21_pre a1 ∧
    br ((f17 a0) != 0)
    (br ((f53 (f21 a0)).2 != (f17 a0))
    (K false)
    (br (lenOk (((f53 (f21 a0)).1).length))
    (br (((((f53 (f21 a0)).1).length) : Int) != 0)
    (K false)
    (br ((f20 (f21 a0)).2 != (f17 a0))
    (K false)
    (br (f20 (f21 a0)).1
    (K false)
    (br ((f17 a0) == 0)
    (br ((f53 (f21 a0)).2 != 0)
    (K false)
    (f55_pre a0 ∧
    br (!(f54 ((f53 (f21 a0)).1, (f55 a0))))
    (K false)
    (br ((f20 (f21 a0)).2 != 0)
    (K false)
    (f56_pre a0 ∧
    br (!((f20 (f21 a0)).1 == (f56 a0)))
    (K false)
    (f57_pre (a0, (a1, a2)) ∧
    br ((f57 (a0, (a1, a2))) != 0)
    (br ((f22 ((f21 a0), ((f21 a1), a2))).2 == (f57 (a0, (a1, a2))))
    (K ((f22 ((f21 a0), ((f21 a1), a2))).1 == 0))
    (K false))
    (br ((f22 ((f21 a0), ((f21 a1), a2))).2 == 0)
    (f58_pre (a0, (a1, a2)) ∧
    K ((f22 ((f21 a0), ((f21 a1), a2))).1 == (f58 (a0, (a1, a2)))))
    (K false)))))))
    (f57_pre (a0, (a1, a2)) ∧
    br ((f57 (a0, (a1, a2))) != 0)
    (br ((f22 ((f21 a0), ((f21 a1), a2))).2 == (f57 (a0, (a1, a2))))
    (K ((f22 ((f21 a0), ((f21 a1), a2))).1 == 0))
    (K false))
    (br ((f22 ((f21 a0), ((f21 a1), a2))).2 == 0)
    (f58_pre (a0, (a1, a2)) ∧
    K ((f22 ((f21 a0), ((f21 a1), a2))).1 == (f58 (a0, (a1, a2)))))
    (K false)))))))
    True))
    (br ((f17 a0) == 0)
    (br ((f53 (f21 a0)).2 != 0)
    (K false)
    (f55_pre a0 ∧
    br (!(f54 ((f53 (f21 a0)).1, (f55 a0))))
    (K false)
    (br ((f20 (f21 a0)).2 != 0)
    (K false)
    (f56_pre a0 ∧
    br (!((f20 (f21 a0)).1 == (f56 a0)))
    (K false)
    (f57_pre (a0, (a1, a2)) ∧
    br ((f57 (a0, (a1, a2))) != 0)
    (br ((f22 ((f21 a0), ((f21 a1), a2))).2 == (f57 (a0, (a1, a2))))
    (K ((f22 ((f21 a0), ((f21 a1), a2))).1 == 0))
    (K false))
    (br ((f22 ((f21 a0), ((f21 a1), a2))).2 == 0)
    (f58_pre (a0, (a1, a2)) ∧
    K ((f22 ((f21 a0), ((f21 a1), a2))).1 == (f58 (a0, (a1, a2)))))
    (K false)))))))
    (f57_pre (a0, (a1, a2)) ∧
    br ((f57 (a0, (a1, a2))) != 0)
    (br ((f22 ((f21 a0), ((f21 a1), a2))).2 == (f57 (a0, (a1, a2))))
    (K ((f22 ((f21 a0), ((f21 a1), a2))).1 == 0))
    (K false))
    (br ((f22 ((f21 a0), ((f21 a1), a2))).2 == 0)
    (f58_pre (a0, (a1, a2)) ∧
    K ((f22 ((f21 a0), ((f21 a1), a2))).1 == (f58 (a0, (a1, a2)))))
    (K false))))))
    True))
    True)) := by kernel_rfl
theorem f9_t (a0 : List Int) (a1 : List Int) (a2 : Int) (K : Bool → Prop) (hK : ∀ y : Bool, y = f9 (a0, a1, a2) → K y) : RunF Try.prog f9_E f9_A 6 Try.f9 f9_e.doms f9_e.cods (a0, a1, a2) K := by
  refine ⟨?_⟩
  rw [f9_run a0 a1 a2 K]
  have hT : K true := hK _ rfl
  have tail : mgTail a0 a1 a2 K := mgTail_ok hT
  rw [show (!(f16 ())) = false from rfl]
  show br (lenOk a0.length) _ True
  rw [br_true_]
  intro _
  rw [br_dec]
  refine ⟨fun _ => hT, fun h0 => ?_⟩
  rw [br_true_]
  intro _
  rw [br_dec]
  refine ⟨fun _ => hT, fun h1 => ?_⟩
  have p0 : f21_pre a0 := by show a0.length ≤ 1048576; omega
  have p1 : f21_pre a1 := by show a1.length ≤ 1048576; omega
  refine ⟨p0, trivial, p0, p0, p1, ?_⟩
  rw [show f21 a0 = a0 from rfl] at *
  by_cases hd : f17 a0 = 0
  · obtain ⟨k0, k4, _⟩ := pol_ok hd
    have e1 : f53 a0 = (f55 a0, 0) := by rw [f53, if_neg (fun h => h hd)]
    have e2 : f20 a0 = (f92 a0, 0) := by rw [f20, if_neg (fun h => h hd)]
    have e3 : f54 (f55 a0, f55 a0) = true := by simp [f54]
    have e4 : (f92 a0 == f56 a0) = true := by simp [f56]
    rw [hd, e1, e2]
    refine ⟨⟨k0, by omega⟩, ?_⟩
    simp only
    rw [e3]
    refine ⟨⟨k0, by omega⟩, ?_⟩
    rw [e4]
    exact tail
  · have e1 : f53 a0 = ([], f17 a0) := by rw [f53, if_pos hd]
    have e2 : f20 a0 = (false, f17 a0) := by rw [f20, if_pos hd]
    rw [e1, e2]
    have n1 : (f17 a0 != 0) = true := by simpa using hd
    have n2 : (f17 a0 != f17 a0) = false := by simp
    have n3 : (f17 a0 == 0) = false := by simpa using hd
    simp only
    rw [n1, n2, n3]
    simp only [br]
    exact tail
theorem f9_fn : f9_e.fn = f9 := rfl
theorem f9_ok : EntryOK Try.prog 9 f9_e := by
  refine entryF progOK (EnvOK.cons f16_ok (EnvOK.cons f17_ok (EnvOK.cons f20_ok (EnvOK.cons f21_ok (EnvOK.cons f22_ok (EnvOK.cons f53_ok (EnvOK.cons f54_ok (EnvOK.cons f55_ok (EnvOK.cons f56_ok (EnvOK.cons f57_ok (EnvOK.cons f58_ok (EnvOK.nil)))))))))))) (A := f9_A) (d := 6) Try.func9 rfl rfl (fun _ _ => trivial) fun x hpre => ?_
  obtain ⟨a0, a1, a2⟩ := x
  exact f9_t a0 a1 a2 _ fun _ h => h.trans (congrFun f9_fn.symm _)
end Go.Proofs.Ytdhekhichomoiaa
end
