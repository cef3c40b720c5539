/- What functions of the program compute, each proved once, part 11. -/
import Derived.Test.YtglijnhkdnhofaaGreatPiD
import Derived.Test.YtglijnhkdnhofaaGreatFnA
import Derived.Test.YtglijnhkdnhofaaGreatFnJ
import Derived.Test.YtglijnhkdnhofaaGreatFnC

section
namespace Go.Proofs.YtglijnhkdnhofaaGreat
open Go Go.Pi Go.RowKit
set_option maxRecDepth 100000
set_option linter.unusedVariables false
set_option linter.unusedSimpArgs false

def f76 (x : List (Int × Int × Int × Int) × Int × Int × Int × Int) : List (Int × Int × Int × Int) := insW x.1 x.2
def f76_pre (x : List (Int × Int × Int × Int) × Int × Int × Int × Int) : Prop := x.1.length ≤ 1048576 ∧ (∀ v ∈ x.1, WFit v) ∧ WFit x.2
def f76_end (a0 : List (Int × Int × Int × Int)) (a1 : Int × Int × Int × Int) (K : List (Int × Int × Int × Int) → Prop) (v1_0 : Int) : Prop :=
  br (decide ((0 : Int) ≤ 0 ∧ 0 ≤ v1_0 ∧ v1_0 ≤ ((a0.length) : Int)))
  (br (roomOk (0 + (((a0.take v1_0.toNat).drop 0).length)) 32)
  (br (roomOk (((([] : List (Int × Int × Int × Int)) ++ ((a0.take v1_0.toNat).drop 0)).length) + 1) 32)
  (br (decide ((0 : Int) ≤ v1_0 ∧ v1_0 ≤ ((a0.length) : Int) ∧ ((a0.length) : Int) ≤ ((a0.length) : Int)))
  (br (roomOk ((((([] : List (Int × Int × Int × Int)) ++ ((a0.take v1_0.toNat).drop 0)) ++ ([a1] : List (Int × Int × Int × Int))).length) + (((a0.take (((a0.length) : Int).toNat)).drop v1_0.toNat).length)) 32)
  (K (((([] : List (Int × Int × Int × Int)) ++ ((a0.take v1_0.toNat).drop 0)) ++ ([a1] : List (Int × Int × Int × Int))) ++ ((a0.take (((a0.length) : Int).toNat)).drop v1_0.toNat)))
  False)
  False)
  False)
  False)
  False
def f76_e : Entry := { doms := [(false, (.sl (.pair (.int .i64) (.pair (.int .i64) (.pair (.int .i64) (.int .i64)))))), (true, (.pair (.int .i64) (.pair (.int .i64) (.pair (.int .i64) (.int .i64)))))], cods := [(false, (.sl (.pair (.int .i64) (.pair (.int .i64) (.pair (.int .i64) (.int .i64))))))], pre := f76_pre, fn := f76, uq := false, total := false }
def f76_E : Env := [(129, f129_e)]
def f76_A : Anns := { loops := [(1048576, { tms := [(0, .keep), (3, .keep), (5, .data false (.int .i64))], obs := [(1048576, .keep)], fz := [] })], own := [1054720] }
theorem f76_run (a0 : List (Int × Int × Int × Int)) (a1 : Int × Int × Int × Int) (K : (List (Int × Int × Int × Int)) → Prop) : runF Tryz.prog f76_E f76_A 6 Tryz.f76 f76_e.doms f76_e.cods (a0, a1) K =
    (LoopP (V := Int × Unit) (fun again v => (fun (again1 : Int → Prop) (v1_0 : Int) =>
    br (decide (v1_0 < ((a0.length) : Int)))
    (br (decide (0 ≤ v1_0) && decide (v1_0 < ((a0.length) : Int)))
    (f129_pre (((a0.getD v1_0.toNat (0, (0, (0, 0)))).1, (((a0.getD v1_0.toNat (0, (0, (0, 0)))).2).1, (((a0.getD v1_0.toNat (0, (0, (0, 0)))).2).2))), a1) ∧
    br (lenOk (a0.length))
    (br (f129 (((a0.getD v1_0.toNat (0, (0, (0, 0)))).1, (((a0.getD v1_0.toNat (0, (0, (0, 0)))).2).1, (((a0.getD v1_0.toNat (0, (0, (0, 0)))).2).2))), a1))
    (again1 (IntKind.i64.wrap (v1_0 + 1)))
    (br (decide (v1_0 < ((a0.length) : Int)))
    (br (decide (0 ≤ v1_0) && decide (v1_0 < ((a0.length) : Int)))
    (br (lenOk (a0.length))
    (br (((a0.getD v1_0.toNat (0, (0, (0, 0)))).1 == a1.1) && ((((a0.getD v1_0.toNat (0, (0, (0, 0)))).2).1 == a1.2.1) && (((((a0.getD v1_0.toNat (0, (0, (0, 0)))).2).2).1 == a1.2.2.1) && (((((a0.getD v1_0.toNat (0, (0, (0, 0)))).2).2).2 == a1.2.2.2) && true))))
    (K a0)
    (f76_end a0 a1 K v1_0))
    True)
    False)
    (br (lenOk (a0.length))
    (f76_end a0 a1 K v1_0)
    True)))
    True)
    False)
    (br (lenOk (a0.length))
    (br (decide (v1_0 < ((a0.length) : Int)))
    (br (decide (0 ≤ v1_0) && decide (v1_0 < ((a0.length) : Int)))
    (br (lenOk (a0.length))
    (br (((a0.getD v1_0.toNat (0, (0, (0, 0)))).1 == a1.1) && ((((a0.getD v1_0.toNat (0, (0, (0, 0)))).2).1 == a1.2.1) && (((((a0.getD v1_0.toNat (0, (0, (0, 0)))).2).2).1 == a1.2.2.1) && (((((a0.getD v1_0.toNat (0, (0, (0, 0)))).2).2).2 == a1.2.2.2) && true))))
    (K a0)
    (f76_end a0 a1 K v1_0))
    True)
    False)
    (br (lenOk (a0.length))
    (f76_end a0 a1 K v1_0)
    True))
    True))
    (fun v1_0 => again (v1_0, ())) v.1) (0, ())) := by kernel_rfl
theorem f76_t (a0 : List (Int × Int × Int × Int)) (a1 : Int × Int × Int × Int) (hpre : f76_pre (a0, a1)) (K : (List (Int × Int × Int × Int)) → Prop) (hK : ∀ y : List (Int × Int × Int × Int), y = f76 (a0, a1) → K y) : RunF Tryz.prog f76_E f76_A 6 Tryz.f76 f76_e.doms f76_e.cods (a0, a1) K := by
  refine ⟨?_⟩
  rw [f76_run a0 a1 K]
  obtain ⟨hl, ha, hv⟩ := hpre
  dsimp only at hl ha hv
  have hlen : lenOk a0.length = true := by rw [lenOk_iff]; omega
  have eqv : ∀ a b : WV, (a.1 == b.1 && (a.2.1 == b.2.1 && (a.2.2.1 == b.2.2.1 && (a.2.2.2 == b.2.2.2 && true)))) = true ↔ a = b := fun a b => by
    simp only [Bool.and_eq_true, beq_iff_eq, and_true, Prod.ext_iff]
  -- put in here
  have ins : ∀ i : Nat, i ≤ a0.length → f76 (a0, a1) = a0.take i ++ a1 :: a0.drop i → f76_end a0 a1 K (i : Int) := fun i hi he => by
    unfold f76_end
    rw [Int.toNat_natCast, Int.toNat_natCast, List.drop_zero, List.take_length]
    have h1 : (a0.take i).length ≤ 1048576 := by rw [List.length_take]; omega
    have h2 : (a0.drop i).length ≤ 1048576 := by rw [List.length_drop]; omega
    refine br_must (decide_eq_true ⟨by omega, by omega, by omega⟩) (br_must (by rw [roomOk_iff]; omega) (br_must ?_ (br_must (decide_eq_true ⟨by omega, by omega, by omega⟩) (br_must ?_ (hK _ ?_)))))
    · rw [roomOk_iff, List.nil_append]; omega
    · rw [roomOk_iff, List.length_append, List.nil_append, List.length_singleton]; omega
    · rw [he, List.nil_append, List.append_assoc]; rfl
  refine LoopP.of (fun q : Int × Unit => ∃ i : Nat, i ≤ a0.length ∧ q = ((i : Int), ()) ∧ ∀ x ∈ a0.take i, wlt x a1) (fun q => ((a0.length : Int) - q.1).toNat) (fun again q hq hag => ?_) ⟨0, by omega, rfl, fun x hx => by rw [List.take_zero] at hx; cases hx⟩
  obtain ⟨i, hi, rfl, hI⟩ := hq
  dsimp only
  rw [Int.toNat_natCast]
  have sp : f76 (a0, a1) = a0.take i ++ insW (a0.drop i) a1 := by
    show insW a0 a1 = _
    rw [← insW_split a1 _ _ hI, List.take_append_drop]
  have dr : ∀ h : i < a0.length, a0.drop i = a0.getD i (0, 0, 0, 0) :: a0.drop (i + 1) := fun h => by rw [List.drop_eq_getElem_cons h, getD_lt h]
  refine br_if (fun hlt => ?_) fun hge => ?_
  · have hlt' : i < a0.length := by omega
    have hb := inb (show (0 : Int) ≤ i by omega) hlt
    refine br_must hb ⟨⟨ha _ (getD_mem hlt'), hv⟩, br_weak (br_two (fun h => hag _ ⟨i + 1, by omega, ?_, fun x hx => ?_⟩ ?_) fun h => ?_)⟩
    · rw [wr (by omega) (by omega)]; simp
    · rw [List.take_succ_eq_append_getElem hlt'] at hx
      rcases List.mem_append.1 hx with hx | hx
      · exact hI x hx
      · rw [List.mem_singleton] at hx
        rw [hx, ← getD_lt (d := (0, 0, 0, 0)) hlt']
        have h : decide (ordC (a0.getD i (0, 0, 0, 0)) a1 < 0) = true := h
        show ordC (a0.getD i (0, 0, 0, 0)) a1 < 0
        exact of_decide_eq_true h
    · dsimp only
      rw [wr (by omega) (by omega)]; omega
    · have hn : ¬ ordC (a0.getD i (0, 0, 0, 0)) a1 < 0 := of_decide_eq_false h
      rw [br_dec]
      refine ⟨fun _ => br_must hb (br_weak (br_two (fun he => hK _ ?_) fun he => ins i hi ?_)), fun h9 => absurd hlt h9⟩
      · have he : a0.getD i (0, 0, 0, 0) = a1 := (eqv _ _).1 he
        rw [sp, dr hlt', insW, if_neg hn, if_pos he, ← dr hlt', List.take_append_drop]
      · have he : ¬ a0.getD i (0, 0, 0, 0) = a1 := fun hh => by
          rw [(eqv _ _).2 hh] at he; cases he
        rw [sp, dr hlt', insW, if_neg hn, if_neg he]
  · refine br_weak ?_
    rw [br_dec]
    refine ⟨fun h9 => absurd h9 hge, fun _ => br_weak (ins i hi ?_)⟩
    have e : i = a0.length := by omega
    rw [sp, e, List.drop_length, insW]
theorem f76_fn : f76_e.fn = f76 := rfl
theorem f76_ok : EntryOK Tryz.prog 76 f76_e := by
  refine entryF progOK (EnvOK.cons f129_ok (EnvOK.nil)) (A := f76_A) (d := 6) Tryz.func76 rfl rfl rfl rfl (fun h => by cases h) fun x hpre => ?_
  obtain ⟨a0, a1⟩ := x
  exact f76_t a0 a1 hpre _ fun _ h => h.trans (congrFun f76_fn.symm _)
end Go.Proofs.YtglijnhkdnhofaaGreat
end

section
namespace Go.Proofs.YtglijnhkdnhofaaGreat
open Go Go.Pi Go.RowKit
set_option maxRecDepth 100000
set_option linter.unusedVariables false
set_option linter.unusedSimpArgs false

def f17 (l : List ((Int × Int × Int) × Int × Int)) : List (Int × Int × Int × Int) := vtx l
def f17_pre (l : List ((Int × Int × Int) × Int × Int)) : Prop := RdLe l
theorem and0 : ∀ e : Fin 8, (IntKind.i64.wrap (((BitVec.ofInt IntKind.i64.bits (e.1 : Int) &&& BitVec.ofInt IntKind.i64.bits 1).toNat : Nat)) ≠ 0) ↔ e.1 % 2 = 1 := by decide
theorem and1 : ∀ e : Fin 8, (IntKind.i64.wrap (((BitVec.ofInt IntKind.i64.bits (e.1 : Int) &&& BitVec.ofInt IntKind.i64.bits 2).toNat : Nat)) ≠ 0) ↔ e.1 / 2 % 2 = 1 := by decide
theorem and2 : ∀ e : Fin 8, (IntKind.i64.wrap (((BitVec.ofInt IntKind.i64.bits (e.1 : Int) &&& BitVec.ofInt IntKind.i64.bits 4).toNat : Nat)) ≠ 0) ↔ e.1 / 4 % 2 = 1 := by decide
def f17_e : Entry := { doms := [(false, (.sl (.pair (.pair (.int .i64) (.pair (.int .i64) (.int .i64))) (.pair (.int .i64) (.int .i64)))))], cods := [(false, (.sl (.pair (.int .i64) (.pair (.int .i64) (.pair (.int .i64) (.int .i64))))))], pre := f17_pre, fn := f17, uq := false, total := false }
def f17_E : Env := [(72, f72_e), (73, f73_e), (74, f74_e), (75, f75_e), (76, f76_e)]
def f17_A : Anns := { loops := [(1048576, { tms := [(0, .keep), (3, .data false (.sl (.pair (.int .i64) (.pair (.int .i64) (.pair (.int .i64) (.int .i64)))))), (4, .data false (.int .i64))], obs := [], fz := [] }),
  (1048578, { tms := [(0, .keep), (3, .data false (.sl (.pair (.int .i64) (.pair (.int .i64) (.pair (.int .i64) (.int .i64)))))), (4, .keep), (5, .data false (.int .i64))], obs := [], fz := [] }),
  (1048580, { tms := [(0, .keep), (3, .data false (.sl (.pair (.int .i64) (.pair (.int .i64) (.pair (.int .i64) (.int .i64)))))), (4, .keep), (5, .keep), (6, .data false (.int .i64))], obs := [], fz := [] }),
  (1048582, { tms := [(0, .keep), (3, .data false (.sl (.pair (.int .i64) (.pair (.int .i64) (.pair (.int .i64) (.int .i64)))))), (4, .keep), (5, .keep), (6, .keep), (7, .keep), (8, .data false (.int .i64))], obs := [(1059856, .keep)], fz := [] })], own := [] }
theorem f17_run (a0 : List ((Int × Int × Int) × Int × Int)) (K : (List (Int × Int × Int × Int)) → Prop) : runF Tryz.prog f17_E f17_A 6 Tryz.f17 f17_e.doms f17_e.cods a0 K =
    (LoopP (V := List (Int × Int × Int × Int) × Int × Unit) (fun again v => (fun (again1 : List (Int × Int × Int × Int) → Int → Prop) (v1_0 : List (Int × Int × Int × Int)) (v1_1 : Int) =>
    br (lenOk (a0.length))
    (br (decide (v1_1 < ((a0.length) : Int)))
    (LoopP (V := List (Int × Int × Int × Int) × Int × Unit) (fun again v => (fun (again2 : List (Int × Int × Int × Int) → Int → Prop) (v2_0 : List (Int × Int × Int × Int)) (v2_1 : Int) =>
    br (decide (v2_1 < v1_1))
    (LoopP (V := List (Int × Int × Int × Int) × Int × Unit) (fun again v => (fun (again3 : List (Int × Int × Int × Int) → Int → Prop) (v3_0 : List (Int × Int × Int × Int)) (v3_1 : Int) =>
    br (decide (v3_1 < v2_1))
    (br (decide (0 ≤ v1_1) && decide (v1_1 < ((a0.length) : Int)))
    (br (decide (0 ≤ v2_1) && decide (v2_1 < ((a0.length) : Int)))
    (br (decide (0 ≤ v3_1) && decide (v3_1 < ((a0.length) : Int)))
    (br ((f72 ((((a0.getD v1_1.toNat ((0, (0, 0)), (0, 0))).1).1, (((a0.getD v1_1.toNat ((0, (0, 0)), (0, 0))).1).2)), ((((a0.getD v2_1.toNat ((0, (0, 0)), (0, 0))).1).1, (((a0.getD v2_1.toNat ((0, (0, 0)), (0, 0))).1).2)), (((a0.getD v3_1.toNat ((0, (0, 0)), (0, 0))).1).1, (((a0.getD v3_1.toNat ((0, (0, 0)), (0, 0))).1).2))))) == 0)
    (again3 v3_0 (IntKind.i64.wrap (v3_1 + 1)))
    (LoopP (V := List (Int × Int × Int × Int) × Int × Unit) (fun again v => (fun (again4 : List (Int × Int × Int × Int) → Int → Prop) (v4_0 : List (Int × Int × Int × Int)) (v4_1 : Int) =>
    br (decide (v4_1 < 8))
    (br (decide (0 ≤ v1_1) && decide (v1_1 < ((a0.length) : Int)))
    (br (decide (0 ≤ v2_1) && decide (v2_1 < ((a0.length) : Int)))
    (br (decide (0 ≤ v3_1) && decide (v3_1 < ((a0.length) : Int)))
    (f73_pre (((((a0.getD v1_1.toNat ((0, (0, 0)), (0, 0))).1).1, (((a0.getD v1_1.toNat ((0, (0, 0)), (0, 0))).1).2)), ((((a0.getD v2_1.toNat ((0, (0, 0)), (0, 0))).1).1, (((a0.getD v2_1.toNat ((0, (0, 0)), (0, 0))).1).2)), (((a0.getD v3_1.toNat ((0, (0, 0)), (0, 0))).1).1, (((a0.getD v3_1.toNat ((0, (0, 0)), (0, 0))).1).2)))), ((f74 (((a0.getD v1_1.toNat ((0, (0, 0)), (0, 0))).2), (IntKind.i64.wrap (((BitVec.ofInt IntKind.i64.bits v4_1 &&& BitVec.ofInt IntKind.i64.bits 1).toNat : Nat))))), ((f74 (((a0.getD v2_1.toNat ((0, (0, 0)), (0, 0))).2), (IntKind.i64.wrap (((BitVec.ofInt IntKind.i64.bits v4_1 &&& BitVec.ofInt IntKind.i64.bits 2).toNat : Nat))))), (f74 (((a0.getD v3_1.toNat ((0, (0, 0)), (0, 0))).2), (IntKind.i64.wrap (((BitVec.ofInt IntKind.i64.bits v4_1 &&& BitVec.ofInt IntKind.i64.bits 4).toNat : Nat)))))))) ∧
    br (f75 (a0, ((f73 (((((a0.getD v1_1.toNat ((0, (0, 0)), (0, 0))).1).1, (((a0.getD v1_1.toNat ((0, (0, 0)), (0, 0))).1).2)), ((((a0.getD v2_1.toNat ((0, (0, 0)), (0, 0))).1).1, (((a0.getD v2_1.toNat ((0, (0, 0)), (0, 0))).1).2)), (((a0.getD v3_1.toNat ((0, (0, 0)), (0, 0))).1).1, (((a0.getD v3_1.toNat ((0, (0, 0)), (0, 0))).1).2)))), ((f74 (((a0.getD v1_1.toNat ((0, (0, 0)), (0, 0))).2), (IntKind.i64.wrap (((BitVec.ofInt IntKind.i64.bits v4_1 &&& BitVec.ofInt IntKind.i64.bits 1).toNat : Nat))))), ((f74 (((a0.getD v2_1.toNat ((0, (0, 0)), (0, 0))).2), (IntKind.i64.wrap (((BitVec.ofInt IntKind.i64.bits v4_1 &&& BitVec.ofInt IntKind.i64.bits 2).toNat : Nat))))), (f74 (((a0.getD v3_1.toNat ((0, (0, 0)), (0, 0))).2), (IntKind.i64.wrap (((BitVec.ofInt IntKind.i64.bits v4_1 &&& BitVec.ofInt IntKind.i64.bits 4).toNat : Nat))))))))).1, (((f73 (((((a0.getD v1_1.toNat ((0, (0, 0)), (0, 0))).1).1, (((a0.getD v1_1.toNat ((0, (0, 0)), (0, 0))).1).2)), ((((a0.getD v2_1.toNat ((0, (0, 0)), (0, 0))).1).1, (((a0.getD v2_1.toNat ((0, (0, 0)), (0, 0))).1).2)), (((a0.getD v3_1.toNat ((0, (0, 0)), (0, 0))).1).1, (((a0.getD v3_1.toNat ((0, (0, 0)), (0, 0))).1).2)))), ((f74 (((a0.getD v1_1.toNat ((0, (0, 0)), (0, 0))).2), (IntKind.i64.wrap (((BitVec.ofInt IntKind.i64.bits v4_1 &&& BitVec.ofInt IntKind.i64.bits 1).toNat : Nat))))), ((f74 (((a0.getD v2_1.toNat ((0, (0, 0)), (0, 0))).2), (IntKind.i64.wrap (((BitVec.ofInt IntKind.i64.bits v4_1 &&& BitVec.ofInt IntKind.i64.bits 2).toNat : Nat))))), (f74 (((a0.getD v3_1.toNat ((0, (0, 0)), (0, 0))).2), (IntKind.i64.wrap (((BitVec.ofInt IntKind.i64.bits v4_1 &&& BitVec.ofInt IntKind.i64.bits 4).toNat : Nat))))))))).2).1, (((f73 (((((a0.getD v1_1.toNat ((0, (0, 0)), (0, 0))).1).1, (((a0.getD v1_1.toNat ((0, (0, 0)), (0, 0))).1).2)), ((((a0.getD v2_1.toNat ((0, (0, 0)), (0, 0))).1).1, (((a0.getD v2_1.toNat ((0, (0, 0)), (0, 0))).1).2)), (((a0.getD v3_1.toNat ((0, (0, 0)), (0, 0))).1).1, (((a0.getD v3_1.toNat ((0, (0, 0)), (0, 0))).1).2)))), ((f74 (((a0.getD v1_1.toNat ((0, (0, 0)), (0, 0))).2), (IntKind.i64.wrap (((BitVec.ofInt IntKind.i64.bits v4_1 &&& BitVec.ofInt IntKind.i64.bits 1).toNat : Nat))))), ((f74 (((a0.getD v2_1.toNat ((0, (0, 0)), (0, 0))).2), (IntKind.i64.wrap (((BitVec.ofInt IntKind.i64.bits v4_1 &&& BitVec.ofInt IntKind.i64.bits 2).toNat : Nat))))), (f74 (((a0.getD v3_1.toNat ((0, (0, 0)), (0, 0))).2), (IntKind.i64.wrap (((BitVec.ofInt IntKind.i64.bits v4_1 &&& BitVec.ofInt IntKind.i64.bits 4).toNat : Nat))))))))).2).2)))))
    (f76_pre (v4_0, ((f73 (((((a0.getD v1_1.toNat ((0, (0, 0)), (0, 0))).1).1, (((a0.getD v1_1.toNat ((0, (0, 0)), (0, 0))).1).2)), ((((a0.getD v2_1.toNat ((0, (0, 0)), (0, 0))).1).1, (((a0.getD v2_1.toNat ((0, (0, 0)), (0, 0))).1).2)), (((a0.getD v3_1.toNat ((0, (0, 0)), (0, 0))).1).1, (((a0.getD v3_1.toNat ((0, (0, 0)), (0, 0))).1).2)))), ((f74 (((a0.getD v1_1.toNat ((0, (0, 0)), (0, 0))).2), (IntKind.i64.wrap (((BitVec.ofInt IntKind.i64.bits v4_1 &&& BitVec.ofInt IntKind.i64.bits 1).toNat : Nat))))), ((f74 (((a0.getD v2_1.toNat ((0, (0, 0)), (0, 0))).2), (IntKind.i64.wrap (((BitVec.ofInt IntKind.i64.bits v4_1 &&& BitVec.ofInt IntKind.i64.bits 2).toNat : Nat))))), (f74 (((a0.getD v3_1.toNat ((0, (0, 0)), (0, 0))).2), (IntKind.i64.wrap (((BitVec.ofInt IntKind.i64.bits v4_1 &&& BitVec.ofInt IntKind.i64.bits 4).toNat : Nat))))))))).1, (((f73 (((((a0.getD v1_1.toNat ((0, (0, 0)), (0, 0))).1).1, (((a0.getD v1_1.toNat ((0, (0, 0)), (0, 0))).1).2)), ((((a0.getD v2_1.toNat ((0, (0, 0)), (0, 0))).1).1, (((a0.getD v2_1.toNat ((0, (0, 0)), (0, 0))).1).2)), (((a0.getD v3_1.toNat ((0, (0, 0)), (0, 0))).1).1, (((a0.getD v3_1.toNat ((0, (0, 0)), (0, 0))).1).2)))), ((f74 (((a0.getD v1_1.toNat ((0, (0, 0)), (0, 0))).2), (IntKind.i64.wrap (((BitVec.ofInt IntKind.i64.bits v4_1 &&& BitVec.ofInt IntKind.i64.bits 1).toNat : Nat))))), ((f74 (((a0.getD v2_1.toNat ((0, (0, 0)), (0, 0))).2), (IntKind.i64.wrap (((BitVec.ofInt IntKind.i64.bits v4_1 &&& BitVec.ofInt IntKind.i64.bits 2).toNat : Nat))))), (f74 (((a0.getD v3_1.toNat ((0, (0, 0)), (0, 0))).2), (IntKind.i64.wrap (((BitVec.ofInt IntKind.i64.bits v4_1 &&& BitVec.ofInt IntKind.i64.bits 4).toNat : Nat))))))))).2).1, (((f73 (((((a0.getD v1_1.toNat ((0, (0, 0)), (0, 0))).1).1, (((a0.getD v1_1.toNat ((0, (0, 0)), (0, 0))).1).2)), ((((a0.getD v2_1.toNat ((0, (0, 0)), (0, 0))).1).1, (((a0.getD v2_1.toNat ((0, (0, 0)), (0, 0))).1).2)), (((a0.getD v3_1.toNat ((0, (0, 0)), (0, 0))).1).1, (((a0.getD v3_1.toNat ((0, (0, 0)), (0, 0))).1).2)))), ((f74 (((a0.getD v1_1.toNat ((0, (0, 0)), (0, 0))).2), (IntKind.i64.wrap (((BitVec.ofInt IntKind.i64.bits v4_1 &&& BitVec.ofInt IntKind.i64.bits 1).toNat : Nat))))), ((f74 (((a0.getD v2_1.toNat ((0, (0, 0)), (0, 0))).2), (IntKind.i64.wrap (((BitVec.ofInt IntKind.i64.bits v4_1 &&& BitVec.ofInt IntKind.i64.bits 2).toNat : Nat))))), (f74 (((a0.getD v3_1.toNat ((0, (0, 0)), (0, 0))).2), (IntKind.i64.wrap (((BitVec.ofInt IntKind.i64.bits v4_1 &&& BitVec.ofInt IntKind.i64.bits 4).toNat : Nat))))))))).2).2)))) ∧
    again4 (f76 (v4_0, ((f73 (((((a0.getD v1_1.toNat ((0, (0, 0)), (0, 0))).1).1, (((a0.getD v1_1.toNat ((0, (0, 0)), (0, 0))).1).2)), ((((a0.getD v2_1.toNat ((0, (0, 0)), (0, 0))).1).1, (((a0.getD v2_1.toNat ((0, (0, 0)), (0, 0))).1).2)), (((a0.getD v3_1.toNat ((0, (0, 0)), (0, 0))).1).1, (((a0.getD v3_1.toNat ((0, (0, 0)), (0, 0))).1).2)))), ((f74 (((a0.getD v1_1.toNat ((0, (0, 0)), (0, 0))).2), (IntKind.i64.wrap (((BitVec.ofInt IntKind.i64.bits v4_1 &&& BitVec.ofInt IntKind.i64.bits 1).toNat : Nat))))), ((f74 (((a0.getD v2_1.toNat ((0, (0, 0)), (0, 0))).2), (IntKind.i64.wrap (((BitVec.ofInt IntKind.i64.bits v4_1 &&& BitVec.ofInt IntKind.i64.bits 2).toNat : Nat))))), (f74 (((a0.getD v3_1.toNat ((0, (0, 0)), (0, 0))).2), (IntKind.i64.wrap (((BitVec.ofInt IntKind.i64.bits v4_1 &&& BitVec.ofInt IntKind.i64.bits 4).toNat : Nat))))))))).1, (((f73 (((((a0.getD v1_1.toNat ((0, (0, 0)), (0, 0))).1).1, (((a0.getD v1_1.toNat ((0, (0, 0)), (0, 0))).1).2)), ((((a0.getD v2_1.toNat ((0, (0, 0)), (0, 0))).1).1, (((a0.getD v2_1.toNat ((0, (0, 0)), (0, 0))).1).2)), (((a0.getD v3_1.toNat ((0, (0, 0)), (0, 0))).1).1, (((a0.getD v3_1.toNat ((0, (0, 0)), (0, 0))).1).2)))), ((f74 (((a0.getD v1_1.toNat ((0, (0, 0)), (0, 0))).2), (IntKind.i64.wrap (((BitVec.ofInt IntKind.i64.bits v4_1 &&& BitVec.ofInt IntKind.i64.bits 1).toNat : Nat))))), ((f74 (((a0.getD v2_1.toNat ((0, (0, 0)), (0, 0))).2), (IntKind.i64.wrap (((BitVec.ofInt IntKind.i64.bits v4_1 &&& BitVec.ofInt IntKind.i64.bits 2).toNat : Nat))))), (f74 (((a0.getD v3_1.toNat ((0, (0, 0)), (0, 0))).2), (IntKind.i64.wrap (((BitVec.ofInt IntKind.i64.bits v4_1 &&& BitVec.ofInt IntKind.i64.bits 4).toNat : Nat))))))))).2).1, (((f73 (((((a0.getD v1_1.toNat ((0, (0, 0)), (0, 0))).1).1, (((a0.getD v1_1.toNat ((0, (0, 0)), (0, 0))).1).2)), ((((a0.getD v2_1.toNat ((0, (0, 0)), (0, 0))).1).1, (((a0.getD v2_1.toNat ((0, (0, 0)), (0, 0))).1).2)), (((a0.getD v3_1.toNat ((0, (0, 0)), (0, 0))).1).1, (((a0.getD v3_1.toNat ((0, (0, 0)), (0, 0))).1).2)))), ((f74 (((a0.getD v1_1.toNat ((0, (0, 0)), (0, 0))).2), (IntKind.i64.wrap (((BitVec.ofInt IntKind.i64.bits v4_1 &&& BitVec.ofInt IntKind.i64.bits 1).toNat : Nat))))), ((f74 (((a0.getD v2_1.toNat ((0, (0, 0)), (0, 0))).2), (IntKind.i64.wrap (((BitVec.ofInt IntKind.i64.bits v4_1 &&& BitVec.ofInt IntKind.i64.bits 2).toNat : Nat))))), (f74 (((a0.getD v3_1.toNat ((0, (0, 0)), (0, 0))).2), (IntKind.i64.wrap (((BitVec.ofInt IntKind.i64.bits v4_1 &&& BitVec.ofInt IntKind.i64.bits 4).toNat : Nat))))))))).2).2))))) (IntKind.i64.wrap (v4_1 + 1)))
    (again4 v4_0 (IntKind.i64.wrap (v4_1 + 1))))
    False)
    False)
    False)
    (again3 v4_0 (IntKind.i64.wrap (v3_1 + 1))))
    (fun v4_0 v4_1 => again (v4_0, v4_1, ())) v.1 v.2.1) (v3_0, 0, ())))
    False)
    False)
    False)
    (again2 v3_0 (IntKind.i64.wrap (v2_1 + 1))))
    (fun v3_0 v3_1 => again (v3_0, v3_1, ())) v.1 v.2.1) (v2_0, 0, ()))
    (again1 v2_0 (IntKind.i64.wrap (v1_1 + 1))))
    (fun v2_0 v2_1 => again (v2_0, v2_1, ())) v.1 v.2.1) (v1_0, 0, ()))
    (K v1_0))
    True)
    (fun v1_0 v1_1 => again (v1_0, v1_1, ())) v.1 v.2.1) (([] : List (Int × Int × Int × Int)), 0, ())) := by kernel_rfl
theorem f17_t (a0 : List ((Int × Int × Int) × Int × Int)) (hpre : f17_pre a0) (K : (List (Int × Int × Int × Int)) → Prop) (hK : ∀ y : List (Int × Int × Int × Int), y = f17 a0 → K y) : RunF Tryz.prog f17_E f17_A 6 Tryz.f17 f17_e.doms f17_e.cods a0 K := by
  refine ⟨?_⟩
  rw [f17_run a0 K]
  have hle : RdLe a0 := hpre
  have h8 := hle.len
  refine LoopP.up2 a0.length (fun i out (_ : Unit) => Got out ((List.range i.toNat).flatMap (refC a0)) (512 * i.toNat)) (fun again1 o1 i1 _ h10 h1n G1 H1 => ?_) (by omega) ⟨rfl, by simp, by simp⟩
  obtain ⟨i, rfl⟩ := Int.eq_ofNat_of_zero_le h10
  dsimp only at G1 ⊢
  refine br_weak (br_if (fun hi => ?_) fun hi => hK _ ?_)
  rotate_left
  · have : i = a0.length := by omega
    subst this
    rw [Int.toNat_natCast] at G1
    rw [G1.e]; exact sortW_refs hle
  have hi : i < a0.length := by omega
  rw [wr (n := (i : Int) + 1) (by omega) (by omega)]
  refine LoopP.up2 i (fun j out (_ : Unit) => Got out ((List.range i).flatMap (refC a0) ++ (List.range j.toNat).flatMap (refB a0 i)) (512 * i + 64 * j.toNat)) (fun again2 o2 j2 _ h20 h2n G2 H2 => ?_) (by omega) (G1.to (by simp) (by simp))
  obtain ⟨j, rfl⟩ := Int.eq_ofNat_of_zero_le h20
  dsimp only at G2 ⊢
  refine br_if (fun hj => ?_) fun hj => H1 _ () (by omega) ?_
  rotate_left
  · have : j = i := by omega
    subst this
    rw [Int.toNat_natCast] at G2
    rw [show ((j : Int) + 1).toNat = j + 1 by omega]
    exact G2.to (by rw [flatMap_succ]; rfl) (by omega)
  have hj : j < i := by omega
  rw [wr (n := (j : Int) + 1) (by omega) (by omega)]
  refine LoopP.up2 j (fun k out (_ : Unit) => Got out (((List.range i).flatMap (refC a0) ++ (List.range j).flatMap (refB a0 i)) ++ (List.range k.toNat).flatMap (refA a0 i j)) (512 * i + 64 * j + 8 * k.toNat)) (fun again3 o3 k3 _ h30 h3n G3 H3 => ?_) (by omega) (G2.to (by simp) (by simp))
  obtain ⟨k, rfl⟩ := Int.eq_ofNat_of_zero_le h30
  dsimp only at G3 ⊢
  refine br_if (fun hk => ?_) fun hk => H2 _ () (by omega) ?_
  rotate_left
  · have : k = j := by omega
    subst this
    rw [Int.toNat_natCast] at G3
    rw [show ((k : Int) + 1).toNat = k + 1 by omega]
    exact G3.to (by rw [flatMap_succ, List.append_assoc]; rfl) (by omega)
  have hk : k < j := by omega
  rw [wr (n := (k : Int) + 1) (by omega) (by omega)]
  simp only [Int.toNat_natCast] at *
  have bi := inb (show (0 : Int) ≤ i by omega) (show (i : Int) < (a0.length : Int) by omega)
  have bj := inb (show (0 : Int) ≤ j by omega) (show (j : Int) < (a0.length : Int) by omega)
  have bk := inb (show (0 : Int) ≤ k by omega) (show (k : Int) < (a0.length : Int) by omega)
  have hs : ∀ e, Sml (rows3 a0 i j k) (ends3 a0 i j k e) := fun e => hle.sml (by omega) (by omega) (by omega) e
  refine br_must bi (br_must bj (br_must bk ?_))
  show br (w64 (det3 (rows3 a0 i j k)) == 0) _ _
  rw [(hs 0).w]
  have nx : ∀ o, Got o (((List.range i).flatMap (refC a0) ++ (List.range j).flatMap (refB a0 i)) ++ (List.range k).flatMap (refA a0 i j) ++ refA a0 i j k) (512 * i + 64 * j + 8 * k + 8) → again3 (o, (k : Int) + 1, ()) := fun o G => by
    refine H3 o () (by omega) ?_
    rw [show ((k : Int) + 1).toNat = k + 1 by omega]
    exact G.to (by rw [flatMap_succ, ← List.append_assoc]) (by omega)
  refine br_two (fun hd => nx _ ?_) fun hd => ?_
  · exact G3.to (by rw [refA, if_pos (beq_iff_eq.1 hd), List.append_nil]) (by omega)
  have hd := beq_eq_false_iff_ne.1 hd
  have hA : refA a0 i j k = (List.range 8).flatMap (candE a0 i j k) := by rw [refA, if_neg hd]
  refine LoopP.up2 8 (fun e out (_ : Unit) => Got out ((((List.range i).flatMap (refC a0) ++ (List.range j).flatMap (refB a0 i)) ++ (List.range k).flatMap (refA a0 i j)) ++ (List.range e.toNat).flatMap (candE a0 i j k)) (512 * i + 64 * j + 8 * k + e.toNat)) (fun again4 o4 e4 _ h40 h4n G4 H4 => ?_) (by omega) (G3.to (by simp) (by simp))
  obtain ⟨e, rfl⟩ := Int.eq_ofNat_of_zero_le h40
  dsimp only at G4 ⊢
  refine br_if (fun he => ?_) fun he => nx _ ?_
  rotate_left
  · have : e = 8 := by omega
    subst this
    exact G4.to (by rw [hA]; rfl) (by omega)
  have he : e < 8 := by omega
  rw [wr (n := (e : Int) + 1) (by omega) (by omega)]
  rw [Int.toNat_natCast] at G4
  have nxe : ∀ o, Got o ((((List.range i).flatMap (refC a0) ++ (List.range j).flatMap (refB a0 i)) ++ (List.range k).flatMap (refA a0 i j)) ++ (List.range e).flatMap (candE a0 i j k) ++ candE a0 i j k e) (512 * i + 64 * j + 8 * k + e + 1) → again4 (o, (e : Int) + 1, ()) := fun o G => by
    refine H4 o () (by omega) ?_
    rw [show ((e : Int) + 1).toNat = e + 1 by omega]
    exact G.to (by rw [flatMap_succ, ← List.append_assoc]) (by omega)
  refine br_must bi (br_must bj (br_must bk ?_))
  have hsol := sol1_ok hle (show i < a0.length by omega) (show j < a0.length by omega) (show k < a0.length by omega) e hd
  have key : ∀ r : V3, r = ends3 a0 i j k e → f73_pre (rows3 a0 i j k, r) ∧ br (f75 (a0, f73 (rows3 a0 i j k, r))) (f76_pre (o4, f73 (rows3 a0 i j k, r)) ∧ again4 (f76 (o4, f73 (rows3 a0 i j k, r)), (e : Int) + 1, ())) (again4 (o4, (e : Int) + 1, ())) := by
    rintro _ rfl
    have e73 : f73 (rows3 a0 i j k, ends3 a0 i j k e) = sol1 a0 i j k e := (sol1_eq hle (by omega) (by omega) (by omega) e).symm
    rw [e73]
    have hw : WFit (sol1 a0 i j k e) := wfit_le hsol.2.2 (by omega) hsol.1.den (by omega)
    have e75 : f75 (a0, sol1 a0 i j k e) = a0.all (agR · (sol1 a0 i j k e)) := rfl
    rw [e75]
    have hsz := G4.size
    refine ⟨⟨hs e, hd⟩, br_two (fun h => ⟨⟨by dsimp only; omega, G4.all, hw⟩, nxe _ ?_⟩) fun h => nxe _ ?_⟩
    · rw [candE, if_pos h]; exact G4.put hw
    · rw [candE, if_neg (by rw [h]; simp), List.append_nil]
      exact G4.to rfl (by omega)
  have pick : ∀ (r : R2) (n : Int) (m : Nat), (n ≠ 0 ↔ m % 2 = 1) → f74 (r, n) = endR r m := fun r n m h => by
    unfold f74 endR
    by_cases h2 : m % 2 = 1
    · rw [if_pos h2]; exact if_pos (h.2 h2)
    · rw [if_neg h2]; exact if_neg (fun hh => h2 (h.1 hh))
  exact key (_, _, _) (Prod.ext (pick _ _ _ (and0 ⟨e, he⟩)) (Prod.ext (pick _ _ _ (and1 ⟨e, he⟩)) (pick _ _ _ (and2 ⟨e, he⟩))))
theorem f17_fn : f17_e.fn = f17 := rfl
theorem f17_ok : EntryOK Tryz.prog 17 f17_e := by
  refine entryF progOK (EnvOK.cons f72_ok (EnvOK.cons f73_ok (EnvOK.cons f74_ok (EnvOK.cons f75_ok (EnvOK.cons f76_ok (EnvOK.nil)))))) (A := f17_A) (d := 6) Tryz.func17 rfl rfl rfl rfl (fun h => by cases h) fun x hpre => ?_
  exact f17_t x hpre _ fun _ h => h.trans (congrFun f17_fn.symm _)
end Go.Proofs.YtglijnhkdnhofaaGreat
end

section
namespace Go.Proofs.YtglijnhkdnhofaaGreat
open Go Go.Pi Go.RowKit
set_option maxRecDepth 100000
set_option linter.unusedVariables false
set_option linter.unusedSimpArgs false

def f91 (x : Int × Int × Int) : Bool := decide (x.2.1 ≤ x.1) && decide (x.1 ≤ x.2.2)
def f91_e : Entry := { doms := [(false, (.int .i64)), (false, (.int .i64)), (false, (.int .i64))], cods := [(false, .bool)], pre := fun _ => True, fn := f91, uq := false, total := true }
def f91_E : Env := []
def f91_A : Anns := { loops := [], own := [] }
theorem f91_run (a0 : Int) (a1 : Int) (a2 : Int) (K : Bool → Prop) : runF Tryz.prog f91_E f91_A 6 Tryz.f91 f91_e.doms f91_e.cods (a0, a1, a2) K =
    (br (decide (a1 ≤ a0))
    (K (decide (a0 ≤ a2)))
    (K false)) := by kernel_rfl
theorem f91_t (a0 : Int) (a1 : Int) (a2 : Int) (K : Bool → Prop) (hK : ∀ y : Bool, y = f91 (a0, a1, a2) → K y) : RunF Tryz.prog f91_E f91_A 6 Tryz.f91 f91_e.doms f91_e.cods (a0, a1, a2) K := by
  refine ⟨?_⟩
  rw [f91_run a0 a1 a2 K]
  rw [br_dec]
  exact ⟨fun h => hK _ (by simp [f91, h]), fun h => hK _ (by simp [f91, h])⟩
theorem f91_fn : f91_e.fn = f91 := rfl
theorem f91_ok : EntryOK Tryz.prog 91 f91_e := by
  refine entryF progOK (EnvOK.nil) (A := f91_A) (d := 6) Tryz.func91 rfl rfl rfl rfl (fun _ _ => trivial) fun x hpre => ?_
  obtain ⟨a0, a1, a2⟩ := x
  exact f91_t a0 a1 a2 _ fun _ h => h.trans (congrFun f91_fn.symm _)
theorem f91_t1 {a b c : Int} : f91 (a, b, c) = true ↔ b ≤ a ∧ a ≤ c := by simp [f91]
theorem f91_f1 {a b c : Int} : f91 (a, b, c) = false ↔ ¬ (b ≤ a ∧ a ≤ c) := by rw [← Bool.not_eq_true, f91_t1]
end Go.Proofs.YtglijnhkdnhofaaGreat
end

section
namespace Go.Proofs.YtglijnhkdnhofaaGreat
open Go Go.Pi Go.RowKit
set_option maxRecDepth 100000
set_option linter.unusedVariables false
set_option linter.unusedSimpArgs false

def f32 (d : Int × Int × Int) : Int := dirE d
def f32_e : Entry := { doms := [(true, (.pair (.int .i64) (.pair (.int .i64) (.int .i64))))], cods := [(false, (.int .i64))], pre := fun _ => True, fn := f32, uq := false, total := true }
def f32_E : Env := [(91, f91_e)]
def f32_A : Anns := { loops := [], own := [], unroll := 4 }
theorem f32_run (a0 : Int × Int × Int) (K : Int → Prop) : runF Tryz.prog f32_E f32_A 6 Tryz.f32 f32_e.doms f32_e.cods a0 K =
    (br (!(f91 (a0.1, ((-9), 9))))
    (K 2)
    (br (!(f91 (a0.2.1, ((-9), 9))))
    (K 2)
    (br (!(f91 (a0.2.2, ((-9), 9))))
    (K 2)
    (br ((a0.1 == 0) && ((a0.2.1 == 0) && ((a0.2.2 == 0) && true)))
    (K 11)
    (K 0))))) := by kernel_rfl
theorem f32_t (a0 : Int × Int × Int) (K : Int → Prop) (hK : ∀ y : Int, y = f32 a0 → K y) : RunF Tryz.prog f32_E f32_A 6 Tryz.f32 f32_e.doms f32_e.cods a0 K := by
  refine ⟨?_⟩
  rw [f32_run a0 K]
  have e : ∀ n : Int, f91 (n, -9, 9) = decide (-9 ≤ n ∧ n ≤ 9) := fun n => by simp [f91]
  simp only [e]
  refine br_two (fun h1 => hK _ ?_) fun h1 => br_two (fun h2 => hK _ ?_) fun h2 => br_two (fun h3 => hK _ ?_) fun h3 => br_two (fun h4 => hK _ ?_) fun h4 => hK _ ?_
  · simp only [Bool.not_eq_true', decide_eq_false_iff_not] at h1
    rw [f32, dirE, if_pos (fun h => h1 h.1)]
  · simp only [Bool.not_eq_true', decide_eq_false_iff_not] at h2
    rw [f32, dirE, if_pos (fun h => h2 h.2.1)]
  · simp only [Bool.not_eq_true', decide_eq_false_iff_not] at h3
    rw [f32, dirE, if_pos (fun h => h3 h.2.2)]
  · simp only [Bool.not_eq_false', decide_eq_true_iff] at h1 h2 h3
    rw [f32, dirE, if_neg (fun h => h ⟨h1, h2, h3⟩)]
    obtain ⟨x, y, z⟩ := a0
    simp at h4
    simp [h4]
  · simp only [Bool.not_eq_false', decide_eq_true_iff] at h1 h2 h3
    rw [f32, dirE, if_neg (fun h => h ⟨h1, h2, h3⟩)]
    obtain ⟨x, y, z⟩ := a0
    simp at h4
    rw [if_neg (by simpa using h4)]
theorem f32_fn : f32_e.fn = f32 := rfl
theorem f32_ok : EntryOK Tryz.prog 32 f32_e := by
  refine entryF progOK (EnvOK.cons f91_ok (EnvOK.nil)) (A := f32_A) (d := 6) Tryz.func32 rfl rfl rfl rfl (fun _ _ => trivial) fun x hpre => ?_
  exact f32_t x _ fun _ h => h.trans (congrFun f32_fn.symm _)
end Go.Proofs.YtglijnhkdnhofaaGreat
end

section
namespace Go.Proofs.YtglijnhkdnhofaaGreat
open Go Go.Pi Go.RowKit
set_option maxRecDepth 100000
set_option linter.unusedVariables false
set_option linter.unusedSimpArgs false

def f87 (l : List ((Int × Int × Int) × Int × Int)) : Int × Int := rdOf l
def f87_e : Entry := { doms := [(false, (.sl (.pair (.pair (.int .i64) (.pair (.int .i64) (.int .i64))) (.pair (.int .i64) (.int .i64)))))], cods := [(false, (.int .i64)), (false, (.int .i64))], pre := fun _ => True, fn := f87, uq := false, total := true }
def f87_E : Env := [(32, f32_e), (91, f91_e)]
def f87_A : Anns := { loops := [(1048576, { tms := [(0, .keep), (4, .data false (.int .i64))], obs := [], fz := [] })], own := [] }
theorem f87_run (a0 : List ((Int × Int × Int) × Int × Int)) (K : (Int × Int) → Prop) : runF Tryz.prog f87_E f87_A 6 Tryz.f87 f87_e.doms f87_e.cods a0 K =
    (br (lenOk (a0.length))
    (br (((a0.length) : Int) == 0)
    (K (0, 10))
    (br (lenOk (a0.length))
    (br (decide (((a0.length) : Int) > 6))
    (K (0, 8))
    (LoopP (V := Int × Unit) (fun again v => (fun (again1 : Int → Prop) (v1_0 : Int) =>
    br (lenOk (a0.length))
    (br (decide (v1_0 < ((a0.length) : Int)))
    (br (decide (0 ≤ v1_0) && decide (v1_0 < ((a0.length) : Int)))
    (br ((f32 (((a0.getD v1_0.toNat ((0, (0, 0)), (0, 0))).1).1, (((a0.getD v1_0.toNat ((0, (0, 0)), (0, 0))).1).2))) != 0)
    (K (v1_0, (f32 (((a0.getD v1_0.toNat ((0, (0, 0)), (0, 0))).1).1, (((a0.getD v1_0.toNat ((0, (0, 0)), (0, 0))).1).2)))))
    (br (decide (0 ≤ v1_0) && decide (v1_0 < ((a0.length) : Int)))
    (br (!(f91 (((a0.getD v1_0.toNat ((0, (0, 0)), (0, 0))).2).1, ((-10000), 10000))))
    (K (v1_0, 2))
    (br (decide (0 ≤ v1_0) && decide (v1_0 < ((a0.length) : Int)))
    (br (!(f91 (((a0.getD v1_0.toNat ((0, (0, 0)), (0, 0))).2).2, ((-10000), 10000))))
    (K (v1_0, 2))
    (br (decide (0 ≤ v1_0) && decide (v1_0 < ((a0.length) : Int)))
    (br (decide (0 ≤ v1_0) && decide (v1_0 < ((a0.length) : Int)))
    (br (decide (((a0.getD v1_0.toNat ((0, (0, 0)), (0, 0))).2).1 > ((a0.getD v1_0.toNat ((0, (0, 0)), (0, 0))).2).2))
    (K (v1_0, 9))
    (again1 (IntKind.i64.wrap (v1_0 + 1))))
    False)
    False))
    False))
    False))
    False)
    (K (0, 0)))
    True)
    (fun v1_0 => again (v1_0, ())) v.1) (0, ())))
    True))
    True) := by kernel_rfl
theorem f87_t (a0 : List ((Int × Int × Int) × Int × Int)) (K : (Int × Int) → Prop) (hK : ∀ y : Int × Int, y = f87 a0 → K y) : RunF Tryz.prog f87_E f87_A 6 Tryz.f87 f87_e.doms f87_e.cods a0 K := by
  refine ⟨?_⟩
  rw [f87_run a0 K]
  rw [br_true_, lenOk_iff]
  intro hl
  refine br_two (fun h => hK _ ?_) fun h => br_weak (br_if (fun h2 => hK _ ?_) fun h2 => ?_)
  · have h : a0.length = 0 := by have := beq_iff_eq.1 h; omega
    rw [f87, rdOf, if_pos h]
  · have h : ¬ a0.length = 0 := by have := beq_eq_false_iff_ne.1 h; omega
    rw [f87, rdOf, if_neg h, if_pos (by omega)]
  · have h0 : ¬ a0.length = 0 := by have := beq_eq_false_iff_ne.1 h; omega
    have h1 : ¬ a0.length > 6 := by omega
    refine each_loop (K := K) (n := a0.length) (e := fun i => rdE (a0.getD i rd0)) (hK _ (by rw [f87, rdOf, if_neg h0, if_neg h1])) (fun again i hi hI good bad fin => ?_)
    dsimp only
    refine br_weak (br_if (fun hlt => ?_) fun hlt => fin (by omega))
    have hlt : i < a0.length := by omega
    have b0 : (decide (0 ≤ (i : Int)) && decide ((i : Int) < (a0.length : Int))) = true := inb (by omega) (by omega)
    have e35 : ∀ n : Int, f91 (n, -10000, 10000) = decide (-10000 ≤ n ∧ n ≤ 10000) := fun n => by simp [f91]
    rw [wr (n := (i : Int) + 1) (by omega) (by omega), Int.toNat_natCast]
    generalize hx : a0.getD i ((0, 0, 0), 0, 0) = x at *
    have hx : a0.getD i rd0 = x := hx
    rw [hx] at good bad
    have hd : f32 x.1 = dirE x.1 := rfl
    refine br_must b0 (br_two (fun he => ?_) fun he => br_must b0 (br_two (fun h3 => ?_) fun h3 => br_must b0 (br_two (fun h4 => ?_) fun h4 => br_must b0 (br_must b0 (br_if (fun h5 => ?_) fun h5 => ?_)))))
    · have he : dirE x.1 ≠ 0 := bne_t.1 he
      have := bad hlt (by rw [rdE, if_pos he]; exact he)
      rwa [rdE, if_pos he] at this
    · have he : dirE x.1 = 0 := bne_f.1 he
      rw [e35] at h3
      have e : rdE x = 2 := by rw [rdE, if_neg (fun h => h he), rngE, if_pos (fun h => nd_t.1 h3 h.1)]
      have := bad hlt (by rw [e]; decide)
      rwa [e] at this
    · have he : dirE x.1 = 0 := bne_f.1 he
      rw [e35] at h4
      have e : rdE x = 2 := by rw [rdE, if_neg (fun h => h he), rngE, if_pos (fun h => nd_t.1 h4 h.2)]
      have := bad hlt (by rw [e]; decide)
      rwa [e] at this
    · have he : dirE x.1 = 0 := bne_f.1 he
      rw [e35] at h3 h4
      have e : rdE x = 9 := by rw [rdE, if_neg (fun h => h he), rngE, if_neg (fun h => h ⟨nd_f.1 h3, nd_f.1 h4⟩), if_neg (by omega)]
      have := bad hlt (by rw [e]; decide)
      rwa [e] at this
    · have he : dirE x.1 = 0 := bne_f.1 he
      rw [e35] at h3 h4
      have e : rdE x = 0 := by rw [rdE, if_neg (fun h => h he), rngE, if_neg (fun h => h ⟨nd_f.1 h3, nd_f.1 h4⟩), if_pos (by omega)]
      exact good hlt e
theorem f87_fn : f87_e.fn = f87 := rfl
theorem f87_ok : EntryOK Tryz.prog 87 f87_e := by
  refine entryF progOK (EnvOK.cons f32_ok (EnvOK.cons f91_ok (EnvOK.nil))) (A := f87_A) (d := 6) Tryz.func87 rfl rfl rfl rfl (fun _ _ => trivial) fun x hpre => ?_
  exact f87_t x _ fun _ h => h.trans (congrFun f87_fn.symm _)
end Go.Proofs.YtglijnhkdnhofaaGreat
end

section
namespace Go.Proofs.YtglijnhkdnhofaaGreat
open Go Go.Pi Go.RowKit
set_option maxRecDepth 100000
set_option linter.unusedVariables false
set_option linter.unusedSimpArgs false

def f24 (l : List ((Int × Int × Int) × Int × Int)) : Int := (rdOf l).2
def f24_e : Entry := { doms := [(false, (.sl (.pair (.pair (.int .i64) (.pair (.int .i64) (.int .i64))) (.pair (.int .i64) (.int .i64)))))], cods := [(false, (.int .i64))], pre := fun _ => True, fn := f24, uq := false, total := true }
def f24_E : Env := [(87, f87_e)]
def f24_A : Anns := { loops := [], own := [] }
theorem f24_run (a0 : List ((Int × Int × Int) × Int × Int)) (K : Int → Prop) : runF Tryz.prog f24_E f24_A 6 Tryz.f24 f24_e.doms f24_e.cods a0 K =
    (K ((f87 a0).2)) := by kernel_rfl
theorem f24_t (a0 : List ((Int × Int × Int) × Int × Int)) (K : Int → Prop) (hK : ∀ y : Int, y = f24 a0 → K y) : RunF Tryz.prog f24_E f24_A 6 Tryz.f24 f24_e.doms f24_e.cods a0 K := by
  refine ⟨?_⟩
  rw [f24_run a0 K]
  exact hK _ rfl
theorem f24_fn : f24_e.fn = f24 := rfl
theorem f24_ok : EntryOK Tryz.prog 24 f24_e := by
  refine entryF progOK (EnvOK.cons f87_ok (EnvOK.nil)) (A := f24_A) (d := 6) Tryz.func24 rfl rfl rfl rfl (fun _ _ => trivial) fun x hpre => ?_
  exact f24_t x _ fun _ h => h.trans (congrFun f24_fn.symm _)
end Go.Proofs.YtglijnhkdnhofaaGreat
end

section
namespace Go.Pi
set_option linter.unusedVariables false
abbrev z3 : V3 := (0, 0, 0)
def P1 (l : List V3) (i : Nat) : Bool := decide (l.getD i z3 ≠ z3)
def P2 (l : List V3) (i k : Nat) : Bool := decide (w3 (cross (l.getD i z3) (l.getD k z3)) ≠ z3)
def P3 (l : List V3) (i k j : Nat) : Bool := decide (w64 (det (l.getD i z3) (l.getD k z3) (l.getD j z3)) ≠ 0)
def rk3 (a b c : Bool) : Int := if c then 3 else if b then 2 else if a then 1 else 0
def any1 (l : List V3) (n : Nat) : Bool := (List.range n).any (P1 l)
def an2 (l : List V3) (i k : Nat) : Bool := (List.range k).any (P2 l i)
def any2 (l : List V3) (n : Nat) : Bool := (List.range n).any fun i => an2 l i i
def an3 (l : List V3) (i k j : Nat) : Bool := (List.range j).any (P3 l i k)
def an3' (l : List V3) (i k : Nat) : Bool := (List.range k).any fun k => an3 l i k k
def any3 (l : List V3) (n : Nat) : Bool := (List.range n).any fun i => an3' l i i
def rkR (l : List V3) : Int := rk3 (any1 l l.length) (any2 l l.length) (any3 l l.length)
theorem any_succ (f : Nat → Bool) (n : Nat) : (List.range (n + 1)).any f = ((List.range n).any f || f n) := by rw [List.range_succ, List.any_append]; simp
theorem rk3_le (a b c : Bool) : 0 ≤ rk3 a b c ∧ rk3 a b c ≤ 3 := by cases a <;> cases b <;> cases c <;> decide
theorem rk3_max1 (a b c : Bool) : max (rk3 a b c) 1 = rk3 true b c := by cases a <;> cases b <;> cases c <;> decide
theorem rk3_max2 (a b c : Bool) : max (rk3 a b c) 2 = rk3 a true c := by cases a <;> cases b <;> cases c <;> decide

/-! ### what the loops look for -/
theorem any1_iff {l : List V3} : any1 l l.length = true ↔ ∃ d ∈ l, d ≠ z3 := by
  unfold any1 P1
  simp only [List.any_eq_true, List.mem_range, decide_eq_true_eq]
  constructor
  · rintro ⟨i, hi, h⟩
    exact ⟨l.getD i z3, by rw [getD_lt hi]; exact List.getElem_mem _, h⟩
  · rintro ⟨d, hd, h⟩
    obtain ⟨i, hi, e⟩ := List.getElem_of_mem hd
    exact ⟨i, hi, by rw [getD_lt hi, e]; exact h⟩
structure Dirs (l : List V3) : Prop where
  le : ∀ d ∈ l, V3.le d 9
  ne : ∀ d ∈ l, d ≠ z3
theorem cr_w {d e : V3} (hd : V3.le d 9) (he : V3.le e 9) : w3 (cross d e) = cross d e := by
  have h := cross_le hd he
  unfold w3
  rw [w64_fit (fit_le h.1 (by omega)), w64_fit (fit_le h.2.1 (by omega)), w64_fit (fit_le h.2.2 (by omega))]
theorem det_w {d e f : V3} (hd : V3.le d 9) (he : V3.le e 9) (hf : V3.le f 9) : w64 (det d e f) = det d e f := by
  have h := det_le hd he hf
  exact w64_fit ⟨by omega, by omega⟩
theorem getD_mem3 {l : List V3} {i : Nat} (h : i < l.length) : l.getD i z3 ∈ l := by rw [getD_lt h]; exact List.getElem_mem _
theorem cross_neg {d e : V3} (h : cross d e = z3) : cross e d = z3 := by
  obtain ⟨a, b, c⟩ := d
  obtain ⟨x, y, z⟩ := e
  simp only [cross, Prod.mk.injEq] at h ⊢
  obtain ⟨h1, h2, h3⟩ := h
  refine ⟨by grind, by grind, by grind⟩
theorem cross_self (d : V3) : cross d d = z3 := by
  obtain ⟨a, b, c⟩ := d
  simp only [cross, Prod.mk.injEq]
  refine ⟨by grind, by grind, by grind⟩
theorem any2_iff {l : List V3} (h : Dirs l) : any2 l l.length = true ↔ ∃ d e, d ∈ l ∧ e ∈ l ∧ cross d e ≠ z3 := by
  unfold any2 an2 P2
  simp only [List.any_eq_true, List.mem_range, decide_eq_true_eq]
  constructor
  · rintro ⟨i, hi, k, hk, hc⟩
    have m1 := getD_mem3 hi
    have m2 := getD_mem3 (show k < l.length by omega)
    rw [cr_w (h.le _ m1) (h.le _ m2)] at hc
    exact ⟨_, _, m1, m2, hc⟩
  · rintro ⟨d, e, hd, he, hc⟩
    obtain ⟨i, hi, ei⟩ := List.getElem_of_mem hd
    obtain ⟨k, hk, ek⟩ := List.getElem_of_mem he
    have ei' : l.getD i z3 = d := by rw [getD_lt hi, ei]
    have ek' : l.getD k z3 = e := by rw [getD_lt hk, ek]
    rcases Nat.lt_trichotomy i k with hik | hik | hik
    · refine ⟨k, hk, i, hik, ?_⟩
      rw [ei', ek', cr_w (h.le _ he) (h.le _ hd)]
      exact fun hh => hc (cross_neg hh)
    · subst hik
      rw [ei'] at ek'
      subst ek'
      exact absurd (cross_self _) hc
    · refine ⟨i, hi, k, hik, ?_⟩
      rw [ei', ek', cr_w (h.le _ hd) (h.le _ he)]
      exact hc
theorem det_perm (d e f : V3) : det e d f = -det d e f ∧ det d f e = -det d e f ∧ det f e d = -det d e f ∧ det e f d = det d e f ∧ det f d e = det d e f := by
  simp only [det, dot, cross]
  refine ⟨by grind, by grind, by grind, by grind, by grind⟩
theorem det_same (d e : V3) : det d d e = 0 ∧ det d e d = 0 ∧ det e d d = 0 := by
  simp only [det, dot, cross]
  refine ⟨by grind, by grind, by grind⟩
theorem any3_iff {l : List V3} (h : Dirs l) : any3 l l.length = true ↔ ∃ d e f, d ∈ l ∧ e ∈ l ∧ f ∈ l ∧ det d e f ≠ 0 := by
  unfold any3 an3' an3 P3
  simp only [List.any_eq_true, List.mem_range, decide_eq_true_eq]
  constructor
  · rintro ⟨i, hi, k, hk, j, hj, hc⟩
    have m1 := getD_mem3 hi
    have m2 := getD_mem3 (show k < l.length by omega)
    have m3 := getD_mem3 (show j < l.length by omega)
    rw [det_w (h.le _ m1) (h.le _ m2) (h.le _ m3)] at hc
    exact ⟨_, _, _, m1, m2, m3, hc⟩
  · rintro ⟨d, e, f, hd, he, hf, hc⟩
    obtain ⟨i, hi, ei⟩ := List.getElem_of_mem hd
    obtain ⟨k, hk, ek⟩ := List.getElem_of_mem he
    obtain ⟨j, hj, ej⟩ := List.getElem_of_mem hf
    have ei' : l.getD i z3 = d := by rw [getD_lt hi, ei]
    have ek' : l.getD k z3 = e := by rw [getD_lt hk, ek]
    have ej' : l.getD j z3 = f := by rw [getD_lt hj, ej]
    obtain ⟨p1, p2, p3, p4, p5⟩ := det_perm d e f
    have fin : ∀ (a b c : Nat), a < l.length → b < a → c < b → det (l.getD a z3) (l.getD b z3) (l.getD c z3) ≠ 0 → ∃ i, i < l.length ∧ ∃ k, k < i ∧ ∃ j, j < k ∧ w64 (det (l.getD i z3) (l.getD k z3) (l.getD j z3)) ≠ 0 := fun a b c ha hb hc hn =>
      ⟨a, ha, b, hb, c, hc, by rwa [det_w (h.le _ (getD_mem3 ha)) (h.le _ (getD_mem3 (show b < l.length by omega))) (h.le _ (getD_mem3 (show c < l.length by omega)))]⟩
    have n1 : i ≠ k := fun hh => by rw [hh, ek'] at ei'; rw [← ei'] at hc; exact hc (det_same _ _).1
    have n2 : i ≠ j := fun hh => by rw [hh, ej'] at ei'; rw [← ei'] at hc; exact hc (det_same _ _).2.1
    have n3 : k ≠ j := fun hh => by rw [hh, ej'] at ek'; rw [← ek'] at hc; exact hc (det_same _ _).2.2
    rcases Nat.lt_or_ge i k with a | a
    · rcases Nat.lt_or_ge k j with b | b
      · exact fin j k i hj b a (by rw [ei', ek', ej', p3]; omega)
      · rcases Nat.lt_or_ge i j with c | c
        · exact fin k j i hk (by omega) c (by rw [ei', ek', ej', p4]; omega)
        · exact fin k i j hk a (by omega) (by rw [ei', ek', ej', p1]; omega)
    · rcases Nat.lt_or_ge k j with b | b
      · rcases Nat.lt_or_ge i j with c | c
        · exact fin j i k hj c (by omega) (by rw [ei', ek', ej', p5]; omega)
        · exact fin i j k hi (by omega) b (by rw [ei', ek', ej', p2]; omega)
      · exact fin i k j hi (by omega) (by omega) (by rw [ei', ek', ej']; omega)

/-! ### found step by step -/
def RkInv (seen : List V3) : List V3 → Prop
  | [] => seen = []
  | [a] => a ∈ seen ∧ a ≠ z3 ∧ ∀ d ∈ seen, cross a d = z3
  | [a, b] => a ∈ seen ∧ b ∈ seen ∧ cross a b ≠ z3 ∧ ∀ d ∈ seen, dot (cross a b) d = 0
  | [a, b, c] => a ∈ seen ∧ b ∈ seen ∧ c ∈ seen ∧ det a b c ≠ 0
  | _ => False
theorem dot_cr_l (a b : V3) : dot (cross a b) a = 0 ∧ dot (cross a b) b = 0 := by
  simp only [dot, cross]
  exact ⟨by grind, by grind⟩
theorem par_dot {a b d : V3} (h : cross a d = z3) : dot (cross a b) d = 0 := by
  obtain ⟨a1, a2, a3⟩ := a
  obtain ⟨b1, b2, b3⟩ := b
  obtain ⟨d1, d2, d3⟩ := d
  simp only [cross, Prod.mk.injEq] at h
  obtain ⟨h1, h2, h3⟩ := h
  simp only [dot, cross]
  grind
theorem dot_dw {a b d : V3} (ha : V3.le a 9) (hb : V3.le b 9) (hd : V3.le d 9) : w64 (dot (w3 (cross a b)) d) = dot (cross a b) d := by
  have h := dot_le (cross_le ha hb) hd
  rw [cr_w ha hb]
  exact w64_fit ⟨by omega, by omega⟩
theorem det_dot (a b c : V3) : det a b c = dot (cross a b) c := by simp only [det, dot, cross]; grind
theorem rk_inv : ∀ (l seen own : List V3), Dirs (seen ++ l) → RkInv seen own → RkInv (seen ++ l) (l.foldl rkStep own)
  | [], seen, own, _, h => by rw [List.append_nil]; exact h
  | d :: l, seen, own, hd, h => by
    have e : seen ++ d :: l = (seen ++ [d]) ++ l := by simp
    rw [List.foldl_cons, e]
    rw [e] at hd
    refine rk_inv l _ _ hd ?_
    have md : d ∈ seen ++ [d] := by simp
    have mv : ∀ x, x ∈ seen → x ∈ seen ++ [d] := fun x hx => List.mem_append_left _ hx
    have le : ∀ x, x ∈ seen ++ [d] → V3.le x 9 := fun x hx => hd.le x (List.mem_append_left _ hx)
    have cs : ∀ {P : V3 → Prop}, (∀ x ∈ seen, P x) → P d → ∀ x ∈ seen ++ [d], P x := fun h1 h2 x hx => by
      rcases List.mem_append.1 hx with hx | hx
      · exact h1 x hx
      · rw [List.mem_singleton] at hx; rw [hx]; exact h2
    match own, h with
    | [], h =>
      have h : seen = [] := h
      subst h
      exact ⟨md, hd.ne d (by simp), fun x hx => by
        have : x = d := by simpa using hx
        rw [this]; exact cross_self d⟩
    | [a], ⟨ha, hn, hc⟩ =>
      have hw := cr_w (le a (mv a ha)) (le d md)
      show RkInv _ (if w3 (cross a d) = (0, 0, 0) then [a] else [a, d])
      rw [hw]
      by_cases h0 : cross a d = (0, 0, 0)
      · rw [if_pos h0]; exact ⟨mv a ha, hn, cs hc h0⟩
      · rw [if_neg h0]; exact ⟨mv a ha, md, h0, cs (fun x hx => par_dot (hc x hx)) (dot_cr_l a d).2⟩
    | [a, b], ⟨ha, hb, hn, hc⟩ =>
      have hw := dot_dw (le a (mv a ha)) (le b (mv b hb)) (le d md)
      show RkInv _ (if w64 (dot (w3 (cross a b)) d) = 0 then [a, b] else [a, b, d])
      rw [hw]
      by_cases h0 : dot (cross a b) d = 0
      · rw [if_pos h0]; exact ⟨mv a ha, mv b hb, hn, cs hc h0⟩
      · rw [if_neg h0]; exact ⟨mv a ha, mv b hb, md, by rw [det_dot]; exact h0⟩
    | [a, b, c], ⟨ha, hb, hc, hn⟩ => exact ⟨mv a ha, mv b hb, mv c hc, hn⟩
theorem rkOwn_inv {l : List V3} (h : Dirs l) : RkInv l (rkOwn l) := rk_inv l [] [] h rfl
theorem v3_ne {n : V3} (h : n ≠ z3) : n.1 ≠ 0 ∨ n.2.1 ≠ 0 ∨ n.2.2 ≠ 0 := by
  obtain ⟨a, b, c⟩ := n
  rcases Classical.em (a = 0) with h1 | h1
  · rcases Classical.em (b = 0) with h2 | h2
    · rcases Classical.em (c = 0) with h3 | h3
      · subst h1 h2 h3; exact absurd rfl h
      · exact .inr (.inr h3)
    · exact .inr (.inl h2)
  · exact .inl h1
/-- Three vectors that are all at right angles to one. -/
theorem det_flat {n d e f : V3} (hn : n ≠ z3) (h1 : dot n d = 0) (h2 : dot n e = 0) (h3 : dot n f = 0) : det d e f = 0 := by
  obtain ⟨n1, n2, n3⟩ := n
  have k1 : det d e f * n1 = 0 := by simp only [det, dot, cross] at *; grind
  have k2 : det d e f * n2 = 0 := by simp only [det, dot, cross] at *; grind
  have k3 : det d e f * n3 = 0 := by simp only [det, dot, cross] at *; grind
  rcases v3_ne hn with h | h | h
  · exact (Int.mul_eq_zero.1 k1).resolve_right h
  · exact (Int.mul_eq_zero.1 k2).resolve_right h
  · exact (Int.mul_eq_zero.1 k3).resolve_right h
/-- Two vectors along one. -/
theorem cross_par {a d e : V3} (ha : a ≠ z3) (h1 : cross a d = z3) (h2 : cross a e = z3) : cross d e = z3 := by
  obtain ⟨a1, a2, a3⟩ := a
  obtain ⟨d1, d2, d3⟩ := d
  obtain ⟨e1, e2, e3⟩ := e
  simp only [cross, Prod.mk.injEq] at h1 h2 ⊢
  obtain ⟨p1, p2, p3⟩ := h1
  obtain ⟨q1, q2, q3⟩ := h2
  have key : ∀ {x y : Int}, x ≠ 0 → y * x = 0 → y = 0 := fun hx hy => (Int.mul_eq_zero.1 hy).resolve_right hx
  rcases v3_ne ha with h | h | h
  · exact ⟨key h (by grind), key h (by grind), key h (by grind)⟩
  · exact ⟨key h (by grind), key h (by grind), key h (by grind)⟩
  · exact ⟨key h (by grind), key h (by grind), key h (by grind)⟩
theorem det_cross0 {d e : V3} (f : V3) (h : cross d e = z3) : det d e f = 0 := by rw [det_dot, h]; simp [dot]
/-- Both ranks are the same. -/
theorem rkR_eq {l : List V3} (h : Dirs l) : rkR l = ((rkOwn l).length : Int) := by
  have hi := rkOwn_inv h
  unfold rkR
  generalize rkOwn l = own at hi
  match own, hi with
  | [], hi =>
    have hi : l = [] := hi
    subst hi; rfl
  | [a], ⟨ha, hn, hc⟩ =>
    have e3 : any3 l l.length = false := by
      rw [← Bool.not_eq_true, any3_iff h]
      rintro ⟨d, e, f, hd, he, hf, hh⟩
      exact hh (det_cross0 f (cross_par hn (hc d hd) (hc e he)))
    have e2 : any2 l l.length = false := by
      rw [← Bool.not_eq_true, any2_iff h]
      rintro ⟨d, e, hd, he, hh⟩
      exact hh (cross_par hn (hc d hd) (hc e he))
    rw [e3, e2, any1_iff.2 ⟨a, ha, hn⟩]; rfl
  | [a, b], ⟨ha, hb, hn, hc⟩ =>
    have e3 : any3 l l.length = false := by
      rw [← Bool.not_eq_true, any3_iff h]
      rintro ⟨d, e, f, hd, he, hf, hh⟩
      exact hh (det_flat hn (hc d hd) (hc e he) (hc f hf))
    rw [e3, (any2_iff h).2 ⟨a, b, ha, hb, hn⟩]; rfl
  | [a, b, c], ⟨ha, hb, hc, hn⟩ =>
    rw [(any3_iff h).2 ⟨a, b, c, ha, hb, hc, hn⟩]; rfl
end Go.Pi
end
