/- What functions of the program compute, each proved once, part 4. -/
import Derived.Test.YtglokajinehbmaaGreatPiD
import Derived.Test.YtglokajinehbmaaGreatFnA
import Derived.Test.YtglokajinehbmaaGreatFnB

section
namespace Go.Proofs.YtglokajinehbmaaGreat
open Go Go.Pi Go.RowKit
set_option maxRecDepth 100000
set_option linter.unusedVariables false
set_option linter.unusedSimpArgs false

def f35 (r : List (List Int) × List (List Int)) : Bool := decide ((r.1.length ≤ 6 ∧ r.2.length ≤ 6) ∧ (∀ x ∈ r.1, x.length ≤ 6) ∧ ∀ x ∈ r.2, x.length ≤ 6)
def f35_e : Entry := { doms := [(true, (.pair (.sl (.sl (.int .i64))) (.sl (.sl (.int .i64)))))], cods := [(false, .bool)], pre := fun _ => True, fn := f35, uq := false, total := true }
def f35_E : Env := []
def f35_A : Anns := { loops := [(1048576, { tms := [(1, .keep), (3, .data false (.int .i64))], obs := [(1048576, .keep)], fz := [] }),
  (1048578, { tms := [(1, .keep), (4, .data false (.int .i64))], obs := [(1048576, .keep)], fz := [] })], own := [] }
theorem f35_run (a0 : List (List Int) × List (List Int)) (K : Bool → Prop) : runF Tryz.prog f35_E f35_A 6 Tryz.f35 f35_e.doms f35_e.cods a0 K =
    (br (lenOk (a0.1.length))
    (br (decide (((a0.1.length) : Int) > 6))
    (K false)
    (br (lenOk (a0.2.length))
    (br (decide (((a0.2.length) : Int) > 6))
    (K false)
    (LoopP (V := Int × Unit) (fun again v => (fun (again1 : Int → Prop) (v1_0 : Int) =>
    br (lenOk (a0.1.length))
    (br (decide (v1_0 < ((a0.1.length) : Int)))
    (br (decide (0 ≤ v1_0) && decide (v1_0 < ((a0.1.length) : Int)))
    (br (lenOk ((a0.1.getD v1_0.toNat []).length))
    (br (decide ((((a0.1.getD v1_0.toNat []).length) : Int) > 6))
    (K false)
    (again1 (IntKind.i64.wrap (v1_0 + 1))))
    True)
    False)
    (LoopP (V := Int × Unit) (fun again v => (fun (again2 : Int → Prop) (v2_0 : Int) =>
    br (lenOk (a0.2.length))
    (br (decide (v2_0 < ((a0.2.length) : Int)))
    (br (decide (0 ≤ v2_0) && decide (v2_0 < ((a0.2.length) : Int)))
    (br (lenOk ((a0.2.getD v2_0.toNat []).length))
    (br (decide ((((a0.2.getD v2_0.toNat []).length) : Int) > 6))
    (K false)
    (again2 (IntKind.i64.wrap (v2_0 + 1))))
    True)
    False)
    (K true))
    True)
    (fun v2_0 => again (v2_0, ())) v.1) (0, ())))
    True)
    (fun v1_0 => again (v1_0, ())) v.1) (0, ())))
    True))
    True) := by kernel_rfl
theorem f35_t (a0 : List (List Int) × List (List Int)) (K : Bool → Prop) (hK : ∀ y : Bool, y = f35 a0 → K y) : RunF Tryz.prog f35_E f35_A 6 Tryz.f35 f35_e.doms f35_e.cods a0 K := by
  refine ⟨?_⟩
  rw [f35_run a0 K]
  have no : ¬ ((a0.1.length ≤ 6 ∧ a0.2.length ≤ 6) ∧ (∀ x ∈ a0.1, x.length ≤ 6) ∧ ∀ x ∈ a0.2, x.length ≤ 6) → K false := fun h => hK _ (decide_eq_false h).symm
  rw [br_true_]
  intro _
  rw [br_dec]
  refine ⟨fun h => no fun hh => by omega, fun h1 => ?_⟩
  rw [br_true_]
  intro _
  rw [br_dec]
  refine ⟨fun h => no fun hh => by omega, fun h2 => ?_⟩
  refine LoopP.up a0.1.length (fun i _ => ∀ x ∈ a0.1.take i.toNat, x.length ≤ 6) (fun again i v h0 hn hI hag => ?_) (by omega) all_zero
  dsimp only
  rw [br_true_]
  intro _
  rw [br_dec]
  refine ⟨fun hi => ?_, fun hi => ?_⟩
  · rw [br_false_]
    refine ⟨by simp; omega, ?_⟩
    rw [br_true_]
    intro _
    rw [br_dec]
    refine ⟨fun h => no fun hh => ?_, fun h => ?_⟩
    · have := hh.2.1 (a0.1.getD i.toNat []) (by rw [getD_lt (by omega)]; exact List.getElem_mem _)
      omega
    · rw [wr (n := i + 1) (by omega) (by omega)]
      exact hag () hi (all_step (d := []) h0 hi hI (by omega))
  · have hall := all_done hi hI
    refine LoopP.up a0.2.length (fun i _ => ∀ x ∈ a0.2.take i.toNat, x.length ≤ 6) (fun again i v h0 hn hI hag => ?_) (by omega) all_zero
    dsimp only
    rw [br_true_]
    intro _
    rw [br_dec]
    refine ⟨fun hi => ?_, fun hi => hK _ ?_⟩
    · rw [br_false_]
      refine ⟨by simp; omega, ?_⟩
      rw [br_true_]
      intro _
      rw [br_dec]
      refine ⟨fun h => no fun hh => ?_, fun h => ?_⟩
      · have := hh.2.2 (a0.2.getD i.toNat []) (by rw [getD_lt (by omega)]; exact List.getElem_mem _)
        omega
      · rw [wr (n := i + 1) (by omega) (by omega)]
        exact hag () hi (all_step (d := []) h0 hi hI (by omega))
    · unfold f35
      rw [decide_eq_true]
      exact ⟨⟨by omega, by omega⟩, hall, all_done hi hI⟩
theorem f35_fn : f35_e.fn = f35 := rfl
theorem f35_ok : EntryOK Tryz.prog 35 f35_e := by
  refine entryF progOK (EnvOK.nil) (A := f35_A) (d := 6) Tryz.func35 rfl rfl rfl rfl (fun _ _ => trivial) fun x hpre => ?_
  exact f35_t x _ fun _ h => h.trans (congrFun f35_fn.symm _)
end Go.Proofs.YtglokajinehbmaaGreat
end

section
namespace Go.Proofs.YtglokajinehbmaaGreat
open Go Go.Pi Go.RowKit
set_option maxRecDepth 100000
set_option linter.unusedVariables false
set_option linter.unusedSimpArgs false

def f36 (l : List (ByteArray × Int × Int × Int × Int)) : Bool := decide (l.length ≤ 8 ∧ ∀ a ∈ l, a.1.size ≤ 30)
def f36_e : Entry := { doms := [(false, (.sl (.pair .str (.pair (.int .i64) (.pair (.int .i64) (.pair (.int .i64) (.int .i64)))))))], cods := [(false, .bool)], pre := fun _ => True, fn := f36, uq := false, total := true }
def f36_E : Env := []
def f36_A : Anns := { loops := [(1048576, { tms := [(0, .keep), (3, .data false (.int .i64))], obs := [], fz := [] })], own := [] }
theorem f36_run (a0 : List (ByteArray × Int × Int × Int × Int)) (K : Bool → Prop) : runF Tryz.prog f36_E f36_A 6 Tryz.f36 f36_e.doms f36_e.cods a0 K =
    (br (lenOk (a0.length))
    (br (decide (((a0.length) : Int) > 8))
    (K false)
    (LoopP (V := Int × Unit) (fun again v => (fun (again1 : Int → Prop) (v1_0 : Int) =>
    br (lenOk (a0.length))
    (br (decide (v1_0 < ((a0.length) : Int)))
    (br (decide (0 ≤ v1_0) && decide (v1_0 < ((a0.length) : Int)))
    (br (decide ((((a0.getD v1_0.toNat ((⟨#[]⟩ : ByteArray), (0, (0, (0, 0))))).1).size : Int) > 30))
    (K false)
    (again1 (IntKind.i64.wrap (v1_0 + 1))))
    False)
    (K true))
    True)
    (fun v1_0 => again (v1_0, ())) v.1) (0, ())))
    True) := by kernel_rfl
theorem f36_t (a0 : List (ByteArray × Int × Int × Int × Int)) (K : Bool → Prop) (hK : ∀ y : Bool, y = f36 a0 → K y) : RunF Tryz.prog f36_E f36_A 6 Tryz.f36 f36_e.doms f36_e.cods a0 K := by
  refine ⟨?_⟩
  rw [f36_run a0 K]
  have no : ¬ (a0.length ≤ 8 ∧ ∀ a ∈ a0, a.1.size ≤ 30) → K false := fun h => hK _ (decide_eq_false h).symm
  rw [br_true_]
  intro _
  rw [br_dec]
  refine ⟨fun h => no fun hh => by omega, fun h1 => ?_⟩
  refine LoopP.up a0.length (fun i _ => ∀ x ∈ a0.take i.toNat, x.1.size ≤ 30) (fun again i v h0 hn hI hag => ?_) (by omega) all_zero
  dsimp only
  rw [br_true_]
  intro _
  rw [br_dec]
  refine ⟨fun hi => ?_, fun hi => hK _ ?_⟩
  · rw [br_false_]
    refine ⟨by simp; omega, ?_⟩
    rw [br_dec]
    refine ⟨fun h => no fun hh => ?_, fun h => ?_⟩
    · have := hh.2 (a0.getD i.toNat ((⟨#[]⟩ : ByteArray), (0, (0, (0, 0))))) (by rw [getD_lt (by omega)]; exact List.getElem_mem _)
      omega
    · rw [wr (n := i + 1) (by omega) (by omega)]
      exact hag () hi (all_step (d := ((⟨#[]⟩ : ByteArray), (0, (0, (0, 0))))) h0 hi hI (by omega))
  · unfold f36
    rw [decide_eq_true]
    exact ⟨by omega, all_done hi hI⟩
theorem f36_fn : f36_e.fn = f36 := rfl
theorem f36_ok : EntryOK Tryz.prog 36 f36_e := by
  refine entryF progOK (EnvOK.nil) (A := f36_A) (d := 6) Tryz.func36 rfl rfl rfl rfl (fun _ _ => trivial) fun x hpre => ?_
  exact f36_t x _ fun _ h => h.trans (congrFun f36_fn.symm _)
end Go.Proofs.YtglokajinehbmaaGreat
end

section
namespace Go.Proofs.YtglokajinehbmaaGreat
open Go Go.Pi Go.RowKit
set_option maxRecDepth 100000
set_option linter.unusedVariables false
set_option linter.unusedSimpArgs false

def f6 (p : (List (List Int) × List (List Int)) × List (ByteArray × Int × Int × Int × Int) × List Int) : Bool := f35 p.1 && (f36 p.2.1 && decide (p.2.2.length ≤ 8))
def f6_e : Entry := { doms := [(true, (.pair (.pair (.sl (.sl (.int .i64))) (.sl (.sl (.int .i64)))) (.pair (.sl (.pair .str (.pair (.int .i64) (.pair (.int .i64) (.pair (.int .i64) (.int .i64)))))) (.sl (.int .i64)))))], cods := [(false, .bool)], pre := fun _ => True, fn := f6, uq := false, total := true }
def f6_E : Env := [(35, f35_e), (36, f36_e)]
def f6_A : Anns := { loops := [], own := [] }
theorem f6_run (a0 : (List (List Int) × List (List Int)) × List (ByteArray × Int × Int × Int × Int) × List Int) (K : Bool → Prop) : runF Tryz.prog f6_E f6_A 6 Tryz.f6 f6_e.doms f6_e.cods a0 K =
    (br (f35 a0.1)
    (br (f36 a0.2.1)
    (br (lenOk (a0.2.2.length))
    (K (decide (((a0.2.2.length) : Int) ≤ 8)))
    True)
    (K false))
    (K false)) := by kernel_rfl
theorem f6_t (a0 : (List (List Int) × List (List Int)) × List (ByteArray × Int × Int × Int × Int) × List Int) (K : Bool → Prop) (hK : ∀ y : Bool, y = f6 a0 → K y) : RunF Tryz.prog f6_E f6_A 6 Tryz.f6 f6_e.doms f6_e.cods a0 K := by
  refine ⟨?_⟩
  rw [f6_run a0 K]
  rw [br_both]
  refine ⟨fun h1 => br_both.2 ⟨fun h2 => br_true_.2 fun _ => hK _ ?_, fun h2 => hK _ ?_⟩, fun h1 => hK _ ?_⟩
  · unfold f6
    rw [h1, h2, Bool.true_and, Bool.true_and]
    congr 1
    simp only [eq_iff_iff]
    omega
  · unfold f6
    rw [h1, h2]
    rfl
  · unfold f6
    rw [h1]
    rfl
theorem f6_fn : f6_e.fn = f6 := rfl
theorem f6_ok : EntryOK Tryz.prog 6 f6_e := by
  refine entryF progOK (EnvOK.cons f35_ok (EnvOK.cons f36_ok (EnvOK.nil))) (A := f6_A) (d := 6) Tryz.func6 rfl rfl rfl rfl (fun _ _ => trivial) fun x hpre => ?_
  exact f6_t x _ fun _ h => h.trans (congrFun f6_fn.symm _)
end Go.Proofs.YtglokajinehbmaaGreat
end

section
namespace Go.Proofs.YtglokajinehbmaaGreat
open Go Go.Pi Go.RowKit
set_option maxRecDepth 100000
set_option linter.unusedVariables false
set_option linter.unusedSimpArgs false

def f38 (x : Int × List (List (List Int) × List (List Int) × List (ByteArray × Int × Int × Int × Int) × List Int)) : Bool := f39 (x.1, 0, IntKind.i64.wrap (((x.2.getD 0 ([], [], [], [])).2.2.1.length : Int) - 1))
def f38_e : Entry := { doms := [(false, (.int .i64)), (false, (.sl (.pair (.sl (.sl (.int .i64))) (.pair (.sl (.sl (.int .i64))) (.pair (.sl (.pair .str (.pair (.int .i64) (.pair (.int .i64) (.pair (.int .i64) (.int .i64)))))) (.sl (.int .i64)))))))], cods := [(false, .bool)], pre := fun _ => True, fn := f38, uq := false, total := true, clo := true }
def f38_E : Env := [(39, f39_e)]
def f38_A : Anns := { loops := [], own := [] }
theorem f38_run (a0 : Int) (a1 : List (List (List Int) × List (List Int) × List (ByteArray × Int × Int × Int × Int) × List Int)) (K : Bool → Prop) : runC Tryz.prog f38_E f38_A 6 Tryz.f38 f38_e.doms f38_e.cods (a0, a1) K =
    (br (lenOk (((((a1.getD 0 ([], ([], ([], [])))).2).2).1).length))
    (K (f39 (a0, (0, (IntKind.i64.wrap (((((((a1.getD 0 ([], ([], ([], [])))).2).2).1).length) : Int) - 1))))))
    True) := by kernel_rfl
theorem f38_t (a0 : Int) (a1 : List (List (List Int) × List (List Int) × List (ByteArray × Int × Int × Int × Int) × List Int)) (K : Bool → Prop) (hK : ∀ y : Bool, y = f38 (a0, a1) → K y) : RunC Tryz.prog f38_E f38_A 6 Tryz.f38 f38_e.doms f38_e.cods (a0, a1) K := by
  refine ⟨?_⟩
  rw [f38_run a0 a1 K]
  rw [br_true_]
  intro _
  exact hK _ rfl
theorem f38_fn : f38_e.fn = f38 := rfl
theorem f38_ok : EntryOK Tryz.prog 38 f38_e := by
  refine entryFC progOK (EnvOK.cons f39_ok (EnvOK.nil)) (A := f38_A) (d := 6) Tryz.func38 rfl rfl rfl rfl (fun _ _ => trivial) fun x hpre => ?_
  obtain ⟨a0, a1⟩ := x
  exact f38_t a0 a1 _ fun _ h => h.trans (congrFun f38_fn.symm _)
end Go.Proofs.YtglokajinehbmaaGreat
end

section
namespace Go.Proofs.YtglokajinehbmaaGreat
open Go Go.Pi Go.RowKit
set_option maxRecDepth 100000
set_option linter.unusedVariables false
set_option linter.unusedSimpArgs false

def contL (p : Prob) : List (Int × Int) → List Int → Option (List (Int × Int))
  | out, [] => some out
  | out, a :: r => if soonF p out a > (p.2.1.getD a.toNat arrD).2.2.2.1 then none else contL p (out ++ [(a, soonF p out a)]) r
def contF (p : Prob) (fixed : List (Int × Int)) (order : List Int) : List (Int × Int) × Bool := match contL p fixed order with
  | some l => (l, true)
  | none => ([], false)
def inA (p : Prob) (a : Int) : Prop := 0 ≤ a ∧ a < p.2.1.length
theorem slotV_soon {p : Prob} (h : ProbV p) {out : List (Int × Int)} (ho : ∀ s ∈ out, slotV p s) {a : Int} (ha : inA p a) (ht : ¬ soonF p out a > (p.2.1.getD a.toNat arrD).2.2.2.1) : slotV p (a, soonF p out a) := by
  obtain ⟨a1, a2⟩ := ha
  obtain ⟨⟨_, b, _⟩, _⟩ := h.arr a.toNat (by omega)
  have := soonF_in h ⟨a1, a2⟩ ho
  have b3 := b.2.2.1
  exact ⟨⟨a1, a2⟩, by simp only; omega, by simp only; omega⟩
theorem slotsV_app {p : Prob} {out : List (Int × Int)} (ho : ∀ s ∈ out, slotV p s) {s : Int × Int} (hs : slotV p s) : ∀ x ∈ out ++ [s], slotV p x := fun x hx => by
  rcases List.mem_append.1 hx with h | h
  · exact ho x h
  · simp only [List.mem_singleton] at h
    rw [h]; exact hs
/-- A loop that places arrivals one after the other. -/
structure ContI (p : Prob) (fixed : List (Int × Int)) (order : List Int) (i : Nat) (out : List (Int × Int)) : Prop where
  le : i ≤ order.length
  eq : contL p fixed order = contL p out (order.drop i)
  ok : ∀ s ∈ out, slotV p s
  len : out.length ≤ fixed.length + i
theorem ContI.done {p : Prob} {fixed : List (Int × Int)} {order : List Int} {i : Nat} {out : List (Int × Int)} (h : ContI p fixed order i out) (hi : ¬ i < order.length) : contF p fixed order = (out, true) := by
  unfold contF
  rw [h.eq, List.drop_eq_nil_of_le (by omega)]
  rfl
theorem ContI.fail {p : Prob} {fixed : List (Int × Int)} {order : List Int} {i : Nat} {out : List (Int × Int)} (h : ContI p fixed order i out) (hi : i < order.length) (ht : soonF p out (order.getD i 0) > (p.2.1.getD (order.getD i 0).toNat arrD).2.2.2.1) : contF p fixed order = ([], false) := by
  unfold contF
  rw [getD_lt hi] at ht
  rw [h.eq, List.drop_eq_getElem_cons hi, contL, if_pos ht]
theorem ContI.next {p : Prob} {fixed : List (Int × Int)} {order : List Int} {i : Nat} {out : List (Int × Int)} (hv : ProbV p) (h : ContI p fixed order i out) (hi : i < order.length) (ha : inA p (order.getD i 0)) (ht : ¬ soonF p out (order.getD i 0) > (p.2.1.getD (order.getD i 0).toNat arrD).2.2.2.1) : ContI p fixed order (i + 1) (out ++ [(order.getD i 0, soonF p out (order.getD i 0))]) := by
  refine ⟨by omega, ?_, slotsV_app h.ok (slotV_soon hv h.ok ha ht), by have := h.len; simp; omega⟩
  rw [getD_lt hi] at ht ⊢
  rw [h.eq, List.drop_eq_getElem_cons hi, contL, if_neg ht]
def f78 (x : ((List (List Int) × List (List Int)) × List (ByteArray × Int × Int × Int × Int) × List Int) × List (Int × Int) × List Int) : List (Int × Int) × Bool := contF x.1 x.2.1 x.2.2
def f78_pre (x : ((List (List Int) × List (List Int)) × List (ByteArray × Int × Int × Int × Int) × List Int) × List (Int × Int) × List Int) : Prop := okP x.1 ∧ ((∀ s ∈ x.2.1, slotV x.1 s) ∧ x.2.1.length ≤ 1000) ∧ (∀ a ∈ x.2.2, inA x.1 a) ∧ x.2.2.length ≤ 1000
def f78_e : Entry := { doms := [(true, (.pair (.pair (.sl (.sl (.int .i64))) (.sl (.sl (.int .i64)))) (.pair (.sl (.pair .str (.pair (.int .i64) (.pair (.int .i64) (.pair (.int .i64) (.int .i64)))))) (.sl (.int .i64))))), (false, (.sl (.pair (.int .i64) (.int .i64)))), (false, (.sl (.int .i64)))], cods := [(false, (.sl (.pair (.int .i64) (.int .i64)))), (false, .bool)], pre := f78_pre, fn := f78, uq := false, total := false }
def f78_E : Env := [(55, f55_e), (103, f103_e)]
def f78_A : Anns := { loops := [(1048576, { tms := [(3, .keep), (8, .ref 1049601), (14, .keep), (15, .keep), (16, .data false (.int .i64))], obs := [(1048576, .keep), (1049601, .arr (.grow) (.pair (.int .i64) (.int .i64)))], fz := [] })], own := [1049601] }
theorem f78_run (a0 : (List (List Int) × List (List Int)) × List (ByteArray × Int × Int × Int × Int) × List Int) (a1 : List (Int × Int)) (a2 : List Int) (K : (List (Int × Int) × Bool) → Prop) : runF Tryz.prog f78_E f78_A 6 Tryz.f78 f78_e.doms f78_e.cods (a0, a1, a2) K =
    (f55_pre a1 ∧
    br (lenOk (a2.length))
    (LoopP (V := Int × List (Int × Int) × Unit) (fun again v => (fun (again1 : Int → List (Int × Int) → Prop) (v1_0 : Int) (v1_1 : List (Int × Int)) =>
    br (decide (v1_0 < ((a2.length) : Int)))
    (br (decide (0 ≤ v1_0) && decide (v1_0 < ((a2.length) : Int)))
    (f103_pre (a0, (v1_1, (a2.getD v1_0.toNat 0))) ∧
    br (decide (0 ≤ (a2.getD v1_0.toNat 0)) && decide ((a2.getD v1_0.toNat 0) < ((a0.2.1.length) : Int)))
    (br (decide ((f103 (a0, (v1_1, (a2.getD v1_0.toNat 0)))) > ((((a0.2.1.getD ((a2.getD v1_0.toNat 0).toNat) ((⟨#[]⟩ : ByteArray), (0, (0, (0, 0))))).2).2).2).1))
    (K (([] : List (Int × Int)), false))
    (br (roomOk ((v1_1.length) + 1) 16)
    (again1 (IntKind.i64.wrap (v1_0 + 1)) (v1_1 ++ ([((a2.getD v1_0.toNat 0), (f103 (a0, (v1_1, (a2.getD v1_0.toNat 0)))))] : List (Int × Int))))
    False))
    False)
    False)
    (K (v1_1, true)))
    (fun v1_0 v1_1 => again (v1_0, v1_1, ())) v.1 v.2.1) (0, (f55 a1), ()))
    True) := by kernel_rfl
theorem f78_t (a0 : (List (List Int) × List (List Int)) × List (ByteArray × Int × Int × Int × Int) × List Int) (a1 : List (Int × Int)) (a2 : List Int) (hpre : f78_pre (a0, a1, a2)) (K : (List (Int × Int) × Bool) → Prop) (hK : ∀ y : List (Int × Int) × Bool, y = f78 (a0, a1, a2) → K y) : RunF Tryz.prog f78_E f78_A 6 Tryz.f78 f78_e.doms f78_e.cods (a0, a1, a2) K := by
  refine ⟨?_⟩
  rw [f78_run a0 a1 a2 K]
  obtain ⟨h, ⟨hs, hs1⟩, ho, ho1⟩ := hpre
  simp only at h hs hs1 ho ho1
  have hv := h.v
  have hd : ((⟨#[]⟩ : ByteArray), ((0 : Int), ((0 : Int), ((0 : Int), (0 : Int))))) = arrD := rfl
  simp only [hd]
  refine ⟨show a1.length ≤ 1048576 by omega, ?_⟩
  rw [br_true_]
  intro _
  refine LoopP.of (fun q : Int × List (Int × Int) × Unit => ∃ i : Nat, q.1 = (i : Int) ∧ ContI a0 a1 a2 i q.2.1) (fun q => ((a2.length : Int) - q.1).toNat) (fun again q hq hag => ?_) ⟨0, rfl, by omega, rfl, hs, by simp only; show a1.length ≤ _; omega⟩
  obtain ⟨j, out, u⟩ := q
  obtain ⟨i, e1, hI⟩ := hq
  simp only at e1 hI
  subst e1
  dsimp only
  have hi := hI.le
  have hlen := hI.len
  rw [br_dec]
  refine ⟨fun hlt => ?_, fun hlt => hK _ ?_⟩
  · have hlt : i < a2.length := by omega
    have ha := ho (a2.getD i 0) (by rw [getD_lt hlt]; exact List.getElem_mem _)
    rw [br_false_]
    refine ⟨inb (by omega) (by omega), ?_⟩
    simp only [Int.toNat_natCast]
    refine ⟨⟨h, hI.ok, ha.1, ha.2⟩, ?_⟩
    rw [br_false_]
    refine ⟨inb ha.1 ha.2, ?_⟩
    rw [br_dec]
    refine ⟨fun ht => hK _ (hI.fail hlt ht).symm, fun ht => ?_⟩
    rw [br_false_, roomOk_iff, wr (n := (i : Int) + 1) (by omega) (by omega)]
    exact ⟨by omega, hag (_, _, ()) ⟨i + 1, by simp only; omega, hI.next hv hlt ha ht⟩ (by simp only; omega)⟩
  · rw [f78, hI.done (by omega)]
theorem f78_fn : f78_e.fn = f78 := rfl
theorem f78_ok : EntryOK Tryz.prog 78 f78_e := by
  refine entryF progOK (EnvOK.cons f55_ok (EnvOK.cons f103_ok (EnvOK.nil))) (A := f78_A) (d := 6) Tryz.func78 rfl rfl rfl rfl (fun h => by cases h) fun x hpre => ?_
  obtain ⟨a0, a1, a2⟩ := x
  exact f78_t a0 a1 a2 hpre _ fun _ h => h.trans (congrFun f78_fn.symm _)
end Go.Proofs.YtglokajinehbmaaGreat
end

section
namespace Go.Proofs.YtglokajinehbmaaGreat
set_option linter.unusedVariables false
set_option linter.unusedSimpArgs false
open Go Go.Pi
def outAt (l : List Int) (i : Nat) : List Int := l.take i ++ l.drop (i + 1)
theorem outAt_len {l : List Int} {i : Nat} (h : i < l.length) : (outAt l i).length = l.length - 1 := by
  simp only [outAt, List.length_append, List.length_take, List.length_drop]
  omega
def perms : Nat → List Int → List (List Int)
  | 0, _ => [[]]
  | n + 1, l => if l.length = 0 then [[]] else (List.range l.length).flatMap fun i => (perms n (outAt l i)).map (l.getD i 0 :: ·)
theorem perms_nil (n : Nat) : perms n [] = [[]] := by cases n <;> simp [perms]
theorem perms_fuel : ∀ (n m : Nat) (l : List Int), l.length ≤ n → l.length ≤ m → perms n l = perms m l
  | 0, m, l, h, h2 => by
    have : l = [] := List.length_eq_zero_iff.1 (by omega)
    subst this
    rw [perms_nil, perms_nil]
  | n + 1, 0, l, h, h2 => by
    have : l = [] := List.length_eq_zero_iff.1 (by omega)
    subst this
    rw [perms_nil, perms_nil]
  | n + 1, m + 1, l, h, h2 => by
    simp only [perms]
    split
    · rfl
    · unfold List.flatMap
      congr 1
      apply List.map_congr_left
      intro i hi
      have hi := List.mem_range.1 hi
      rw [perms_fuel n m _ (by rw [outAt_len hi]; omega) (by rw [outAt_len hi]; omega)]
theorem outAt_mem {l : List Int} {i : Nat} {x : Int} (h : x ∈ outAt l i) : x ∈ l := by
  rcases List.mem_append.1 h with h | h
  · exact List.mem_of_mem_take h
  · exact List.mem_of_mem_drop h
theorem perms_len : ∀ (n : Nat) (l : List Int), l.length ≤ n → ∀ o ∈ perms n l, o.length = l.length
  | 0, l, h, o, ho => by
    simp only [perms, List.mem_singleton] at ho
    subst ho
    simp only [List.length_nil]
    omega
  | n + 1, l, h, o, ho => by
    simp only [perms] at ho
    split at ho
    · simp only [List.mem_singleton] at ho
      subst ho
      simp only [List.length_nil]
      omega
    · obtain ⟨i, hi, ho⟩ := List.mem_flatMap.1 ho
      have hi := List.mem_range.1 hi
      obtain ⟨r, hr, rfl⟩ := List.mem_map.1 ho
      have := perms_len n _ (by rw [outAt_len hi]; omega) r hr
      rw [List.length_cons, this, outAt_len hi]
      omega
theorem perms_mem : ∀ (n : Nat) (l : List Int), ∀ o ∈ perms n l, ∀ x ∈ o, x ∈ l
  | 0, l, o, ho, x, hx => by
    simp only [perms, List.mem_singleton] at ho
    subst ho
    cases hx
  | n + 1, l, o, ho, x, hx => by
    simp only [perms] at ho
    split at ho
    · simp only [List.mem_singleton] at ho
      subst ho
      cases hx
    · obtain ⟨i, hi, ho⟩ := List.mem_flatMap.1 ho
      have hi := List.mem_range.1 hi
      obtain ⟨r, hr, rfl⟩ := List.mem_map.1 ho
      rcases List.mem_cons.1 hx with rfl | hx
      · rw [getD_lt hi]
        exact List.getElem_mem _
      · exact outAt_mem (perms_mem n _ r hr x hx)
/-- The orders of numbers that begin with the first so many of them. -/
def permsTo (n : Nat) (l : List Int) (i : Nat) : List (List Int) := (List.range i).flatMap fun j => (perms n (outAt l j)).map (l.getD j 0 :: ·)
theorem permsTo_zero (n : Nat) (l : List Int) : permsTo n l 0 = [] := rfl
theorem permsTo_succ (n : Nat) (l : List Int) (i : Nat) : permsTo n l (i + 1) = permsTo n l i ++ (perms n (outAt l i)).map (l.getD i 0 :: ·) := by
  simp [permsTo, List.range_succ]
theorem perms_to {n : Nat} {l : List Int} (h : l.length ≠ 0) : perms (n + 1) l = permsTo n l l.length := by
  rw [perms, if_neg h, permsTo]
theorem flat_two (l : List Int) (i : Nat) : [(l.take i).drop 0, (l.take l.length).drop (i + 1)].flatten = outAt l i := by
  simp [outAt]
def factN : Nat → Nat
  | 0 => 1
  | n + 1 => (n + 1) * factN n
theorem permsTo_count {n : Nat} {l : List Int} (ih : ∀ l' : List Int, l'.length ≤ n → (perms n l').length ≤ factN n) (h : l.length ≤ n + 1) : ∀ i, i ≤ l.length → (permsTo n l i).length ≤ i * factN n
  | 0, _ => by simp [permsTo_zero]
  | i + 1, hi => by
    have := permsTo_count ih h i (by omega)
    have h2 := ih (outAt l i) (by rw [outAt_len (by omega)]; omega)
    rw [permsTo_succ, List.length_append, List.length_map, Nat.add_mul]
    omega
theorem perms_count : ∀ (n : Nat) (l : List Int), l.length ≤ n → (perms n l).length ≤ factN n
  | 0, l, h => by simp [perms, factN]
  | n + 1, l, h => by
    by_cases h0 : l.length = 0
    · have : l = [] := List.length_eq_zero_iff.1 h0
      subst this
      rw [perms_nil]
      have : ∀ m, 1 ≤ factN m := fun m => by
        induction m with
        | zero => exact Nat.le_refl _
        | succ m ih => exact Nat.le_trans ih (Nat.le_mul_of_pos_left _ (by omega))
      exact this _
    · rw [perms_to h0]
      have := permsTo_count (perms_count n) h l.length (Nat.le_refl _)
      exact Nat.le_trans this (Nat.mul_le_mul_right _ h)
end Go.Proofs.YtglokajinehbmaaGreat
end

section
namespace Go.Proofs.YtglokajinehbmaaGreat
open Go Go.Pi Go.RowKit
set_option maxRecDepth 100000
set_option linter.unusedVariables false
set_option linter.unusedSimpArgs false

def f95 (r : List (List Int) × List (List Int)) : Int × Int := ruleOf r
def f95_e : Entry := { doms := [(true, (.pair (.sl (.sl (.int .i64))) (.sl (.sl (.int .i64)))))], cods := [(false, (.int .i64)), (false, (.int .i64))], pre := fun _ => True, fn := f95, uq := false, total := true }
def f95_E : Env := [(39, f39_e), (42, f42_e), (43, f43_e), (85, f85_e), (25, f25_e)]
def f95_A : Anns := { loops := [(1104883482624, { tms := [(1, .keep), (9, .keep), (10, .keep), (11, .data false (.int .i64))], obs := [(1048576, .keep), (1049603, .keep)], fz := [] }),
  (1214832240989632511082496, { tms := [(1, .keep), (9, .keep), (10, .keep), (11, .data false (.int .i64))], obs := [(1048576, .keep), (1049603, .keep), (1158554306974057477, .keep)], fz := [] })], own := [] }
theorem f95_run (a0 : List (List Int) × List (List Int)) (K : (Int × Int) → Prop) : runF Tryz.prog f95_E f95_A 6 Tryz.f95 f95_e.doms f95_e.cods a0 K =
    (br (lenOk (a0.1.length))
    (br (decide (((a0.1.length) : Int) > 0))
    (br (lenOk (a0.2.length))
    (br ((f42 ([(f43 ((((a0.2.length) : Int) == ((a0.1.length) : Int)), 10)), (f43 ((decide (((a0.1.length) : Int) ≤ 4)), 8))] : List Int)) != 0)
    (K (0, (f42 ([(f43 ((((a0.2.length) : Int) == ((a0.1.length) : Int)), 10)), (f43 ((decide (((a0.1.length) : Int) ≤ 4)), 8))] : List Int))))
    (br (lenOk (a0.1.length))
    (LoopP (V := Int × Unit) (fun again v => (fun (again1 : Int → Prop) (v1_0 : Int) =>
    br (decide (v1_0 < ((a0.1.length) : Int)))
    (br (decide (0 ≤ v1_0) && decide (v1_0 < ((a0.1.length) : Int)))
    (br (decide (0 ≤ v1_0) && decide (v1_0 < ((a0.2.length) : Int)))
    (br (lenOk ((a0.1.getD v1_0.toNat []).length))
    (br ((((a0.1.getD v1_0.toNat []).length) : Int) != ((a0.1.length) : Int))
    (K (v1_0, 10))
    (br (lenOk ((a0.2.getD v1_0.toNat []).length))
    (br ((((a0.2.getD v1_0.toNat []).length) : Int) != ((a0.1.length) : Int))
    (K (v1_0, 10))
    (br (lenOk ((a0.1.getD v1_0.toNat []).length))
    (LoopP (V := Int × Unit) (fun again v => (fun (again2 : Int → Prop) (v2_0 : Int) =>
    br (decide (v2_0 < (((a0.1.getD v1_0.toNat []).length) : Int)))
    (br (decide (0 ≤ v2_0) && decide (v2_0 < (((a0.1.getD v1_0.toNat []).length) : Int)))
    (br (f39 (((a0.1.getD v1_0.toNat []).getD v2_0.toNat 0), (0, 600)))
    (br (decide (0 ≤ v2_0) && decide (v2_0 < (((a0.2.getD v1_0.toNat []).length) : Int)))
    (br ((f43 ((f39 (((a0.2.getD v1_0.toNat []).getD v2_0.toNat 0), (0, ((a0.1.getD v1_0.toNat []).getD v2_0.toNat 0)))), 2)) != 0)
    (br ((f43 ((f39 (((a0.2.getD v1_0.toNat []).getD v2_0.toNat 0), (0, ((a0.1.getD v1_0.toNat []).getD v2_0.toNat 0)))), 2)) != 0)
    (K (v1_0, (f43 ((f39 (((a0.2.getD v1_0.toNat []).getD v2_0.toNat 0), (0, ((a0.1.getD v1_0.toNat []).getD v2_0.toNat 0)))), 2))))
    (again1 (IntKind.i64.wrap (v1_0 + 1))))
    (again2 (IntKind.i64.wrap (v2_0 + 1))))
    False)
    (br ((f43 (false, 2)) != 0)
    (br ((f43 (false, 2)) != 0)
    (K (v1_0, (f43 (false, 2))))
    (again1 (IntKind.i64.wrap (v1_0 + 1))))
    (again2 (IntKind.i64.wrap (v2_0 + 1)))))
    False)
    (again1 (IntKind.i64.wrap (v1_0 + 1))))
    (fun v2_0 => again (v2_0, ())) v.1) (0, ()))
    True))
    True))
    True)
    False)
    False)
    (K (0, 0)))
    (fun v1_0 => again (v1_0, ())) v.1) (0, ()))
    True))
    True)
    (br ((f42 ([(f43 (false, 10)), (f43 ((decide (((a0.1.length) : Int) ≤ 4)), 8))] : List Int)) != 0)
    (K (0, (f42 ([(f43 (false, 10)), (f43 ((decide (((a0.1.length) : Int) ≤ 4)), 8))] : List Int))))
    (br (lenOk (a0.1.length))
    (LoopP (V := Int × Unit) (fun again v => (fun (again3 : Int → Prop) (v3_0 : Int) =>
    br (decide (v3_0 < ((a0.1.length) : Int)))
    (br (decide (0 ≤ v3_0) && decide (v3_0 < ((a0.1.length) : Int)))
    (br (decide (0 ≤ v3_0) && decide (v3_0 < ((a0.2.length) : Int)))
    (br (lenOk ((a0.1.getD v3_0.toNat []).length))
    (br ((((a0.1.getD v3_0.toNat []).length) : Int) != ((a0.1.length) : Int))
    (K (v3_0, 10))
    (br (lenOk ((a0.2.getD v3_0.toNat []).length))
    (br ((((a0.2.getD v3_0.toNat []).length) : Int) != ((a0.1.length) : Int))
    (K (v3_0, 10))
    (br (lenOk ((a0.1.getD v3_0.toNat []).length))
    (LoopP (V := Int × Unit) (fun again v => (fun (again4 : Int → Prop) (v4_0 : Int) =>
    br (decide (v4_0 < (((a0.1.getD v3_0.toNat []).length) : Int)))
    (br (decide (0 ≤ v4_0) && decide (v4_0 < (((a0.1.getD v3_0.toNat []).length) : Int)))
    (br (f39 (((a0.1.getD v3_0.toNat []).getD v4_0.toNat 0), (0, 600)))
    (br (decide (0 ≤ v4_0) && decide (v4_0 < (((a0.2.getD v3_0.toNat []).length) : Int)))
    (br ((f43 ((f39 (((a0.2.getD v3_0.toNat []).getD v4_0.toNat 0), (0, ((a0.1.getD v3_0.toNat []).getD v4_0.toNat 0)))), 2)) != 0)
    (br ((f43 ((f39 (((a0.2.getD v3_0.toNat []).getD v4_0.toNat 0), (0, ((a0.1.getD v3_0.toNat []).getD v4_0.toNat 0)))), 2)) != 0)
    (K (v3_0, (f43 ((f39 (((a0.2.getD v3_0.toNat []).getD v4_0.toNat 0), (0, ((a0.1.getD v3_0.toNat []).getD v4_0.toNat 0)))), 2))))
    (again3 (IntKind.i64.wrap (v3_0 + 1))))
    (again4 (IntKind.i64.wrap (v4_0 + 1))))
    False)
    (br ((f43 (false, 2)) != 0)
    (br ((f43 (false, 2)) != 0)
    (K (v3_0, (f43 (false, 2))))
    (again3 (IntKind.i64.wrap (v3_0 + 1))))
    (again4 (IntKind.i64.wrap (v4_0 + 1)))))
    False)
    (again3 (IntKind.i64.wrap (v3_0 + 1))))
    (fun v4_0 => again (v4_0, ())) v.1) (0, ()))
    True))
    True))
    True)
    False)
    False)
    (K (0, 0)))
    (fun v3_0 => again (v3_0, ())) v.1) (0, ()))
    True)))
    True) := by kernel_rfl
theorem f95_t (a0 : List (List Int) × List (List Int)) (K : (Int × Int) → Prop) (hK : ∀ y : Int × Int, y = f95 a0 → K y) : RunF Tryz.prog f95_E f95_A 6 Tryz.f95 f95_e.doms f95_e.cods a0 K := by
  refine ⟨?_⟩
  rw [f95_run a0 K]
  have e68 : f43 (false, 2) = 2 := rfl
  have e68' : f43 (false, 10) = 10 := rfl
  -- the rows
  have rows : ¬ (a0.1.length = 0 ∨ a0.2.length ≠ a0.1.length) → ¬ a0.1.length > 4 → LoopP (V := Int × Unit) (fun again v => (fun (again1 : Int → Prop) (v1_0 : Int) =>
    br (decide (v1_0 < ((a0.1.length) : Int)))
    (br (decide (0 ≤ v1_0) && decide (v1_0 < ((a0.1.length) : Int)))
    (br (decide (0 ≤ v1_0) && decide (v1_0 < ((a0.2.length) : Int)))
    (br (lenOk ((a0.1.getD v1_0.toNat []).length))
    (br ((((a0.1.getD v1_0.toNat []).length) : Int) != ((a0.1.length) : Int))
    (K (v1_0, 10))
    (br (lenOk ((a0.2.getD v1_0.toNat []).length))
    (br ((((a0.2.getD v1_0.toNat []).length) : Int) != ((a0.1.length) : Int))
    (K (v1_0, 10))
    (br (lenOk ((a0.1.getD v1_0.toNat []).length))
    (LoopP (V := Int × Unit) (fun again v => (fun (again2 : Int → Prop) (v2_0 : Int) =>
    br (decide (v2_0 < (((a0.1.getD v1_0.toNat []).length) : Int)))
    (br (decide (0 ≤ v2_0) && decide (v2_0 < (((a0.1.getD v1_0.toNat []).length) : Int)))
    (br (f39 (((a0.1.getD v1_0.toNat []).getD v2_0.toNat 0), (0, 600)))
    (br (decide (0 ≤ v2_0) && decide (v2_0 < (((a0.2.getD v1_0.toNat []).length) : Int)))
    (br ((f43 ((f39 (((a0.2.getD v1_0.toNat []).getD v2_0.toNat 0), (0, ((a0.1.getD v1_0.toNat []).getD v2_0.toNat 0)))), 2)) != 0)
    (br ((f43 ((f39 (((a0.2.getD v1_0.toNat []).getD v2_0.toNat 0), (0, ((a0.1.getD v1_0.toNat []).getD v2_0.toNat 0)))), 2)) != 0)
    (K (v1_0, (f43 ((f39 (((a0.2.getD v1_0.toNat []).getD v2_0.toNat 0), (0, ((a0.1.getD v1_0.toNat []).getD v2_0.toNat 0)))), 2))))
    (again1 (IntKind.i64.wrap (v1_0 + 1))))
    (again2 (IntKind.i64.wrap (v2_0 + 1))))
    False)
    (br ((f43 (false, 2)) != 0)
    (br ((f43 (false, 2)) != 0)
    (K (v1_0, (f43 (false, 2))))
    (again1 (IntKind.i64.wrap (v1_0 + 1))))
    (again2 (IntKind.i64.wrap (v2_0 + 1)))))
    False)
    (again1 (IntKind.i64.wrap (v1_0 + 1))))
    (fun v2_0 => again (v2_0, ())) v.1) (0, ()))
    True))
    True))
    True)
    False)
    False)
    (K (0, 0)))
    (fun v1_0 => again (v1_0, ())) v.1) (0, ()) := by
    intro hn h4
    refine each_loop (K := K) (n := a0.1.length) (e := rowE a0) (hK _ (by rw [f95, ruleOf, if_neg hn, if_neg h4])) (fun again i hi hI good bad fin => ?_)
    dsimp only
    rw [br_dec]
    refine ⟨fun h1 => ?_, fun h1 => fin (by omega)⟩
    have hlt : i < a0.1.length := by omega
    have b0 : (decide (0 ≤ (i : Int)) && decide ((i : Int) < (a0.1.length : Int))) = true := inb (by omega) (by omega)
    have b1 : (decide (0 ≤ (i : Int)) && decide ((i : Int) < (a0.2.length : Int))) = true := inb (by omega) (by omega)
    rw [b0, b1]
    simp only [Int.toNat_natCast, br_t]
    have ten : ((a0.1.getD i []).length ≠ a0.1.length ∨ (a0.2.getD i []).length ≠ a0.1.length) → K ((i : Int), 10) := fun hc => by
      have e : rowE a0 i = 10 := if_pos hc
      have := bad hlt (by rw [e]; decide)
      rwa [e] at this
    rw [br_true_]
    intro _
    rw [br_both]
    refine ⟨fun h => ten (.inl (cast_ne.1 h)), fun h => ?_⟩
    have hA := cast_ne_f.1 h
    rw [br_true_]
    intro _
    rw [br_both]
    refine ⟨fun h => ten (.inr (cast_ne.1 h)), fun h => ?_⟩
    have hB := cast_ne_f.1 h
    rw [br_true_]
    intro _
    have hne : ¬ ((a0.1.getD i []).length ≠ a0.1.length ∨ (a0.2.getD i []).length ≠ a0.1.length) := by omega
    refine LoopP.up a0.1.length (fun k _ => ∀ j < k.toNat, rowP a0 i j) (fun again2 k v hk0 hk1 hJ hag2 => ?_) (by omega) (fun j hj => by simp at hj)
    dsimp only
    rw [br_dec]
    refine ⟨fun hk => ?_, fun hk => ?_⟩
    · have c0 : (decide (0 ≤ k) && decide (k < ((a0.1.getD i []).length : Int))) = true := inb hk0 (by omega)
      have c1 : (decide (0 ≤ k) && decide (k < ((a0.2.getD i []).length : Int))) = true := inb hk0 (by omega)
      rw [c0, c1]
      simp only [br_t, e68]
      have two : ¬ rowP a0 i k.toNat → K ((i : Int), 2) := fun hr => by
        have e : rowE a0 i = 2 := by rw [rowE, if_neg hne, if_neg fun hh => hr (hh k.toNat (by omega))]
        have := bad hlt (by rw [e]; decide)
        rwa [e] at this
      rw [br_both]
      refine ⟨fun h => ?_, fun h => ?_⟩
      · have h3 := f39_t1.1 h
        cases h5 : f39 ((a0.2.getD i []).getD k.toNat 0, 0, (a0.1.getD i []).getD k.toNat 0) with
        | false => exact two fun hr => f39_f1.1 h5 hr.2
        | true =>
          show again2 _
          rw [wr (n := k + 1) (by omega) (by omega)]
          refine hag2 () (by omega) fun j hj => ?_
          by_cases hjk : j = k.toNat
          · rw [hjk]; exact ⟨h3, f39_t1.1 h5⟩
          · exact hJ j (by omega)
      · exact two fun hr => f39_f1.1 h hr.1
    · rw [wr (n := (i : Int) + 1) (by omega) (by omega)]
      refine good hlt ?_
      rw [rowE, if_neg hne, if_pos fun j hj => hJ j (by omega)]
  simp only [e68']
  rw [br_true_]
  intro _
  rw [br_dec]
  refine ⟨fun h0 => ?_, fun h0 => hK _ ?_⟩
  · rw [br_true_]
    intro _
    have hf : f42 [f43 ((a0.2.length : Int) == (a0.1.length : Int), 10), f43 (decide ((a0.1.length : Int) ≤ 4), 8)] = if a0.2.length ≠ a0.1.length then 10 else if a0.1.length > 4 then 8 else 0 := by
      simp only [f42_cons, f42_nil, f43]
      by_cases h1 : a0.2.length = a0.1.length
      · rw [cast_eq.2 h1]
        by_cases h2 : a0.1.length > 4
        · have : ¬ ((a0.1.length : Int) ≤ 4) := by omega
          simp [h1, h2, this]
        · have : ((a0.1.length : Int) ≤ 4) := by omega
          simp [h1, h2, this]
      · rw [cast_eq_f.2 h1]
        simp [h1]
    rw [hf]
    by_cases h1 : a0.2.length ≠ a0.1.length
    · rw [if_pos h1]
      exact hK _ (by rw [f95, ruleOf, if_pos (.inr h1)])
    · rw [if_neg h1]
      by_cases h2 : a0.1.length > 4
      · rw [if_pos h2]
        exact hK _ (by rw [f95, ruleOf, if_neg (by omega), if_pos h2])
      · rw [if_neg h2]
        show br (lenOk a0.1.length) _ True
        rw [br_true_]
        intro _
        exact rows (by omega) h2
  · have : a0.1.length = 0 := by omega
    rw [f95, ruleOf, if_pos (.inl this)]
    simp only [f42_cons, f42_nil]
    simp
theorem f95_fn : f95_e.fn = f95 := rfl
theorem f95_ok : EntryOK Tryz.prog 95 f95_e := by
  refine entryF progOK (EnvOK.cons f39_ok (EnvOK.cons f42_ok (EnvOK.cons f43_ok (EnvOK.cons f85_ok (EnvOK.cons f25_ok (EnvOK.nil)))))) (A := f95_A) (d := 6) Tryz.func95 rfl rfl rfl rfl (fun _ _ => trivial) fun x hpre => ?_
  exact f95_t x _ fun _ h => h.trans (congrFun f95_fn.symm _)
end Go.Proofs.YtglokajinehbmaaGreat
end

section
namespace Go.Proofs.YtglokajinehbmaaGreat
open Go Go.Pi Go.RowKit
set_option maxRecDepth 100000
set_option linter.unusedVariables false
set_option linter.unusedSimpArgs false

def f97 (l : List (ByteArray × Int × Int × Int × Int)) : Int × Int := arrOf l
def f97_pre (l : List (ByteArray × Int × Int × Int × Int)) : Prop := ∀ a ∈ l, a.1.size ≤ 1000
theorem four_errs (n k v o : Bool) : f42 [f43 (n, 4), f43 (!k, 5), f43 (v, 2), f43 (o, 9)] = if n = false then 4 else if k = true then 5 else if v = false then 2 else if o = false then 9 else 0 := by
  cases n <;> cases k <;> cases v <;> cases o <;> rfl
def f97_e : Entry := { doms := [(false, (.sl (.pair .str (.pair (.int .i64) (.pair (.int .i64) (.pair (.int .i64) (.int .i64)))))))], cods := [(false, (.int .i64)), (false, (.int .i64))], pre := f97_pre, fn := f97, uq := false, total := false }
def f97_E : Env := [(39, f39_e), (42, f42_e), (43, f43_e), (54, f54_e), (117, f117_e), (86, f86_e)]
def f97_A : Anns := { loops := [(1102734950400, { tms := [(1, .keep), (9, .keep), (10, .keep), (11, .data false (.int .i64))], obs := [(1048576, .keep)], fz := [] }),
  (1271366842923551149262244937728, { tms := [(0, .keep), (1, .keep), (7, .keep), (8, .data false (.int .i64))], obs := [(1048576, .keep), (1102734953475, .keep), (1156301407648743424, .keep)], fz := [] })], own := [] }
theorem f97_run (a0 : List (ByteArray × Int × Int × Int × Int)) (K : (Int × Int) → Prop) : runF Tryz.prog f97_E f97_A 6 Tryz.f97 f97_e.doms f97_e.cods a0 K =
    (br (lenOk (a0.length))
    (br (decide (((a0.length) : Int) > 6))
    (K (0, 8))
    (br (lenOk (a0.length))
    (LoopP (V := Int × Unit) (fun again v => (fun (again1 : Int → Prop) (v1_0 : Int) =>
    br (decide (v1_0 < ((a0.length) : Int)))
    (br (decide (0 ≤ v1_0) && decide (v1_0 < ((a0.length) : Int)))
    (br (decide ((0 : Int) ≤ 0 ∧ 0 ≤ v1_0 ∧ v1_0 ≤ ((a0.length) : Int)))
    (br (lenOk (((a0.take v1_0.toNat).drop 0).length))
    (LoopP (V := Int × Unit) (fun again v => (fun (again2 : Int → Prop) (v2_0 : Int) =>
    br (decide (v2_0 < ((((a0.take v1_0.toNat).drop 0).length) : Int)))
    (br (decide (0 ≤ v2_0) && decide (v2_0 < ((((a0.take v1_0.toNat).drop 0).length) : Int)))
    (br (((((a0.take v1_0.toNat).drop 0).getD v2_0.toNat ((⟨#[]⟩ : ByteArray), (0, (0, (0, 0))))).1).toList == ((a0.getD v1_0.toNat ((⟨#[]⟩ : ByteArray), (0, (0, (0, 0))))).1).toList)
    (br (f39 (((a0.getD v1_0.toNat ((⟨#[]⟩ : ByteArray), (0, (0, (0, 0))))).2).1, (0, 3)))
    (br (f54 ((((a0.getD v1_0.toNat ((⟨#[]⟩ : ByteArray), (0, (0, (0, 0))))).2).2).1))
    (br (f54 (((((a0.getD v1_0.toNat ((⟨#[]⟩ : ByteArray), (0, (0, (0, 0))))).2).2).2).1))
    (f117_pre ((a0.getD v1_0.toNat ((⟨#[]⟩ : ByteArray), (0, (0, (0, 0))))).1) ∧
    br ((f42 ([(f43 ((f117 ((a0.getD v1_0.toNat ((⟨#[]⟩ : ByteArray), (0, (0, (0, 0))))).1)), 4)), (f43 ((!(decide (v2_0 ≥ 0))), 5)), (f43 ((f39 (((((a0.getD v1_0.toNat ((⟨#[]⟩ : ByteArray), (0, (0, (0, 0))))).2).2).2).2, (0, 100))), 2)), (f43 ((decide ((((a0.getD v1_0.toNat ((⟨#[]⟩ : ByteArray), (0, (0, (0, 0))))).2).2).1 ≤ ((((a0.getD v1_0.toNat ((⟨#[]⟩ : ByteArray), (0, (0, (0, 0))))).2).2).2).1)), 9))] : List Int)) != 0)
    (K (v1_0, (f42 ([(f43 ((f117 ((a0.getD v1_0.toNat ((⟨#[]⟩ : ByteArray), (0, (0, (0, 0))))).1)), 4)), (f43 ((!(decide (v2_0 ≥ 0))), 5)), (f43 ((f39 (((((a0.getD v1_0.toNat ((⟨#[]⟩ : ByteArray), (0, (0, (0, 0))))).2).2).2).2, (0, 100))), 2)), (f43 ((decide ((((a0.getD v1_0.toNat ((⟨#[]⟩ : ByteArray), (0, (0, (0, 0))))).2).2).1 ≤ ((((a0.getD v1_0.toNat ((⟨#[]⟩ : ByteArray), (0, (0, (0, 0))))).2).2).2).1)), 9))] : List Int))))
    (again1 (IntKind.i64.wrap (v1_0 + 1))))
    (f117_pre ((a0.getD v1_0.toNat ((⟨#[]⟩ : ByteArray), (0, (0, (0, 0))))).1) ∧
    br ((f42 ([(f43 ((f117 ((a0.getD v1_0.toNat ((⟨#[]⟩ : ByteArray), (0, (0, (0, 0))))).1)), 4)), (f43 ((!(decide (v2_0 ≥ 0))), 5)), (f43 (false, 2)), (f43 ((decide ((((a0.getD v1_0.toNat ((⟨#[]⟩ : ByteArray), (0, (0, (0, 0))))).2).2).1 ≤ ((((a0.getD v1_0.toNat ((⟨#[]⟩ : ByteArray), (0, (0, (0, 0))))).2).2).2).1)), 9))] : List Int)) != 0)
    (K (v1_0, (f42 ([(f43 ((f117 ((a0.getD v1_0.toNat ((⟨#[]⟩ : ByteArray), (0, (0, (0, 0))))).1)), 4)), (f43 ((!(decide (v2_0 ≥ 0))), 5)), (f43 (false, 2)), (f43 ((decide ((((a0.getD v1_0.toNat ((⟨#[]⟩ : ByteArray), (0, (0, (0, 0))))).2).2).1 ≤ ((((a0.getD v1_0.toNat ((⟨#[]⟩ : ByteArray), (0, (0, (0, 0))))).2).2).2).1)), 9))] : List Int))))
    (again1 (IntKind.i64.wrap (v1_0 + 1)))))
    (f117_pre ((a0.getD v1_0.toNat ((⟨#[]⟩ : ByteArray), (0, (0, (0, 0))))).1) ∧
    br ((f42 ([(f43 ((f117 ((a0.getD v1_0.toNat ((⟨#[]⟩ : ByteArray), (0, (0, (0, 0))))).1)), 4)), (f43 ((!(decide (v2_0 ≥ 0))), 5)), (f43 (false, 2)), (f43 ((decide ((((a0.getD v1_0.toNat ((⟨#[]⟩ : ByteArray), (0, (0, (0, 0))))).2).2).1 ≤ ((((a0.getD v1_0.toNat ((⟨#[]⟩ : ByteArray), (0, (0, (0, 0))))).2).2).2).1)), 9))] : List Int)) != 0)
    (K (v1_0, (f42 ([(f43 ((f117 ((a0.getD v1_0.toNat ((⟨#[]⟩ : ByteArray), (0, (0, (0, 0))))).1)), 4)), (f43 ((!(decide (v2_0 ≥ 0))), 5)), (f43 (false, 2)), (f43 ((decide ((((a0.getD v1_0.toNat ((⟨#[]⟩ : ByteArray), (0, (0, (0, 0))))).2).2).1 ≤ ((((a0.getD v1_0.toNat ((⟨#[]⟩ : ByteArray), (0, (0, (0, 0))))).2).2).2).1)), 9))] : List Int))))
    (again1 (IntKind.i64.wrap (v1_0 + 1)))))
    (f117_pre ((a0.getD v1_0.toNat ((⟨#[]⟩ : ByteArray), (0, (0, (0, 0))))).1) ∧
    br ((f42 ([(f43 ((f117 ((a0.getD v1_0.toNat ((⟨#[]⟩ : ByteArray), (0, (0, (0, 0))))).1)), 4)), (f43 ((!(decide (v2_0 ≥ 0))), 5)), (f43 (false, 2)), (f43 ((decide ((((a0.getD v1_0.toNat ((⟨#[]⟩ : ByteArray), (0, (0, (0, 0))))).2).2).1 ≤ ((((a0.getD v1_0.toNat ((⟨#[]⟩ : ByteArray), (0, (0, (0, 0))))).2).2).2).1)), 9))] : List Int)) != 0)
    (K (v1_0, (f42 ([(f43 ((f117 ((a0.getD v1_0.toNat ((⟨#[]⟩ : ByteArray), (0, (0, (0, 0))))).1)), 4)), (f43 ((!(decide (v2_0 ≥ 0))), 5)), (f43 (false, 2)), (f43 ((decide ((((a0.getD v1_0.toNat ((⟨#[]⟩ : ByteArray), (0, (0, (0, 0))))).2).2).1 ≤ ((((a0.getD v1_0.toNat ((⟨#[]⟩ : ByteArray), (0, (0, (0, 0))))).2).2).2).1)), 9))] : List Int))))
    (again1 (IntKind.i64.wrap (v1_0 + 1)))))
    (again2 (IntKind.i64.wrap (v2_0 + 1))))
    False)
    (br (f39 (((a0.getD v1_0.toNat ((⟨#[]⟩ : ByteArray), (0, (0, (0, 0))))).2).1, (0, 3)))
    (br (f54 ((((a0.getD v1_0.toNat ((⟨#[]⟩ : ByteArray), (0, (0, (0, 0))))).2).2).1))
    (br (f54 (((((a0.getD v1_0.toNat ((⟨#[]⟩ : ByteArray), (0, (0, (0, 0))))).2).2).2).1))
    (f117_pre ((a0.getD v1_0.toNat ((⟨#[]⟩ : ByteArray), (0, (0, (0, 0))))).1) ∧
    br ((f42 ([(f43 ((f117 ((a0.getD v1_0.toNat ((⟨#[]⟩ : ByteArray), (0, (0, (0, 0))))).1)), 4)), (f43 (true, 5)), (f43 ((f39 (((((a0.getD v1_0.toNat ((⟨#[]⟩ : ByteArray), (0, (0, (0, 0))))).2).2).2).2, (0, 100))), 2)), (f43 ((decide ((((a0.getD v1_0.toNat ((⟨#[]⟩ : ByteArray), (0, (0, (0, 0))))).2).2).1 ≤ ((((a0.getD v1_0.toNat ((⟨#[]⟩ : ByteArray), (0, (0, (0, 0))))).2).2).2).1)), 9))] : List Int)) != 0)
    (K (v1_0, (f42 ([(f43 ((f117 ((a0.getD v1_0.toNat ((⟨#[]⟩ : ByteArray), (0, (0, (0, 0))))).1)), 4)), (f43 (true, 5)), (f43 ((f39 (((((a0.getD v1_0.toNat ((⟨#[]⟩ : ByteArray), (0, (0, (0, 0))))).2).2).2).2, (0, 100))), 2)), (f43 ((decide ((((a0.getD v1_0.toNat ((⟨#[]⟩ : ByteArray), (0, (0, (0, 0))))).2).2).1 ≤ ((((a0.getD v1_0.toNat ((⟨#[]⟩ : ByteArray), (0, (0, (0, 0))))).2).2).2).1)), 9))] : List Int))))
    (again1 (IntKind.i64.wrap (v1_0 + 1))))
    (f117_pre ((a0.getD v1_0.toNat ((⟨#[]⟩ : ByteArray), (0, (0, (0, 0))))).1) ∧
    br ((f42 ([(f43 ((f117 ((a0.getD v1_0.toNat ((⟨#[]⟩ : ByteArray), (0, (0, (0, 0))))).1)), 4)), (f43 (true, 5)), (f43 (false, 2)), (f43 ((decide ((((a0.getD v1_0.toNat ((⟨#[]⟩ : ByteArray), (0, (0, (0, 0))))).2).2).1 ≤ ((((a0.getD v1_0.toNat ((⟨#[]⟩ : ByteArray), (0, (0, (0, 0))))).2).2).2).1)), 9))] : List Int)) != 0)
    (K (v1_0, (f42 ([(f43 ((f117 ((a0.getD v1_0.toNat ((⟨#[]⟩ : ByteArray), (0, (0, (0, 0))))).1)), 4)), (f43 (true, 5)), (f43 (false, 2)), (f43 ((decide ((((a0.getD v1_0.toNat ((⟨#[]⟩ : ByteArray), (0, (0, (0, 0))))).2).2).1 ≤ ((((a0.getD v1_0.toNat ((⟨#[]⟩ : ByteArray), (0, (0, (0, 0))))).2).2).2).1)), 9))] : List Int))))
    (again1 (IntKind.i64.wrap (v1_0 + 1)))))
    (f117_pre ((a0.getD v1_0.toNat ((⟨#[]⟩ : ByteArray), (0, (0, (0, 0))))).1) ∧
    br ((f42 ([(f43 ((f117 ((a0.getD v1_0.toNat ((⟨#[]⟩ : ByteArray), (0, (0, (0, 0))))).1)), 4)), (f43 (true, 5)), (f43 (false, 2)), (f43 ((decide ((((a0.getD v1_0.toNat ((⟨#[]⟩ : ByteArray), (0, (0, (0, 0))))).2).2).1 ≤ ((((a0.getD v1_0.toNat ((⟨#[]⟩ : ByteArray), (0, (0, (0, 0))))).2).2).2).1)), 9))] : List Int)) != 0)
    (K (v1_0, (f42 ([(f43 ((f117 ((a0.getD v1_0.toNat ((⟨#[]⟩ : ByteArray), (0, (0, (0, 0))))).1)), 4)), (f43 (true, 5)), (f43 (false, 2)), (f43 ((decide ((((a0.getD v1_0.toNat ((⟨#[]⟩ : ByteArray), (0, (0, (0, 0))))).2).2).1 ≤ ((((a0.getD v1_0.toNat ((⟨#[]⟩ : ByteArray), (0, (0, (0, 0))))).2).2).2).1)), 9))] : List Int))))
    (again1 (IntKind.i64.wrap (v1_0 + 1)))))
    (f117_pre ((a0.getD v1_0.toNat ((⟨#[]⟩ : ByteArray), (0, (0, (0, 0))))).1) ∧
    br ((f42 ([(f43 ((f117 ((a0.getD v1_0.toNat ((⟨#[]⟩ : ByteArray), (0, (0, (0, 0))))).1)), 4)), (f43 (true, 5)), (f43 (false, 2)), (f43 ((decide ((((a0.getD v1_0.toNat ((⟨#[]⟩ : ByteArray), (0, (0, (0, 0))))).2).2).1 ≤ ((((a0.getD v1_0.toNat ((⟨#[]⟩ : ByteArray), (0, (0, (0, 0))))).2).2).2).1)), 9))] : List Int)) != 0)
    (K (v1_0, (f42 ([(f43 ((f117 ((a0.getD v1_0.toNat ((⟨#[]⟩ : ByteArray), (0, (0, (0, 0))))).1)), 4)), (f43 (true, 5)), (f43 (false, 2)), (f43 ((decide ((((a0.getD v1_0.toNat ((⟨#[]⟩ : ByteArray), (0, (0, (0, 0))))).2).2).1 ≤ ((((a0.getD v1_0.toNat ((⟨#[]⟩ : ByteArray), (0, (0, (0, 0))))).2).2).2).1)), 9))] : List Int))))
    (again1 (IntKind.i64.wrap (v1_0 + 1))))))
    (fun v2_0 => again (v2_0, ())) v.1) (0, ()))
    True)
    False)
    False)
    (K (0, 0)))
    (fun v1_0 => again (v1_0, ())) v.1) (0, ()))
    True))
    True) := by kernel_rfl
theorem f97_t (a0 : List (ByteArray × Int × Int × Int × Int)) (hpre : f97_pre a0) (K : (Int × Int) → Prop) (hK : ∀ y : Int × Int, y = f97 a0 → K y) : RunF Tryz.prog f97_E f97_A 6 Tryz.f97 f97_e.doms f97_e.cods a0 K := by
  refine ⟨?_⟩
  rw [f97_run a0 K]
  have hd : ((⟨#[]⟩ : ByteArray), ((0 : Int), ((0 : Int), ((0 : Int), (0 : Int))))) = arrD := rfl
  simp only [hd]
  rw [br_true_]
  intro _
  rw [br_dec]
  refine ⟨fun h => hK _ ?_, fun h => ?_⟩
  · rw [f97, arrOf, if_pos (by omega)]
  have h6 : ¬ a0.length > 6 := by omega
  rw [br_true_]
  intro _
  refine each_loop (K := K) (n := a0.length) (e := arrE a0) (hK _ (by rw [f97, arrOf, if_neg h6])) (fun again i hi hI good bad fin => ?_)
  dsimp only
  rw [br_dec]
  refine ⟨fun h1 => ?_, fun h1 => fin (by omega)⟩
  have hlt : i < a0.length := by omega
  have b0 : (decide (0 ≤ (i : Int)) && decide ((i : Int) < (a0.length : Int))) = true := inb (by omega) (by omega)
  rw [b0, br_t, br_false_]
  refine ⟨by simp; omega, ?_⟩
  simp only [Int.toNat_natCast, List.drop_zero]
  have hpre77 : f117_pre (a0.getD i arrD).1 := by
    rw [getD_lt hlt]
    exact hpre _ (List.getElem_mem _)
  have htl : (a0.take i).length = i := by rw [List.length_take]; omega
  have leaf : ∀ X : Int, X = arrE a0 i → br (X != 0) (K ((i : Int), X)) (again (IntKind.i64.wrap ((i : Int) + 1), ())) := fun X hX => by
    rw [wr (n := (i : Int) + 1) (by omega) (by omega), br_both]
    subst hX
    exact ⟨fun h => bad hlt (by simpa using h), fun h => good hlt (by simpa using h)⟩
  have e77 : f117 (a0.getD i arrD).1 = nameOK (a0.getD i arrD).1 := rfl
  have e76 : ∀ n : Int, f54 n = true ↔ 0 ≤ n ∧ n ≤ 100000 := fun n => by simp [f54]
  -- what follows, known or not
  have tail : ∀ kb : Bool, kb = knownA a0 i → ∀ nk : Bool, nk = (!kb) →
      br (f39 ((a0.getD i arrD).2.1, 0, 3))
        (br (f54 (a0.getD i arrD).2.2.1)
          (br (f54 (a0.getD i arrD).2.2.2.1)
            (f117_pre (a0.getD i arrD).1 ∧ br (f42 [f43 (f117 (a0.getD i arrD).1, 4), f43 (nk, 5), f43 (f39 ((a0.getD i arrD).2.2.2.2, 0, 100), 2), f43 (decide ((a0.getD i arrD).2.2.1 ≤ (a0.getD i arrD).2.2.2.1), 9)] != 0)
              (K ((i : Int), f42 [f43 (f117 (a0.getD i arrD).1, 4), f43 (nk, 5), f43 (f39 ((a0.getD i arrD).2.2.2.2, 0, 100), 2), f43 (decide ((a0.getD i arrD).2.2.1 ≤ (a0.getD i arrD).2.2.2.1), 9)]))
              (again (IntKind.i64.wrap ((i : Int) + 1), ())))
            (f117_pre (a0.getD i arrD).1 ∧ br (f42 [f43 (f117 (a0.getD i arrD).1, 4), f43 (nk, 5), f43 (false, 2), f43 (decide ((a0.getD i arrD).2.2.1 ≤ (a0.getD i arrD).2.2.2.1), 9)] != 0)
              (K ((i : Int), f42 [f43 (f117 (a0.getD i arrD).1, 4), f43 (nk, 5), f43 (false, 2), f43 (decide ((a0.getD i arrD).2.2.1 ≤ (a0.getD i arrD).2.2.2.1), 9)]))
              (again (IntKind.i64.wrap ((i : Int) + 1), ()))))
          (f117_pre (a0.getD i arrD).1 ∧ br (f42 [f43 (f117 (a0.getD i arrD).1, 4), f43 (nk, 5), f43 (false, 2), f43 (decide ((a0.getD i arrD).2.2.1 ≤ (a0.getD i arrD).2.2.2.1), 9)] != 0)
              (K ((i : Int), f42 [f43 (f117 (a0.getD i arrD).1, 4), f43 (nk, 5), f43 (false, 2), f43 (decide ((a0.getD i arrD).2.2.1 ≤ (a0.getD i arrD).2.2.2.1), 9)]))
              (again (IntKind.i64.wrap ((i : Int) + 1), ()))))
        (f117_pre (a0.getD i arrD).1 ∧ br (f42 [f43 (f117 (a0.getD i arrD).1, 4), f43 (nk, 5), f43 (false, 2), f43 (decide ((a0.getD i arrD).2.2.1 ≤ (a0.getD i arrD).2.2.2.1), 9)] != 0)
              (K ((i : Int), f42 [f43 (f117 (a0.getD i arrD).1, 4), f43 (nk, 5), f43 (false, 2), f43 (decide ((a0.getD i arrD).2.2.1 ≤ (a0.getD i arrD).2.2.2.1), 9)]))
              (again (IntKind.i64.wrap ((i : Int) + 1), ()))) := by
    intro kb hkb nk hnk
    subst hnk
    have key : ∀ vb : Bool, (vb = true ↔ arrV (a0.getD i arrD)) → f42 [f43 (f117 (a0.getD i arrD).1, 4), f43 (!kb, 5), f43 (vb, 2), f43 (decide ((a0.getD i arrD).2.2.1 ≤ (a0.getD i arrD).2.2.2.1), 9)] = arrE a0 i := fun vb hvb => by
      rw [four_errs, e77, arrE, hkb]
      by_cases hN : nameOK (a0.getD i arrD).1 = false
      · rw [if_pos hN, if_pos hN]
      rw [if_neg hN, if_neg hN]
      by_cases hk : knownA a0 i = true
      · rw [if_pos hk, if_pos hk]
      rw [if_neg hk, if_neg hk]
      by_cases hv : arrV (a0.getD i arrD)
      · rw [hvb.2 hv, if_neg (show ¬ (true = false) by decide), if_neg (fun hh : ¬ arrV (a0.getD i arrD) => hh hv)]
        by_cases ho : (a0.getD i arrD).2.2.1 ≤ (a0.getD i arrD).2.2.2.1
        · rw [decide_eq_true ho, if_neg (show ¬ (true = false) by decide), if_neg (by omega)]
        · rw [decide_eq_false ho, if_pos rfl, if_pos (by omega)]
      · rw [if_pos (show vb = false by rw [← Bool.not_eq_true, hvb]; exact hv), if_pos hv]
    have no : ¬ arrV (a0.getD i arrD) → (false = true ↔ arrV (a0.getD i arrD)) := fun hv => ⟨fun h => (by cases h), fun h => (hv h).elim⟩
    rw [br_both]
    refine ⟨fun h1 => br_both.2 ⟨fun h2 => br_both.2 ⟨fun h3 => ⟨hpre77, leaf _ (key _ ⟨fun h4 => ⟨f39_t1.1 h1, (e76 _).1 h2, (e76 _).1 h3, f39_t1.1 h4⟩, fun hv => f39_t1.2 hv.2.2.2⟩)⟩, fun h3 => ⟨hpre77, leaf _ (key _ (no fun hv => ?_))⟩⟩, fun h2 => ⟨hpre77, leaf _ (key _ (no fun hv => ?_))⟩⟩, fun h1 => ⟨hpre77, leaf _ (key _ (no fun hv => f39_f1.1 h1 hv.1))⟩⟩
    · rw [(e76 _).2 hv.2.2.1] at h3; cases h3
    · rw [(e76 _).2 hv.2.1] at h2; cases h2
  rw [br_true_]
  intro _
  refine LoopP.up i (fun k _ => ∀ j < k.toNat, ((a0.getD j arrD).1.toList == (a0.getD i arrD).1.toList) = false) (fun again2 k v hk0 hk1 hJ hag2 => ?_) (by omega) (fun j hj => by simp at hj)
  dsimp only
  rw [htl, br_dec]
  refine ⟨fun hk => ?_, fun hk => ?_⟩
  · have hget : (a0.take i).getD k.toNat arrD = a0.getD k.toNat arrD := by
      rw [getD_lt (by omega), getD_lt (by omega), List.getElem_take]
    rw [br_false_, hget]
    refine ⟨inb hk0 hk, ?_⟩
    rw [br_both]
    refine ⟨fun he => ?_, fun he => ?_⟩
    · have hk5 : knownA a0 i = true := List.any_eq_true.2 ⟨k.toNat, List.mem_range.2 (by omega), he⟩
      have hge : (!(decide (k ≥ 0))) = false := by simp [hk0]
      rw [hge]
      exact tail true hk5.symm false rfl
    · rw [wr (n := k + 1) (by omega) (by omega)]
      refine hag2 () hk fun j hj => ?_
      by_cases hjk : j = k.toNat
      · rw [hjk]; exact he
      · exact hJ j (by omega)
  · have hk5 : knownA a0 i = false := by
      rw [← Bool.not_eq_true]
      intro hh
      obtain ⟨j, hj, he⟩ := List.any_eq_true.1 hh
      have hj := List.mem_range.1 hj
      rw [hJ j (by omega)] at he
      cases he
    exact tail false hk5.symm true rfl
theorem f97_fn : f97_e.fn = f97 := rfl
theorem f97_ok : EntryOK Tryz.prog 97 f97_e := by
  refine entryF progOK (EnvOK.cons f39_ok (EnvOK.cons f42_ok (EnvOK.cons f43_ok (EnvOK.cons f54_ok (EnvOK.cons f117_ok (EnvOK.cons f86_ok (EnvOK.nil))))))) (A := f97_A) (d := 6) Tryz.func97 rfl rfl rfl rfl (fun h => by cases h) fun x hpre => ?_
  exact f97_t x hpre _ fun _ h => h.trans (congrFun f97_fn.symm _)
end Go.Proofs.YtglokajinehbmaaGreat
end
