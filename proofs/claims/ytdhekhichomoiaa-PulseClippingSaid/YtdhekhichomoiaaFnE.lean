/- What functions of the program compute, each proved once, part 5. -/
import Derived.Test.YtdhekhichomoiaaPiC
import Derived.Test.YtdhekhichomoiaaFnA
import Derived.Test.YtdhekhichomoiaaFnD
import Derived.Test.YtdhekhichomoiaaFnB

section
namespace Go.Proofs.Ytdhekhichomoiaa
open Go Go.Pi Go.RowKit
set_option maxRecDepth 100000
set_option linter.unusedVariables false
set_option linter.unusedSimpArgs false

def enN (l : List (Int × Int)) : Nat → Int
  | 0 => 0
  | n + 1 => IntKind.i64.wrap (enN l n + f118 (l.getD n (0, 0)))
def f122 (l : List (Int × Int)) : Int := enN l l.length
def f122_e : Entry := { doms := [(false, (.sl (.pair (.int .i64) (.int .i64))))], cods := [(false, (.int .i64))], pre := fun _ => True, fn := f122, uq := false, total := true }
def f122_E : Env := [(81, f81_e), (118, f118_e)]
def f122_A : Anns := { loops := [(1048576, { tms := [(0, .keep), (3, .data false (.int .i64)), (4, .data false (.int .i64))], obs := [], fz := [] })], own := [] }
theorem f122_run (a0 : List (Int × Int)) (K : Int → Prop) : runF Try.prog f122_E f122_A 6 Try.f122 f122_e.doms f122_e.cods a0 K =
    (LoopP (V := Int × Int × Unit) (fun again v => (fun (again1 : Int → Int → Prop) (v1_0 : Int) (v1_1 : Int) =>
    br (lenOk (a0.length))
    (br (decide (v1_1 < ((a0.length) : Int)))
    (br (decide (0 ≤ v1_1) && decide (v1_1 < ((a0.length) : Int)))
    (again1 (IntKind.i64.wrap (v1_0 + (f81 (a0.getD v1_1.toNat (0, 0))))) (IntKind.i64.wrap (v1_1 + 1)))
    False)
    (K v1_0))
    True)
    (fun v1_0 v1_1 => again (v1_0, v1_1, ())) v.1 v.2.1) (0, 0, ())) := by kernel_rfl
theorem f122_t (a0 : List (Int × Int)) (K : Int → Prop) (hK : ∀ y : Int, y = f122 a0 → K y) : RunF Try.prog f122_E f122_A 6 Try.f122 f122_e.doms f122_e.cods a0 K := by
  refine ⟨?_⟩
  rw [f122_run a0 K]
  refine LoopP.up2 a0.length (fun i m _ => m = enN a0 i.toNat) (fun again m i v hi0 hn hI hag => ?_) (by omega) rfl
  dsimp only
  subst hI
  rw [br_true_, lenOk_iff]
  intro hl
  rw [br_dec]
  refine ⟨fun hi => ?_, fun hi => hK _ ?_⟩
  · rw [br_false_, wr (n := i + 1) (by omega) (by omega)]
    refine ⟨by simp only [Bool.and_eq_true, decide_eq_true_eq]; omega, hag _ _ hi ?_⟩
    rw [show (i + 1).toNat = i.toNat + 1 by omega]
    rfl
  · rw [f122, show i.toNat = a0.length by omega]
theorem f122_fn : f122_e.fn = f122 := rfl
theorem f122_ok : EntryOK Try.prog 122 f122_e := by
  refine entryF progOK (EnvOK.cons f81_ok (EnvOK.cons f118_ok (EnvOK.nil))) (A := f122_A) (d := 6) Try.func122 rfl rfl (fun _ _ => trivial) fun x hpre => ?_
  exact f122_t x _ fun _ h => h.trans (congrFun f122_fn.symm _)
end Go.Proofs.Ytdhekhichomoiaa
end

section
namespace Go.Proofs.Ytdhekhichomoiaa
open Go Go.Pi Go.RowKit
set_option maxRecDepth 100000
set_option linter.unusedVariables false
set_option linter.unusedSimpArgs false

def enE (g : Int × Int × Int × List Int) (l : List (Int × Int)) (x : Int × Int) : Int := f42 ((f34 g).2, f42 ((f33 l).2, f42 (f107 (g, x.1), f94 (f95 (x.2, 0, 8), 2))))
/-- The energy of a gate that is moved. -/
def enAt (g : Int × Int × Int × List Int) (l : List (Int × Int)) (gate later : Int) : Int := f122 (f109 (g, l, gate, later))
def enL (g : Int × Int × Int × List Int) (l : List (Int × Int)) (x : Int × Int) (n : Nat) : List Int := (List.range n).map fun (j : Nat) => enAt g l x.1 ((j : Int) - x.2)
def f67 (x : (Int × Int × Int × List Int) × List (Int × Int) × Int × Int) : (Int × Int) × Int :=
  if enE x.1 x.2.1 x.2.2 ≠ 0 then ((0, 0), enE x.1 x.2.1 x.2.2) else ((f119 (enL x.1 x.2.1 x.2.2 (2 * x.2.2.2 + 1).toNat), f120 (enL x.1 x.2.1 x.2.2 (2 * x.2.2.2 + 1).toNat)), 0)
def f67_e : Entry := { doms := [(true, (.pair (.int .i64) (.pair (.int .i64) (.pair (.int .i64) (.sl (.int .i64)))))), (false, (.sl (.pair (.int .i64) (.int .i64)))), (true, (.pair (.int .i64) (.int .i64)))], cods := [(true, (.pair (.int .i64) (.int .i64))), (false, (.int .i64))], pre := fun _ => True, fn := f67, uq := false, total := true }
def f67_E : Env := [(93, f93_e), (94, f94_e), (95, f95_e), (97, f97_e), (106, f106_e), (107, f107_e), (109, f109_e), (118, f118_e), (119, f119_e), (120, f120_e), (66, f66_e), (42, f42_e), (122, f122_e), (68, f68_e)]
def f67_A : Anns := { loops := [(1048576, { tms := [(1, .keep), (3, .keep), (5, .keep), (6, .keep), (9, .ref 1062915), (10, .data false (.int .i64))], obs := [(1048576, .keep), (1048577, .keep), (1048578, .keep), (1062915, .arr (.uniq) (.int .i64))], fz := [] }),
  (1048578, { tms := [(1, .keep), (3, .keep), (5, .keep), (6, .keep), (9, .keep), (10, .keep), (11, .data false (.int .i64)), (46, .keep), (47, .keep), (48, .data false (.int .i64))], obs := [(1048576, .keep), (1048577, .keep), (1048578, .keep), (1062915, .keep)], fz := [] })], own := [] }
theorem f67_run (a0 : Int × Int × Int × List Int) (a1 : List (Int × Int)) (a2 : Int × Int) (K : ((Int × Int) × Int) → Prop) : runF Try.prog f67_E f67_A 6 Try.f67 f67_e.doms f67_e.cods (a0, a1, a2) K =
    (br ((f93 ([(f106 a0), (f97 a1), (f107 (a0, a2.1)), (f94 ((f95 (a2.2, (0, 8))), 2))] : List Int)) != 0)
    (K ((0, 0), (f93 ([(f106 a0), (f97 a1), (f107 (a0, a2.1)), (f94 ((f95 (a2.2, (0, 8))), 2))] : List Int))))
    (LoopP (V := Int × List Int × Unit) (fun again v => (fun (again1 : Int → List Int → Prop) (v1_0 : Int) (v1_1 : List Int) =>
    br (decide (v1_0 ≤ a2.2))
    (f109_pre (a0, (a1, (a2.1, v1_0))) ∧
    br (lenOk ((f109 (a0, (a1, (a2.1, v1_0)))).length))
    (LoopP (V := Int × Int × Unit) (fun again v => (fun (again2 : Int → Int → Prop) (v2_0 : Int) (v2_1 : Int) =>
    br (decide (v2_1 < (((f109 (a0, (a1, (a2.1, v1_0)))).length) : Int)))
    (br (decide (0 ≤ v2_1) && decide (v2_1 < (((f109 (a0, (a1, (a2.1, v1_0)))).length) : Int)))
    (again2 (IntKind.i64.wrap (v2_0 + (f118 ((f109 (a0, (a1, (a2.1, v1_0)))).getD v2_1.toNat (0, 0))))) (IntKind.i64.wrap (v2_1 + 1)))
    False)
    (br (roomOk ((v1_1.length) + 1) 8)
    (again1 (IntKind.i64.wrap (v1_0 + 1)) (v1_1 ++ ([v2_0] : List Int)))
    False))
    (fun v2_0 v2_1 => again (v2_0, v2_1, ())) v.1 v.2.1) (0, 0, ()))
    True)
    (f119_pre v1_1 ∧
    f120_pre v1_1 ∧
    K (((f119 v1_1), (f120 v1_1)), 0)))
    (fun v1_0 v1_1 => again (v1_0, v1_1, ())) v.1 v.2.1) ((IntKind.i64.wrap (0 - a2.2)), ([] : List Int), ()))) := by kernel_rfl
theorem f67_t (a0 : Int × Int × Int × List Int) (a1 : List (Int × Int)) (a2 : Int × Int) (K : ((Int × Int) × Int) → Prop) (hK : ∀ y : (Int × Int) × Int, y = f67 (a0, a1, a2) → K y) : RunF Try.prog f67_E f67_A 6 Try.f67 f67_e.doms f67_e.cods (a0, a1, a2) K := by
  refine ⟨?_⟩
  rw [f67_run a0 a1 a2 K]
  have e : f93 [f106 a0, f97 a1, f107 (a0, a2.1), f94 (f95 (a2.2, 0, 8), 2)] = enE a0 a1 a2 := by
    simp only [f93_cons, f93_nil, enE, f42, f97, f106]
    by_cases h : (f34 a0).2 = 0 <;> by_cases h2 : (f33 a1).2 = 0 <;> by_cases h3 : f107 (a0, a2.1) = 0 <;> by_cases h4 : f94 (f95 (a2.2, 0, 8), 2) = 0 <;> simp [h, h2, h3, h4]
  rw [e, br_both]
  refine ⟨fun h => hK _ ?_, fun h => ?_⟩
  · have h : enE a0 a1 a2 ≠ 0 := by simpa using h
    simp only [f67]
    rw [if_pos h]
  have h : enE a0 a1 a2 = 0 := by simpa using h
  obtain ⟨hG, h2⟩ := f42_zero h
  obtain ⟨hB, h3⟩ := f42_zero h2
  obtain ⟨_, h4⟩ := f42_zero h3
  have hg := (gates_ok hG).len
  have hoff : 0 ≤ a2.2 ∧ a2.2 ≤ 8 := by
    by_cases h5 : f95 (a2.2, 0, 8) = true
    · simpa [f95] using h5
    · simp [f94, h5] at h4
  have hlen : ∀ later, (f109 (a0, a1, a2.1, later)).length = a0.2.2.2.length := fun later => by simp [f109]
  rw [wr (n := 0 - a2.2) (by omega) (by omega)]
  refine LoopP.upFrom (0 - a2.2) (a2.2 + 1) (fun i v => v.1 = enL a0 a1 a2 (i + a2.2).toNat) (fun again i v hi0 hn hI hag => ?_) ?_
  rotate_left
  · show [] = enL a0 a1 a2 (0 - a2.2 + a2.2).toNat
    rw [show (0 - a2.2 + a2.2).toNat = 0 by omega]
    rfl
  obtain ⟨v, u⟩ := v
  simp only at hI hag ⊢
  subst hI
  rw [br_dec]
  refine ⟨fun hi => ?_, fun hi => ?_⟩
  · refine ⟨by show a0.2.2.2.length ≤ _; omega, ?_⟩
    rw [br_true_]
    intro _
    refine LoopP.up2 a0.2.2.2.length (fun j m _ => m = enN (f109 (a0, a1, a2.1, i)) j.toNat) (fun again2 m j w hj0 hjn hJ hag2 => ?_) (by omega) rfl
    dsimp only
    subst hJ
    rw [hlen, br_dec]
    refine ⟨fun hj => ?_, fun hj => ?_⟩
    · rw [br_false_, wr (n := j + 1) (by omega) (by omega)]
      refine ⟨by simp only [Bool.and_eq_true, decide_eq_true_eq]; omega, hag2 _ _ hj ?_⟩
      rw [show (j + 1).toNat = j.toNat + 1 by omega]
      rfl
    · rw [br_false_, roomOk_iff, wr (n := i + 1) (by omega) (by omega)]
      have hle : (enL a0 a1 a2 (i + a2.2).toNat).length = (i + a2.2).toNat := by simp [enL]
      refine ⟨by omega, hag _ (by omega) ?_⟩
      show _ = enL a0 a1 a2 (i + 1 + a2.2).toNat
      rw [show (i + 1 + a2.2).toNat = (i + a2.2).toNat + 1 by omega, show j.toNat = (f109 (a0, a1, a2.1, i)).length by rw [hlen]; omega]
      simp only [enL, List.range_succ, List.map_append, List.map_cons, List.map_nil]
      rw [show (((i + a2.2).toNat : Nat) : Int) - a2.2 = i by omega]
      rfl
  · have hend : (i + a2.2).toNat = (2 * a2.2 + 1).toNat := by omega
    have hle : (enL a0 a1 a2 (i + a2.2).toNat).length = (i + a2.2).toNat := by simp [enL]
    have hp : f119_pre (enL a0 a1 a2 (i + a2.2).toNat) := by show 0 < (enL a0 a1 a2 _).length; omega
    refine ⟨hp, hp, hK _ ?_⟩
    simp only [f67]
    rw [if_neg (by simpa using h), hend]
theorem f67_fn : f67_e.fn = f67 := rfl
theorem f67_ok : EntryOK Try.prog 67 f67_e := by
  refine entryF progOK (EnvOK.cons f93_ok (EnvOK.cons f94_ok (EnvOK.cons f95_ok (EnvOK.cons f97_ok (EnvOK.cons f106_ok (EnvOK.cons f107_ok (EnvOK.cons f109_ok (EnvOK.cons f118_ok (EnvOK.cons f119_ok (EnvOK.cons f120_ok (EnvOK.cons f66_ok (EnvOK.cons f42_ok (EnvOK.cons f122_ok (EnvOK.cons f68_ok (EnvOK.nil))))))))))))))) (A := f67_A) (d := 6) Try.func67 rfl rfl (fun _ _ => trivial) fun x hpre => ?_
  obtain ⟨a0, a1, a2⟩ := x
  exact f67_t a0 a1 a2 _ fun _ h => h.trans (congrFun f67_fn.symm _)
end Go.Proofs.Ytdhekhichomoiaa
end

section
namespace Go.Proofs.Ytdhekhichomoiaa
open Go Go.Pi Go.RowKit
set_option maxRecDepth 100000
set_option linter.unusedVariables false
set_option linter.unusedSimpArgs false

def f45 (x : (Int × Int × Int × List Int) × List (Int × Int) × Int × Int) : List (Int × Int) := f109 x
def f45_pre (x : (Int × Int × Int × List Int) × List (Int × Int) × Int × Int) : Prop := x.1.2.2.2.length ≤ 1048576
def f45_e : Entry := { doms := [(true, (.pair (.int .i64) (.pair (.int .i64) (.pair (.int .i64) (.sl (.int .i64)))))), (false, (.sl (.pair (.int .i64) (.int .i64)))), (false, (.int .i64)), (false, (.int .i64))], cods := [(false, (.sl (.pair (.int .i64) (.int .i64))))], pre := f45_pre, fn := f45, uq := false, total := false }
def f45_E : Env := [(18, f18_e), (109, f109_e), (110, f110_e)]
def f45_A : Anns := { loops := [(1048576, { tms := [(1, .keep), (2, .keep), (3, .keep), (4, .keep), (9, .ref 1057795), (10, .data false (.int .i64))], obs := [(1048576, .keep), (1057795, .arr (.uniq) (.pair (.int .i64) (.int .i64)))], fz := [] })], own := [] }
theorem f45_run (a0 : Int × Int × Int × List Int) (a1 : List (Int × Int)) (a2 : Int) (a3 : Int) (K : (List (Int × Int)) → Prop) : runF Try.prog f45_E f45_A 6 Try.f45 f45_e.doms f45_e.cods (a0, a1, a2, a3) K =
    (LoopP (V := Int × List (Int × Int) × Unit) (fun again v => (fun (again1 : Int → List (Int × Int) → Prop) (v1_0 : Int) (v1_1 : List (Int × Int)) =>
    br (lenOk (a0.2.2.2.length))
    (br (decide (v1_0 < ((a0.2.2.2.length) : Int)))
    (br (lenOk (a1.length))
    (br (f18 ((IntKind.i64.wrap ((IntKind.i64.wrap ((IntKind.i64.wrap (a0.1 + (IntKind.i64.wrap (a2 * a0.2.1)))) + v1_0)) + a3)), (0, (IntKind.i64.wrap (((a1.length) : Int) - 1)))))
    (br (decide (0 ≤ v1_0) && decide (v1_0 < ((a0.2.2.2.length) : Int)))
    (br (decide (0 ≤ (IntKind.i64.wrap ((IntKind.i64.wrap ((IntKind.i64.wrap (a0.1 + (IntKind.i64.wrap (a2 * a0.2.1)))) + v1_0)) + a3))) && decide ((IntKind.i64.wrap ((IntKind.i64.wrap ((IntKind.i64.wrap (a0.1 + (IntKind.i64.wrap (a2 * a0.2.1)))) + v1_0)) + a3)) < ((a1.length) : Int)))
    (br (decide (0 ≤ v1_0) && decide (v1_0 < ((a0.2.2.2.length) : Int)))
    (br (decide (0 ≤ (IntKind.i64.wrap ((IntKind.i64.wrap ((IntKind.i64.wrap (a0.1 + (IntKind.i64.wrap (a2 * a0.2.1)))) + v1_0)) + a3))) && decide ((IntKind.i64.wrap ((IntKind.i64.wrap ((IntKind.i64.wrap (a0.1 + (IntKind.i64.wrap (a2 * a0.2.1)))) + v1_0)) + a3)) < ((a1.length) : Int)))
    (br (roomOk ((v1_1.length) + 1) 16)
    (again1 (IntKind.i64.wrap (v1_0 + 1)) (v1_1 ++ ([((IntKind.i64.wrap ((a0.2.2.2.getD v1_0.toNat 0) * (a1.getD ((IntKind.i64.wrap ((IntKind.i64.wrap ((IntKind.i64.wrap (a0.1 + (IntKind.i64.wrap (a2 * a0.2.1)))) + v1_0)) + a3)).toNat) (0, 0)).1)), (IntKind.i64.wrap ((a0.2.2.2.getD v1_0.toNat 0) * (a1.getD ((IntKind.i64.wrap ((IntKind.i64.wrap ((IntKind.i64.wrap (a0.1 + (IntKind.i64.wrap (a2 * a0.2.1)))) + v1_0)) + a3)).toNat) (0, 0)).2)))] : List (Int × Int))))
    False)
    False)
    False)
    False)
    False)
    (br (roomOk ((v1_1.length) + 1) 16)
    (again1 (IntKind.i64.wrap (v1_0 + 1)) (v1_1 ++ ([(0, 0)] : List (Int × Int))))
    False))
    True)
    (K v1_1))
    True)
    (fun v1_0 v1_1 => again (v1_0, v1_1, ())) v.1 v.2.1) (0, ([] : List (Int × Int)), ())) := by kernel_rfl
theorem f45_t (a0 : Int × Int × Int × List Int) (a1 : List (Int × Int)) (a2 : Int) (a3 : Int) (hpre : f45_pre (a0, a1, a2, a3)) (K : (List (Int × Int)) → Prop) (hK : ∀ y : List (Int × Int), y = f45 (a0, a1, a2, a3) → K y) : RunF Try.prog f45_E f45_A 6 Try.f45 f45_e.doms f45_e.cods (a0, a1, a2, a3) K := by
  refine ⟨?_⟩
  rw [f45_run a0 a1 a2 a3 K]
  have hpl : a0.2.2.2.length ≤ 1048576 := hpre
  have h110 : IntKind.i64.wrap (a0.1 + IntKind.i64.wrap (a2 * a0.2.1)) = f110 (a0, a2) := rfl
  rw [h110]
  refine LoopP.up a0.2.2.2.length (fun i v => v.1 = (List.range i.toNat).map (cutAt a0 a1 a2 a3)) (fun again i v hi0 hn hI hag => ?_) (by omega) rfl
  obtain ⟨v, u⟩ := v
  simp only at hI hag ⊢
  subst hI
  rw [br_true_]
  intro _
  rw [br_both]
  refine ⟨fun hi => ?_, fun hi => hK _ ?_⟩
  · simp only [decide_eq_true_eq] at hi
    have hin : (decide (0 ≤ i) && decide (i < (a0.2.2.2.length : Int))) = true := by simp only [Bool.and_eq_true, decide_eq_true_eq]; exact ⟨hi0, hi⟩
    rw [hin]
    simp only [br_t]
    rw [br_true_, lenOk_iff]
    intro hll
    rw [wr (n := (a1.length : Int) - 1) (by omega) (by omega), wr (n := i + 1) (by omega) (by omega)]
    have hroom : roomOk (((List.range i.toNat).map (cutAt a0 a1 a2 a3)).length + 1) 16 = true := by rw [roomOk_iff]; simp; omega
    have hcast : ((i.toNat : Nat) : Int) = i := Int.toNat_of_nonneg hi0
    have next : ∀ z, z = cutAt a0 a1 a2 a3 i.toNat → again (i + 1, (List.range i.toNat).map (cutAt a0 a1 a2 a3) ++ [z], ()) := fun z hz => hag _ hi (by
      show _ = (List.range (i + 1).toNat).map (cutAt a0 a1 a2 a3)
      rw [← app_step hi0, hz])
    rw [br_both]
    refine ⟨fun h => ?_, fun h => ?_⟩
    · simp only [f18, Bool.and_eq_true, decide_eq_true_eq] at h
      rw [br_false_]
      refine ⟨by simp only [Bool.and_eq_true, decide_eq_true_eq]; omega, ?_⟩
      rw [br_false_]
      refine ⟨by simp only [Bool.and_eq_true, decide_eq_true_eq]; omega, ?_⟩
      rw [hroom, br_t]
      refine next _ ?_
      unfold cutAt
      rw [hcast]
      simp only
      rw [if_pos (by omega)]
    · simp only [f18, Bool.and_eq_false_iff, decide_eq_false_iff_not] at h
      rw [hroom, br_t]
      refine next _ ?_
      unfold cutAt
      rw [hcast]
      simp only
      rw [if_neg (by omega)]
  · simp only [decide_eq_false_iff_not] at hi
    rw [f45, f109, show i.toNat = a0.2.2.2.length by omega]
theorem f45_fn : f45_e.fn = f45 := rfl
theorem f45_ok : EntryOK Try.prog 45 f45_e := by
  refine entryF progOK (EnvOK.cons f18_ok (EnvOK.cons f109_ok (EnvOK.cons f110_ok (EnvOK.nil)))) (A := f45_A) (d := 6) Try.func45 rfl rfl (fun h => by cases h) fun x hpre => ?_
  obtain ⟨a0, a1, a2, a3⟩ := x
  exact f45_t a0 a1 a2 a3 hpre _ fun _ h => h.trans (congrFun f45_fn.symm _)
end Go.Proofs.Ytdhekhichomoiaa
end

section
namespace Go.Proofs.Ytdhekhichomoiaa
open Go Go.Pi Go.RowKit
set_option maxRecDepth 100000
set_option linter.unusedVariables false
set_option linter.unusedSimpArgs false

def enM (b : Bool) (g : Int × Int × Int × List Int) (l : List (Int × Int)) (x : Int × Int) (n : Nat) : Int := mmN b (enAt g l x.1 0) (fun (j : Nat) => enAt g l x.1 ((j : Int) - x.2)) n
def f69 (x : (Int × Int × Int × List Int) × List (Int × Int) × Int × Int) : Int × Int :=
  (enM false x.1 x.2.1 x.2.2 (2 * x.2.2.2 + 1).toNat, enM true x.1 x.2.1 x.2.2 (2 * x.2.2.2 + 1).toNat)
def f69_pre (x : (Int × Int × Int × List Int) × List (Int × Int) × Int × Int) : Prop := x.1.2.2.2.length ≤ 1048576 ∧ 0 ≤ x.2.2.2 ∧ x.2.2.2 ≤ 8
def f69_e : Entry := { doms := [(true, (.pair (.int .i64) (.pair (.int .i64) (.pair (.int .i64) (.sl (.int .i64)))))), (false, (.sl (.pair (.int .i64) (.int .i64)))), (true, (.pair (.int .i64) (.int .i64)))], cods := [(true, (.pair (.int .i64) (.int .i64)))], pre := f69_pre, fn := f69, uq := false, total := false }
def f69_E : Env := [(45, f45_e), (122, f122_e), (67, f67_e), (119, f119_e), (120, f120_e), (118, f118_e)]
def f69_A : Anns := { loops := [(1048576, { tms := [(1, .keep), (3, .keep), (5, .keep), (6, .keep), (8, .keep), (9, .data false (.int .i64))], obs := [(1048576, .keep), (1048577, .keep), (1048578, .keep), (1050627, .cells [.data (.int .i64), .data (.int .i64)])], fz := [] })], own := [] }
theorem f69_run (a0 : Int × Int × Int × List Int) (a1 : List (Int × Int)) (a2 : Int × Int) (K : (Int × Int) → Prop) : runF Try.prog f69_E f69_A 6 Try.f69 f69_e.doms f69_e.cods (a0, a1, a2) K =
    (f45_pre (a0, (a1, (a2.1, 0))) ∧
    LoopP (V := Int × Int × Int × Unit) (fun again v => (fun (again1 : Int → Int → Int → Prop) (v1_0 : Int) (v1_1 : Int) (v1_2 : Int) =>
    br (decide (v1_0 ≤ a2.2))
    (f45_pre (a0, (a1, (a2.1, v1_0))) ∧
    again1 (IntKind.i64.wrap (v1_0 + 1)) (minmax false v1_1 (f122 (f45 (a0, (a1, (a2.1, v1_0)))))) (minmax true v1_2 (f122 (f45 (a0, (a1, (a2.1, v1_0)))))))
    (K (v1_1, v1_2)))
    (fun v1_0 v1_1 v1_2 => again (v1_0, v1_1, v1_2, ())) v.1 v.2.1 v.2.2.1) ((IntKind.i64.wrap (0 - a2.2)), (f122 (f45 (a0, (a1, (a2.1, 0))))), (f122 (f45 (a0, (a1, (a2.1, 0))))), ())) := by kernel_rfl
theorem f69_t (a0 : Int × Int × Int × List Int) (a1 : List (Int × Int)) (a2 : Int × Int) (hpre : f69_pre (a0, a1, a2)) (K : (Int × Int) → Prop) (hK : ∀ y : Int × Int, y = f69 (a0, a1, a2) → K y) : RunF Try.prog f69_E f69_A 6 Try.f69 f69_e.doms f69_e.cods (a0, a1, a2) K := by
  refine ⟨?_⟩
  rw [f69_run a0 a1 a2 K]
  obtain ⟨hw, h0, h8⟩ := hpre
  simp only at hw h0 h8
  have hp : ∀ later, f45_pre (a0, a1, a2.1, later) := fun later => hw
  have e45 : ∀ later, f122 (f45 (a0, a1, a2.1, later)) = enAt a0 a1 a2.1 later := fun later => rfl
  refine ⟨hp 0, ?_⟩
  simp only [e45]
  rw [wr (n := 0 - a2.2) (by omega) (by omega)]
  refine LoopP.upFrom (0 - a2.2) (a2.2 + 1) (fun i v => v.1 = enM false a0 a1 a2 (i + a2.2).toNat ∧ v.2.1 = enM true a0 a1 a2 (i + a2.2).toNat) (fun again i v hi0 hn hI hag => ?_) ?_
  rotate_left
  · show enAt a0 a1 a2.1 0 = enM false a0 a1 a2 (0 - a2.2 + a2.2).toNat ∧ enAt a0 a1 a2.1 0 = enM true a0 a1 a2 (0 - a2.2 + a2.2).toNat
    rw [show (0 - a2.2 + a2.2).toNat = 0 by omega]
    exact ⟨rfl, rfl⟩
  obtain ⟨v, w, u⟩ := v
  simp only at hI hag ⊢
  obtain ⟨hI1, hI2⟩ := hI
  subst hI1 hI2
  rw [br_dec]
  refine ⟨fun hi => ?_, fun hi => hK _ ?_⟩
  · refine ⟨hp i, ?_⟩
    rw [wr (n := i + 1) (by omega) (by omega)]
    refine hag _ (by omega) ?_
    show _ = enM false a0 a1 a2 (i + 1 + a2.2).toNat ∧ _ = enM true a0 a1 a2 (i + 1 + a2.2).toNat
    have hT : (((i + a2.2).toNat : Nat) : Int) - a2.2 = i := by omega
    rw [show (i + 1 + a2.2).toNat = (i + a2.2).toNat + 1 by omega]
    constructor
    · simp only [enM, mmN]
      rw [hT]
    · simp only [enM, mmN]
      rw [hT]
  · have hend : (i + a2.2).toNat = (2 * a2.2 + 1).toNat := by omega
    rw [hend]
    rfl
theorem f69_fn : f69_e.fn = f69 := rfl
theorem f69_ok : EntryOK Try.prog 69 f69_e := by
  refine entryF progOK (EnvOK.cons f45_ok (EnvOK.cons f122_ok (EnvOK.cons f67_ok (EnvOK.cons f119_ok (EnvOK.cons f120_ok (EnvOK.cons f118_ok (EnvOK.nil))))))) (A := f69_A) (d := 6) Try.func69 rfl rfl (fun h => by cases h) fun x hpre => ?_
  obtain ⟨a0, a1, a2⟩ := x
  exact f69_t a0 a1 a2 hpre _ fun _ h => h.trans (congrFun f69_fn.symm _)
theorem enL_len {g : Int × Int × Int × List Int} {l : List (Int × Int)} {x : Int × Int} {n : Nat} : (enL g l x n).length = n := by simp [enL]
theorem enL_get {g : Int × Int × Int × List Int} {l : List (Int × Int)} {x : Int × Int} {n j : Nat} (h : j < n) : (enL g l x n).getD j 0 = enAt g l x.1 ((j : Int) - x.2) := by
  simp only [enL]
  exact range_getD h
theorem enL_mm {g : Int × Int × Int × List Int} {l : List (Int × Int)} {x : Int × Int} (h0 : 0 ≤ x.2) (b : Bool) :
    mmN b ((enL g l x (2 * x.2 + 1).toNat).getD 0 0) (fun j => (enL g l x (2 * x.2 + 1).toNat).getD j 0) (enL g l x (2 * x.2 + 1).toNat).length = enM b g l x (2 * x.2 + 1).toNat := by
  rw [enL_len, enM]
  refine mmN_same (i := 0) (i' := x.2.toNat) (fun j hj => enL_get hj) (by omega) (by omega) rfl ?_ b
  show _ = enAt g l x.1 ((x.2.toNat : Int) - x.2)
  rw [show (x.2.toNat : Int) - x.2 = 0 by omega]
theorem enE_off {g : Int × Int × Int × List Int} {l : List (Int × Int)} {x : Int × Int} (h : enE g l x = 0) : 0 ≤ x.2 ∧ x.2 ≤ 8 := by
  obtain ⟨hG, h2⟩ := f42_zero h
  obtain ⟨hB, h3⟩ := f42_zero h2
  obtain ⟨_, h4⟩ := f42_zero h3
  by_cases h5 : f95 (x.2, 0, 8) = true
  · simpa [f95] using h5
  · simp [f94, h5] at h4
theorem enE_less {g : Int × Int × Int × List Int} {l : List (Int × Int)} {k n m : Int} (h : enE g l (k, n) = 0) (h0 : 0 ≤ m) (hm : m ≤ n) : enE g l (k, m) = 0 := by
  have h8 := enE_off h
  simp only at h8
  have e1 : f95 (m, 0, 8) = true := by simp [f95]; omega
  have e2 : f95 (n, 0, 8) = true := by simp [f95]; omega
  simpa [enE, e1, e2] using h
theorem f67_eq {g : Int × Int × Int × List Int} {l : List (Int × Int)} {x : Int × Int} (h : enE g l x = 0) : f67 (g, l, x) = (f69 (g, l, x), 0) := by
  have h8 := enE_off h
  simp only [f67]
  rw [if_neg (fun hh => hh h), f119, f120, enL_mm h8.1, enL_mm h8.1]
  rfl
theorem f69_less {g : Int × Int × Int × List Int} {l : List (Int × Int)} {k n m : Int} (h0 : 0 ≤ m) (hm : m ≤ n) :
    (f69 (g, l, k, n)).1 ≤ (f69 (g, l, k, m)).1 ∧ (f69 (g, l, k, m)).2 ≤ (f69 (g, l, k, n)).2 := by
  have := mmN_less (s := enAt g l k 0) (s' := enAt g l k 0) (e := fun (j : Nat) => enAt g l k ((j : Int) - n)) (e' := fun (j : Nat) => enAt g l k ((j : Int) - m)) (n := (2 * n + 1).toNat) (n' := (2 * m + 1).toNat) (d := (n - m).toNat) (i' := m.toNat)
    (fun j hj => by congr 1; omega) (by omega) (by omega) (by congr 1; omega)
  exact this
end Go.Proofs.Ytdhekhichomoiaa
end
