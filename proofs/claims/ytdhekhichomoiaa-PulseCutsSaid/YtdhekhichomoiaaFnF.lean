/- What functions of the program compute, each proved once, part 6. -/
import Derived.Test.YtdhekhichomoiaaPiC
import Derived.Test.YtdhekhichomoiaaFnA
import Derived.Test.YtdhekhichomoiaaFnB
import Derived.Test.YtdhekhichomoiaaFnD
import Derived.Test.YtdhekhichomoiaaFnE

section
namespace Go.Proofs.Ytdhekhichomoiaa
open Go Go.Pi Go.RowKit
set_option maxRecDepth 100000
set_option linter.unusedVariables false
set_option linter.unusedSimpArgs false

def spE (g : Int × Int × Int × List Int) (bl : List (List (Int × Int))) (k : Int) : Int := f42 ((f34 g).2, f61 (g, bl, k))
def f59 (x : (Int × Int × Int × List Int) × List (List (Int × Int)) × Int) : (Int × Int × Int × Int) × Int :=
  if spE x.1 x.2.1 x.2.2 ≠ 0 then ((0, 0, 0, 0), spE x.1 x.2.1 x.2.2) else (f62 x, 0)
def f59_pre (x : (Int × Int × Int × List Int) × List (List (Int × Int)) × Int) : Prop := x.1.2.2.2.length ≤ 1048576
theorem f93_two (a b : Int) : f93 [a, b] = f42 (a, b) := by
  simp only [f93_cons, f93_nil, f42]
  by_cases h : a = 0 <;> by_cases h2 : b = 0 <;> simp [h, h2]
theorem f42_assoc (a b c : Int) : f42 (f42 (a, b), c) = f42 (a, f42 (b, c)) := by
  simp only [f42]
  by_cases h : a = 0 <;> by_cases h2 : b = 0 <;> simp [h, h2]
theorem f42_step {α : Type} {f : α → Int} {l : List α} {d : α} {i : Int} (e : Int) (h0 : 0 ≤ i) (hi : i < l.length) :
    f42 (f42 (e, firstErr f (l.take i.toNat)), f (l.getD i.toNat d)) = f42 (e, firstErr f (l.take (i + 1).toNat)) := by
  rw [firstErr_take (d := d) h0 hi, f42_assoc]
  rfl
def f59_e : Entry := { doms := [(true, (.pair (.int .i64) (.pair (.int .i64) (.pair (.int .i64) (.sl (.int .i64)))))), (false, (.sl (.sl (.pair (.int .i64) (.int .i64))))), (false, (.int .i64))], cods := [(true, (.pair (.int .i64) (.pair (.int .i64) (.pair (.int .i64) (.int .i64))))), (false, (.int .i64))], pre := f59_pre, fn := f59, uq := false, total := false }
def f59_E : Env := [(93, f93_e), (94, f94_e), (97, f97_e), (106, f106_e), (107, f107_e), (108, f108_e), (109, f109_e), (113, f113_e), (116, f116_e), (62, f62_e), (61, f61_e)]
def f59_A : Anns := { loops := [(1048576, { tms := [(1, .keep), (2, .keep), (3, .keep), (6, .keep), (8, .data false (.int .i64)), (26, .keep), (27, .keep), (28, .data false (.int .i64))], obs := [(1048576, .keep), (1048577, .keep)], fz := [] }),
  (1048578, { tms := [(1, .keep), (2, .keep), (3, .keep), (6, .keep), (8, .data false (.int .i64)), (44, .keep), (45, .keep), (46, .data false (.int .i64))], obs := [(1048576, .keep), (1048577, .keep)], fz := [] }),
  (1048580, { tms := [(2, .keep), (3, .keep), (6, .keep), (13, .keep), (63, .keep), (64, .keep), (65, .data false (.int .i64))], obs := [(1048576, .keep), (1048577, .keep), (1063936, .arr (.fixed 4) (.int .i64))], fz := [] }),
  (1048582, { tms := [(2, .keep), (3, .keep), (6, .keep), (13, .keep), (63, .keep), (64, .keep), (65, .keep), (74, .keep), (75, .data false (.int .i64))], obs := [(1048576, .keep), (1048577, .keep), (1063936, .arr (.fixed 4) (.int .i64))], fz := [] })], own := [] }
theorem f59_run (a0 : Int × Int × Int × List Int) (a1 : List (List (Int × Int))) (a2 : Int) (K : ((Int × Int × Int × Int) × Int) → Prop) : runF Try.prog f59_E f59_A 6 Try.f59 f59_e.doms f59_e.cods (a0, a1, a2) K =
    (br (lenOk (a1.length))
    (br (lenOk (a1.length))
    (LoopP (V := Int × Int × Unit) (fun again v => (fun (again1 : Int → Int → Prop) (v1_0 : Int) (v1_1 : Int) =>
    br (decide (v1_1 < ((a1.length) : Int)))
    (br (decide (0 ≤ v1_1) && decide (v1_1 < ((a1.length) : Int)))
    (again1 (f93 ([v1_0, (f97 (a1.getD v1_1.toNat []))] : List Int)) (IntKind.i64.wrap (v1_1 + 1)))
    False)
    (br (lenOk (a1.length))
    (LoopP (V := Int × Int × Unit) (fun again v => (fun (again2 : Int → Int → Prop) (v2_0 : Int) (v2_1 : Int) =>
    br (decide (v2_1 < ((a1.length) : Int)))
    (br (decide (0 ≤ v2_1) && decide (v2_1 < ((a1.length) : Int)))
    (again2 (f93 ([v2_0, (f94 ((f108 (a0, ((a1.getD v2_1.toNat []), a2))), 19))] : List Int)) (IntKind.i64.wrap (v2_1 + 1)))
    False)
    (br (v2_0 != 0)
    (K ((0, (0, (0, 0))), v2_0))
    (br (lenOk (a1.length))
    (LoopP (V := Int × List Int × Unit) (fun again v => (fun (again3 : Int → List Int → Prop) (v3_0 : Int) (v3_1 : List Int) =>
    br (decide (v3_0 < ((a1.length) : Int)))
    (br (decide (0 ≤ v3_0) && decide (v3_0 < ((a1.length) : Int)))
    (f109_pre (a0, ((a1.getD v3_0.toNat []), (a2, 0))) ∧
    f113_pre (f109 (a0, ((a1.getD v3_0.toNat []), (a2, 0)))) ∧
    LoopP (V := Int × List Int × Unit) (fun again v => (fun (again4 : Int → List Int → Prop) (v4_0 : Int) (v4_1 : List Int) =>
    br (decide (v4_0 < 4))
    (br (decide (0 ≤ v4_0) && decide (v4_0 < 4))
    (br (decide (0 ≤ v4_0) && decide (v4_0 < 4))
    (br (decide (0 ≤ v4_0) && decide (v4_0 < 4))
    (again4 (IntKind.i64.wrap (v4_0 + 1)) (v4_1.set v4_0.toNat (IntKind.i64.wrap ((v4_1.getD v4_0.toNat 0) + (([(f116 (((f113 (f109 (a0, ((a1.getD v3_0.toNat []), (a2, 0))))).1), ((((f113 (f109 (a0, ((a1.getD v3_0.toNat []), (a2, 0))))).2).1), (((((f113 (f109 (a0, ((a1.getD v3_0.toNat []), (a2, 0))))).2).2).1), ((((f113 (f109 (a0, ((a1.getD v3_0.toNat []), (a2, 0))))).2).2).2))))).1, ((f116 (((f113 (f109 (a0, ((a1.getD v3_0.toNat []), (a2, 0))))).1), ((((f113 (f109 (a0, ((a1.getD v3_0.toNat []), (a2, 0))))).2).1), (((((f113 (f109 (a0, ((a1.getD v3_0.toNat []), (a2, 0))))).2).2).1), ((((f113 (f109 (a0, ((a1.getD v3_0.toNat []), (a2, 0))))).2).2).2))))).2).1, (((f116 (((f113 (f109 (a0, ((a1.getD v3_0.toNat []), (a2, 0))))).1), ((((f113 (f109 (a0, ((a1.getD v3_0.toNat []), (a2, 0))))).2).1), (((((f113 (f109 (a0, ((a1.getD v3_0.toNat []), (a2, 0))))).2).2).1), ((((f113 (f109 (a0, ((a1.getD v3_0.toNat []), (a2, 0))))).2).2).2))))).2).2).1, (((f116 (((f113 (f109 (a0, ((a1.getD v3_0.toNat []), (a2, 0))))).1), ((((f113 (f109 (a0, ((a1.getD v3_0.toNat []), (a2, 0))))).2).1), (((((f113 (f109 (a0, ((a1.getD v3_0.toNat []), (a2, 0))))).2).2).1), ((((f113 (f109 (a0, ((a1.getD v3_0.toNat []), (a2, 0))))).2).2).2))))).2).2).2] : List Int).getD v4_0.toNat 0)))))
    False)
    False)
    False)
    (again3 (IntKind.i64.wrap (v3_0 + 1)) v4_1))
    (fun v4_0 v4_1 => again (v4_0, v4_1, ())) v.1 v.2.1) (0, v3_1, ()))
    False)
    (K (((v3_1.getD 0 0), ((v3_1.getD 1 0), ((v3_1.getD 2 0), (v3_1.getD 3 0)))), 0)))
    (fun v3_0 v3_1 => again (v3_0, v3_1, ())) v.1 v.2.1) (0, ([0, 0, 0, 0] : List Int), ()))
    True)))
    (fun v2_0 v2_1 => again (v2_0, v2_1, ())) v.1 v.2.1) ((f93 ([v1_0, (f107 (a0, a2))] : List Int)), 0, ()))
    True))
    (fun v1_0 v1_1 => again (v1_0, v1_1, ())) v.1 v.2.1) ((f93 ([(f106 a0), (f94 ((decide (((a1.length) : Int) ≤ 12)), 8))] : List Int)), 0, ()))
    True)
    True) := by kernel_rfl
theorem f59_t (a0 : Int × Int × Int × List Int) (a1 : List (List (Int × Int))) (a2 : Int) (hpre : f59_pre (a0, a1, a2)) (K : ((Int × Int × Int × Int) × Int) → Prop) (hK : ∀ y : (Int × Int × Int × Int) × Int, y = f59 (a0, a1, a2) → K y) : RunF Try.prog f59_E f59_A 6 Try.f59 f59_e.doms f59_e.cods (a0, a1, a2) K := by
  refine ⟨?_⟩
  rw [f59_run a0 a1 a2 K]
  have hw : a0.2.2.2.length ≤ 1048576 := hpre
  rw [br_true_, lenOk_iff]
  intro hl
  rw [br_true_]
  intro _
  refine LoopP.up2 a1.length (fun i e _ => e = f42 (f42 ((f34 a0).2, if 12 < a1.length then 8 else 0), firstErr f97 (a1.take i.toNat))) (fun again e i v hi0 hn hI hag => ?_) (by omega) ?_
  rotate_left
  · show f93 [f106 a0, f94 (decide ((a1.length : Int) ≤ 12), 8)] = f42 (f42 ((f34 a0).2, if 12 < a1.length then 8 else 0), 0)
    rw [f93_two, f106, f94]
    by_cases h : 12 < a1.length
    · simp [show ¬ (a1.length : Int) ≤ 12 by omega, h, f42]
    · simp [show (a1.length : Int) ≤ 12 by omega, h, f42]
      intro h1 _
      exact h1
  simp only at hI hag ⊢
  subst hI
  rw [br_dec]
  refine ⟨fun hi => ?_, fun hi => ?_⟩
  · rw [br_false_]
    refine ⟨by simp only [Bool.and_eq_true, decide_eq_true_eq]; exact ⟨hi0, hi⟩, ?_⟩
    rw [wr (n := i + 1) (by omega) (by omega), f93_two, f42_step _ hi0 hi]
    exact hag _ _ hi rfl
  have hT : a1.take i.toNat = a1 := List.take_of_length_le (by omega)
  rw [hT, br_true_]
  intro _
  refine LoopP.up2 a1.length (fun i e _ => e = f42 (f42 (f42 (f42 ((f34 a0).2, if 12 < a1.length then 8 else 0), firstErr f97 a1), f107 (a0, a2)), firstErr (openE a0 a2) (a1.take i.toNat))) (fun again2 e j v hj0 hjn hJ hag2 => ?_) (by omega) ?_
  rotate_left
  · show f93 [_, _] = f42 (_, 0)
    rw [f93_two]
    simp only [f42]
    split <;> simp_all
  simp only at hJ hag2 ⊢
  subst hJ
  rw [br_dec]
  refine ⟨fun hj => ?_, fun hj => ?_⟩
  · rw [br_false_]
    refine ⟨by simp only [Bool.and_eq_true, decide_eq_true_eq]; exact ⟨hj0, hj⟩, ?_⟩
    rw [wr (n := j + 1) (by omega) (by omega), f93_two]
    rw [show f94 (f108 (a0, a1.getD j.toNat [], a2), 19) = openE a0 a2 (a1.getD j.toNat []) from rfl, f42_step (f := openE a0 a2) _ hj0 hj]
    exact hag2 _ _ hj rfl
  have hT : a1.take j.toNat = a1 := List.take_of_length_le (by omega)
  have hE : f42 (f42 (f42 (f42 ((f34 a0).2, if 12 < a1.length then 8 else 0), firstErr f97 a1), f107 (a0, a2)), firstErr (openE a0 a2) a1) = spE a0 a1 a2 := by
    rw [spE, f42_assoc, f42_assoc, f42_assoc, f61]
    by_cases h : 12 < a1.length
    · simp only [h, if_true]
      simp [f42]
    · simp only [h, if_false]
      rw [show f42 (0, f42 (firstErr f97 a1, f42 (f107 (a0, a2), firstErr (openE a0 a2) a1))) = f42 (firstErr f97 a1, f42 (f107 (a0, a2), firstErr (openE a0 a2) a1)) by simp [f42]]
      rfl
  rw [hT, hE, br_both]
  refine ⟨fun hne => hK _ ?_, fun h0 => ?_⟩
  · have hne : spE a0 a1 a2 ≠ 0 := by simpa using hne
    simp only [f59]
    rw [if_pos hne]
  have h0 : spE a0 a1 a2 = 0 := by simpa using h0
  rw [br_true_]
  intro _
  refine LoopP.up a1.length (fun i v => v.1 = (List.range 4).map (accP a0 a1 a2 i.toNat)) (fun again3 i v hi0 hn hI hag3 => ?_) (by omega) rfl
  obtain ⟨v, u⟩ := v
  simp only at hI hag3 ⊢
  subst hI
  rw [br_dec]
  refine ⟨fun hi => ?_, fun hi => hK _ ?_⟩
  · rw [br_false_]
    refine ⟨by simp only [Bool.and_eq_true, decide_eq_true_eq]; exact ⟨hi0, hi⟩, ?_⟩
    have hlen : (f109 (a0, a1.getD i.toNat [], a2, 0)).length ≤ 1048576 := by simpa [f109] using hw
    refine ⟨hw, hlen, ?_⟩
    refine LoopP.up 4 (fun c v => v.1 = fill2 4 (accP a0 a1 a2 (i.toNat + 1)) (accP a0 a1 a2 i.toNat) c.toNat) (fun again4 c v hc0 hcn hJ hag4 => ?_) (by omega) fill2_zero.symm
    obtain ⟨v, u⟩ := v
    simp only at hJ hag4 ⊢
    subst hJ
    rw [br_dec]
    refine ⟨fun hc => ?_, fun hc => ?_⟩
    · have hb : (decide (0 ≤ c) && decide (c < 4)) = true := by simp [hc0, hc]
      rw [hb]
      simp only [br_t]
      rw [wr (n := c + 1) (by omega) (by omega), fill2_get (by omega)]
      refine hag4 _ hc ?_
      show _ = fill2 4 (accP a0 a1 a2 (i.toNat + 1)) (accP a0 a1 a2 i.toNat) (c + 1).toNat
      rw [show (c + 1).toNat = c.toNat + 1 by omega, ← fill2_step (by omega)]
      rfl
    · rw [wr (n := i + 1) (by omega) (by omega), show c.toNat = 4 by omega, fill2_all]
      refine hag3 _ hi ?_
      show _ = (List.range 4).map (accP a0 a1 a2 (i + 1).toNat)
      rw [show (i + 1).toNat = i.toNat + 1 by omega]
  · rw [show i.toNat = a1.length by omega, range_getD (by omega), range_getD (by omega), range_getD (by omega), range_getD (by omega)]
    simp only [f59]
    rw [if_neg (by simpa using h0)]
    rfl
theorem f59_fn : f59_e.fn = f59 := rfl
theorem f59_ok : EntryOK Try.prog 59 f59_e := by
  refine entryF progOK (EnvOK.cons f93_ok (EnvOK.cons f94_ok (EnvOK.cons f97_ok (EnvOK.cons f106_ok (EnvOK.cons f107_ok (EnvOK.cons f108_ok (EnvOK.cons f109_ok (EnvOK.cons f113_ok (EnvOK.cons f116_ok (EnvOK.cons f62_ok (EnvOK.cons f61_ok (EnvOK.nil)))))))))))) (A := f59_A) (d := 6) Try.func59 rfl rfl (fun h => by cases h) fun x hpre => ?_
  obtain ⟨a0, a1, a2⟩ := x
  exact f59_t a0 a1 a2 hpre _ fun _ h => h.trans (congrFun f59_fn.symm _)
end Go.Proofs.Ytdhekhichomoiaa
end

section
namespace Go.Proofs.Ytdhekhichomoiaa
open Go Go.Pi Go.RowKit
set_option maxRecDepth 100000
set_option linter.unusedVariables false
set_option linter.unusedSimpArgs false

def f70 (s : List (Int × Int) × List (Int × Int) × Int) : Int × Int := chkS s
def f70_e : Entry := { doms := [(true, (.pair (.sl (.pair (.int .i64) (.int .i64))) (.pair (.sl (.pair (.int .i64) (.int .i64))) (.int .i64))))], cods := [(false, (.int .i64)), (false, (.int .i64))], pre := fun _ => True, fn := f70, uq := false, total := true }
def f70_E : Env := [(93, f93_e), (94, f94_e), (95, f95_e), (103, f103_e), (123, f123_e), (74, f74_e), (59, f59_e), (42, f42_e)]
def f70_A : Anns := { loops := [(1157427304333312000, { tms := [(0, .keep), (1, .keep), (7, .keep), (8, .data false (.int .i64))], obs := [(1048576, .keep), (1103808692224, .keep)], fz := [] }),
  (1164182703774367744, { tms := [(0, .keep), (1, .keep), (7, .keep), (8, .data false (.int .i64))], obs := [(1048576, .keep), (1103808692224, .keep), (1110251143168, .keep)], fz := [] })], own := [] }
theorem f70_run (a0 : List (Int × Int) × List (Int × Int) × Int) (K : (Int × Int) → Prop) : runF Try.prog f70_E f70_A 6 Try.f70 f70_e.doms f70_e.cods a0 K =
    (br (lenOk (a0.1.length))
    (br (lenOk (a0.1.length))
    (br ((f93 ([(f94 ((decide (((a0.1.length) : Int) > 0)), 10)), (f94 ((decide (((a0.1.length) : Int) ≤ 12)), 8))] : List Int)) != 0)
    (K (0, (f93 ([(f94 ((decide (((a0.1.length) : Int) > 0)), 10)), (f94 ((decide (((a0.1.length) : Int) ≤ 12)), 8))] : List Int))))
    (br (lenOk (a0.1.length))
    (LoopP (V := Int × Unit) (fun again v => (fun (again1 : Int → Prop) (v1_0 : Int) =>
    br (decide (v1_0 < ((a0.1.length) : Int)))
    (br (decide (0 ≤ v1_0) && decide (v1_0 < ((a0.1.length) : Int)))
    (br (!(f123 (a0.1.getD v1_0.toNat (0, 0))))
    (br (decide (v1_0 ≥ 0))
    (K (v1_0, 2))
    (br (lenOk (a0.2.1.length))
    (br (lenOk (a0.1.length))
    (br ((f93 ([(f94 ((f95 (a0.2.2, (0, 1000000000000))), 2)), (f94 ((((a0.2.1.length) : Int) == (minmax false a0.2.2 (IntKind.i64.wrap (((a0.1.length) : Int) - 1)))), 10))] : List Int)) != 0)
    (K (0, (f93 ([(f94 ((f95 (a0.2.2, (0, 1000000000000))), 2)), (f94 ((((a0.2.1.length) : Int) == (minmax false a0.2.2 (IntKind.i64.wrap (((a0.1.length) : Int) - 1)))), 10))] : List Int))))
    (br (lenOk (a0.2.1.length))
    (LoopP (V := Int × Unit) (fun again v => (fun (again2 : Int → Prop) (v2_0 : Int) =>
    br (decide (v2_0 < ((a0.2.1.length) : Int)))
    (br (decide (0 ≤ v2_0) && decide (v2_0 < ((a0.2.1.length) : Int)))
    (br (!(f103 (a0.2.1.getD v2_0.toNat (0, 0))))
    (br (decide (v2_0 ≥ 0))
    (K (v2_0, 2))
    (K (0, 0)))
    (again2 (IntKind.i64.wrap (v2_0 + 1))))
    False)
    (K (0, 0)))
    (fun v2_0 => again (v2_0, ())) v.1) (0, ()))
    True))
    True)
    True))
    (again1 (IntKind.i64.wrap (v1_0 + 1))))
    False)
    (br (lenOk (a0.2.1.length))
    (br (lenOk (a0.1.length))
    (br ((f93 ([(f94 ((f95 (a0.2.2, (0, 1000000000000))), 2)), (f94 ((((a0.2.1.length) : Int) == (minmax false a0.2.2 (IntKind.i64.wrap (((a0.1.length) : Int) - 1)))), 10))] : List Int)) != 0)
    (K (0, (f93 ([(f94 ((f95 (a0.2.2, (0, 1000000000000))), 2)), (f94 ((((a0.2.1.length) : Int) == (minmax false a0.2.2 (IntKind.i64.wrap (((a0.1.length) : Int) - 1)))), 10))] : List Int))))
    (br (lenOk (a0.2.1.length))
    (LoopP (V := Int × Unit) (fun again v => (fun (again3 : Int → Prop) (v3_0 : Int) =>
    br (decide (v3_0 < ((a0.2.1.length) : Int)))
    (br (decide (0 ≤ v3_0) && decide (v3_0 < ((a0.2.1.length) : Int)))
    (br (!(f103 (a0.2.1.getD v3_0.toNat (0, 0))))
    (br (decide (v3_0 ≥ 0))
    (K (v3_0, 2))
    (K (0, 0)))
    (again3 (IntKind.i64.wrap (v3_0 + 1))))
    False)
    (K (0, 0)))
    (fun v3_0 => again (v3_0, ())) v.1) (0, ()))
    True))
    True)
    True))
    (fun v1_0 => again (v1_0, ())) v.1) (0, ()))
    True))
    True)
    True) := by kernel_rfl
theorem f70_t (a0 : List (Int × Int) × List (Int × Int) × Int) (K : (Int × Int) → Prop) (hK : ∀ y : Int × Int, y = f70 a0 → K y) : RunF Try.prog f70_E f70_A 6 Try.f70 f70_e.doms f70_e.cods a0 K := by
  refine ⟨?_⟩
  rw [f70_run a0 K]
  have e1 : ∀ z, f123 z = okS z := fun z => rfl
  have t93 : f93 [f94 (f95 (a0.2.2, 0, 1000000000000), 2), f94 (((a0.2.1.length : Int) == minmax false a0.2.2 (IntKind.i64.wrap ((a0.1.length : Int) - 1))), 10)] = f42 (f94 (f95 (a0.2.2, 0, 1000000000000), 2), f94 (((a0.2.1.length : Int) == minmax false a0.2.2 (IntKind.i64.wrap ((a0.1.length : Int) - 1))), 10)) := f93_two _ _
  have u93 : f93 [f94 (decide ((a0.1.length : Int) > 0), 10), f94 (decide ((a0.1.length : Int) ≤ 12), 8)] = if a0.1.length = 0 then 10 else if 12 < a0.1.length then 8 else 0 := by
    rw [f93_two]
    simp only [f42, f94]
    by_cases h : a0.1.length = 0
    · simp [h]
    · have h1 : ((a0.1.length : Int) > 0) := by omega
      by_cases h4 : 12 < a0.1.length
      · have h2 : ¬ ((a0.1.length : Int) ≤ 12) := by omega
        simp [h1, h2, h, h4]
      · have h2 : ((a0.1.length : Int) ≤ 12) := by omega
        simp [h1, h2, h, h4]
  simp only [e1, t93, u93]
  rw [br_true_, lenOk_iff]
  intro hl
  rw [br_true_]
  intro _
  by_cases h0 : a0.1.length = 0
  · simp only [h0, if_true]
    exact hK _ (by rw [f70, chkS, if_pos h0])
  by_cases h12 : 12 < a0.1.length
  · simp only [h0, h12, if_true, if_false]
    exact hK _ (by rw [f70, chkS, if_neg h0, if_pos h12])
  simp only [h0, h12, if_false]
  rw [show ((0 : Int) != 0) = false from rfl, br_f, br_true_]
  intro _
  rw [wr (n := (a0.1.length : Int) - 1) (by omega) (by omega)]
  refine LoopP.up a0.1.length (fun i _ => ∀ x ∈ a0.1.take i.toNat, (!okS x) = false) (fun again i v hi0 hn hI hag => ?_) (by omega) all_zero
  dsimp only
  rw [br_dec]
  refine ⟨fun hi => ?_, fun hi => ?_⟩
  · rw [br_false_, wr (n := i + 1) (by omega) (by omega)]
    refine ⟨by simp only [Bool.and_eq_true, decide_eq_true_eq]; omega, ?_⟩
    rw [br_both]
    refine ⟨fun hne => ?_, fun he => hag () hi (all_step (d := (0, 0)) hi0 hi hI he)⟩
    rw [br_dec]
    refine ⟨fun _ => hK _ ?_, fun h => (h hi0).elim⟩
    rw [f70, chkS, if_neg h0, if_neg (by omega), findIdx_at (d := (0, 0)) hi0 hi hI hne]
    simp only
    rw [Int.toNat_of_nonneg hi0]
  have e74 : f70 a0 = chkT a0 := by
    rw [f70, chkS, if_neg h0, if_neg (by omega), findIdx_none (all_done hi hI)]
  rw [br_true_, lenOk_iff]
  intro hl2
  rw [br_true_]
  intro _
  rw [br_both]
  refine ⟨fun h => hK _ ?_, fun h => ?_⟩
  · have h : f42 (f94 (f95 (a0.2.2, 0, 1000000000000), 2), f94 (((a0.2.1.length : Int) == minmax false a0.2.2 ((a0.1.length : Int) - 1)), 10)) ≠ 0 := by simpa using h
    rw [e74, chkT]
    by_cases hc : 0 ≤ a0.2.2 ∧ a0.2.2 ≤ 1000000000000
    · rw [if_neg (fun hh => hh hc)]
      by_cases ht : (a0.2.1.length : Int) = minmax false a0.2.2 ((a0.1.length : Int) - 1)
      · exfalso
        apply h
        have e1 : f95 (a0.2.2, 0, 1000000000000) = true := by simp [f95, hc]
        have e2 : ((a0.2.1.length : Int) == minmax false a0.2.2 ((a0.1.length : Int) - 1)) = true := by simpa using ht
        rw [e1, e2]
        rfl
      · rw [if_pos ht]
        have e1 : f95 (a0.2.2, 0, 1000000000000) = true := by simp [f95, hc]
        have e2 : ((a0.2.1.length : Int) == minmax false a0.2.2 ((a0.1.length : Int) - 1)) = false := by simpa using ht
        rw [e1, e2]
        rfl
    · rw [if_pos hc]
      have e1 : f95 (a0.2.2, 0, 1000000000000) = false := by
        rw [Bool.eq_false_iff]
        intro hh
        exact hc (by simpa [f95] using hh)
      rw [e1]
      rfl
  have h : f42 (f94 (f95 (a0.2.2, 0, 1000000000000), 2), f94 (((a0.2.1.length : Int) == minmax false a0.2.2 ((a0.1.length : Int) - 1)), 10)) = 0 := by simpa using h
  have hc : 0 ≤ a0.2.2 ∧ a0.2.2 ≤ 1000000000000 := by
    by_cases e1 : f95 (a0.2.2, 0, 1000000000000) = true
    · simpa [f95] using e1
    · simp [f42, f94, e1] at h
  have h2 : (a0.2.1.length : Int) = minmax false a0.2.2 ((a0.1.length : Int) - 1) := by
    have e1 : f95 (a0.2.2, 0, 1000000000000) = true := by simp [f95, hc]
    by_cases e2 : ((a0.2.1.length : Int) == minmax false a0.2.2 ((a0.1.length : Int) - 1)) = true
    · simpa using e2
    · simp [f42, f94, e1, e2] at h
  rw [br_true_]
  intro _
  refine LoopP.up a0.2.1.length (fun i _ => ∀ x ∈ a0.2.1.take i.toNat, (!f103 x) = false) (fun again2 j v hj0 hjn hJ hag2 => ?_) (by omega) all_zero
  dsimp only
  rw [br_dec]
  refine ⟨fun hj => ?_, fun hj => hK _ ?_⟩
  · rw [br_false_, wr (n := j + 1) (by omega) (by omega)]
    refine ⟨by simp only [Bool.and_eq_true, decide_eq_true_eq]; omega, ?_⟩
    rw [br_both]
    refine ⟨fun hne => ?_, fun he => hag2 () hj (all_step (d := (0, 0)) hj0 hj hJ he)⟩
    rw [br_dec]
    refine ⟨fun _ => hK _ ?_, fun h => (h hj0).elim⟩
    rw [e74, chkT, if_neg (fun hh => hh hc), if_neg (fun hh => hh h2), findIdx_at (d := (0, 0)) hj0 hj hJ hne]
    simp only
    rw [Int.toNat_of_nonneg hj0]
  · rw [e74, chkT, if_neg (fun hh => hh hc), if_neg (fun hh => hh h2), findIdx_none (all_done hj hJ)]
theorem f70_fn : f70_e.fn = f70 := rfl
theorem f70_ok : EntryOK Try.prog 70 f70_e := by
  refine entryF progOK (EnvOK.cons f93_ok (EnvOK.cons f94_ok (EnvOK.cons f95_ok (EnvOK.cons f103_ok (EnvOK.cons f123_ok (EnvOK.cons f74_ok (EnvOK.cons f59_ok (EnvOK.cons f42_ok (EnvOK.nil))))))))) (A := f70_A) (d := 6) Try.func70 rfl rfl (fun _ _ => trivial) fun x hpre => ?_
  exact f70_t x _ fun _ h => h.trans (congrFun f70_fn.symm _)
end Go.Proofs.Ytdhekhichomoiaa
end

section
namespace Go.Proofs.Ytdhekhichomoiaa
open Go Go.Pi Go.RowKit
set_option maxRecDepth 100000
set_option linter.unusedVariables false
set_option linter.unusedSimpArgs false

def f124 (l : List (List (Int × Int))) : List (Int × Int) := l.flatten
def f124_pre (l : List (List (Int × Int))) : Prop := l.flatten.length ≤ 1048576
theorem flat_step {α : Type} {l : List (List α)} {i : Int} (h0 : 0 ≤ i) (hi : i < l.length) : (l.take (i + 1).toNat).flatten = (l.take i.toNat).flatten ++ l.getD i.toNat [] := by
  have hlt : i.toNat < l.length := by omega
  rw [show (i + 1).toNat = i.toNat + 1 by omega, List.take_add_one, List.getElem?_eq_getElem hlt, getD_lt hlt, List.flatten_append]
  simp only [Option.toList_some, List.flatten_cons, List.flatten_nil, List.append_nil]
theorem flat_le {α : Type} (l : List (List α)) (n : Nat) : (l.take n).flatten.length ≤ l.flatten.length := by
  conv => rhs; rw [← List.take_append_drop n l]
  rw [List.flatten_append, List.length_append]
  omega
def f124_e : Entry := { doms := [(false, (.sl (.sl (.pair (.int .i64) (.int .i64)))))], cods := [(false, (.sl (.pair (.int .i64) (.int .i64))))], pre := f124_pre, fn := f124, uq := false, total := false }
def f124_E : Env := []
def f124_A : Anns := { loops := [(1048576, { tms := [(0, .keep), (3, .data false (.int .i64)), (9, .keep), (10, .keep), (11, .data false (.int .i64))], obs := [], fz := [] }),
  (1048578, { tms := [(6, .ref 1109176357893), (25, .keep), (26, .keep), (27, .data false (.int .i64))], obs := [(1109176357893, .arr (.uniq) (.pair (.int .i64) (.int .i64)))], fz := [] })], own := [] }
theorem f124_run (a0 : List (List (Int × Int))) (K : (List (Int × Int)) → Prop) : runF Try.prog f124_E f124_A 6 Try.f124 f124_e.doms f124_e.cods a0 K =
    (br (lenOk (a0.length))
    (LoopP (V := Int × Int × Unit) (fun again v => (fun (again1 : Int → Int → Prop) (v1_0 : Int) (v1_1 : Int) =>
    br (decide (v1_1 < ((a0.length) : Int)))
    (br (decide (0 ≤ v1_1) && decide (v1_1 < ((a0.length) : Int)))
    (br (lenOk ((a0.getD v1_1.toNat []).length))
    (br (decide ((IntKind.i64.wrap (v1_0 + (((a0.getD v1_1.toNat []).length) : Int))) < 0))
    (False)
    (again1 (IntKind.i64.wrap (v1_0 + (((a0.getD v1_1.toNat []).length) : Int))) (IntKind.i64.wrap (v1_1 + 1))))
    True)
    False)
    (br (decide (v1_0 < 0))
    (False)
    (br (decide ((IntKind.i64.wrap (v1_0 - 0)) > 0))
    (br (decide (0 < (IntKind.i64.wrap (v1_0 - 0))) && roomOk ((IntKind.i64.wrap (v1_0 - 0)).toNat) 16)
    (br (lenOk (a0.length))
    (LoopP (V := Int × List (Int × Int) × Unit) (fun again v => (fun (again2 : Int → List (Int × Int) → Prop) (v2_0 : Int) (v2_1 : List (Int × Int)) =>
    br (decide (v2_0 < ((a0.length) : Int)))
    (br (decide (0 ≤ v2_0) && decide (v2_0 < ((a0.length) : Int)))
    (br (roomOk ((v2_1.length) + ((a0.getD v2_0.toNat []).length)) 16)
    (again2 (IntKind.i64.wrap (v2_0 + 1)) (v2_1 ++ (a0.getD v2_0.toNat [])))
    False)
    False)
    (K v2_1))
    (fun v2_0 v2_1 => again (v2_0, v2_1, ())) v.1 v.2.1) (0, ([] : List (Int × Int)), ()))
    True)
    False)
    (br (lenOk (a0.length))
    (LoopP (V := Int × List (Int × Int) × Unit) (fun again v => (fun (again3 : Int → List (Int × Int) → Prop) (v3_0 : Int) (v3_1 : List (Int × Int)) =>
    br (decide (v3_0 < ((a0.length) : Int)))
    (br (decide (0 ≤ v3_0) && decide (v3_0 < ((a0.length) : Int)))
    (br (roomOk ((v3_1.length) + ((a0.getD v3_0.toNat []).length)) 16)
    (again3 (IntKind.i64.wrap (v3_0 + 1)) (v3_1 ++ (a0.getD v3_0.toNat [])))
    False)
    False)
    (K v3_1))
    (fun v3_0 v3_1 => again (v3_0, v3_1, ())) v.1 v.2.1) (0, ([] : List (Int × Int)), ()))
    True))))
    (fun v1_0 v1_1 => again (v1_0, v1_1, ())) v.1 v.2.1) (0, 0, ()))
    True) := by kernel_rfl
theorem f124_t (a0 : List (List (Int × Int))) (hpre : f124_pre a0) (K : (List (Int × Int)) → Prop) (hK : ∀ y : List (Int × Int), y = f124 a0 → K y) : RunF Try.prog f124_E f124_A 6 Try.f124 f124_e.doms f124_e.cods a0 K := by
  refine ⟨?_⟩
  rw [f124_run a0 K]
  have hp : a0.flatten.length ≤ 1048576 := hpre
  have hfl : ∀ n, (a0.take n).flatten.length ≤ 1048576 := fun n => Nat.le_trans (flat_le a0 n) hp
  rw [br_true_, lenOk_iff]
  intro hl
  refine LoopP.up2 a0.length (fun i u _ => u = ((a0.take i.toNat).flatten.length : Int)) (fun again u i v hi0 hn hI hag => ?_) (by omega) (by simp)
  dsimp only
  subst hI
  rw [br_dec]
  refine ⟨fun hi => ?_, fun hi => ?_⟩
  · have hs := flat_step hi0 hi
    have h1 := hfl (i + 1).toNat
    rw [hs, List.length_append] at h1
    rw [br_false_]
    refine ⟨by simp only [Bool.and_eq_true, decide_eq_true_eq]; omega, ?_⟩
    rw [br_true_, wr (n := i + 1) (by omega) (by omega), wr (n := ((a0.take i.toNat).flatten.length : Int) + ((a0.getD i.toNat []).length : Int)) (by omega) (by omega)]
    intro _
    rw [br_dec]
    refine ⟨fun h => by omega, fun _ => hag _ _ hi ?_⟩
    rw [hs, List.length_append]
    omega
  have hT : a0.take i.toNat = a0 := List.take_of_length_le (by omega)
  rw [hT, wr (n := (a0.flatten.length : Int) - 0) (by omega) (by omega)]
  have loop : ∀ z : List (Int × Int), z = [] → br (lenOk a0.length) (LoopP (V := Int × List (Int × Int) × Unit) (fun again v => (fun (again2 : Int → List (Int × Int) → Prop) (v2_0 : Int) (v2_1 : List (Int × Int)) =>
      br (decide (v2_0 < ((a0.length) : Int)))
      (br (decide (0 ≤ v2_0) && decide (v2_0 < ((a0.length) : Int)))
      (br (roomOk ((v2_1.length) + ((a0.getD v2_0.toNat []).length)) 16)
      (again2 (IntKind.i64.wrap (v2_0 + 1)) (v2_1 ++ (a0.getD v2_0.toNat [])))
      False)
      False)
      (K v2_1))
      (fun v2_0 v2_1 => again (v2_0, v2_1, ())) v.1 v.2.1) (0, z, ())) True := by
    intro z hz
    rw [br_true_]
    intro _
    refine LoopP.up a0.length (fun i v => v.1 = (a0.take i.toNat).flatten) (fun again i v hi0 hn hI hag => ?_) (by omega) (by simpa using hz)
    obtain ⟨v, u⟩ := v
    simp only at hI hag ⊢
    subst hI
    rw [br_dec]
    refine ⟨fun hi => ?_, fun hi => hK _ ?_⟩
    · have hs := flat_step hi0 hi
      have h1 := hfl (i + 1).toNat
      rw [hs, List.length_append] at h1
      rw [br_false_]
      refine ⟨by simp only [Bool.and_eq_true, decide_eq_true_eq]; omega, ?_⟩
      rw [br_false_, roomOk_iff, wr (n := i + 1) (by omega) (by omega)]
      exact ⟨by omega, hag _ hi hs.symm⟩
    · rw [f124, List.take_of_length_le (by omega)]
  rw [br_dec]
  refine ⟨fun h => by omega, fun _ => ?_⟩
  rw [br_dec]
  refine ⟨fun h => ?_, fun h => loop [] rfl⟩
  rw [br_false_]
  refine ⟨?_, loop [] rfl⟩
  simp only [Bool.and_eq_true, decide_eq_true_eq, roomOk_iff]
  omega
theorem f124_fn : f124_e.fn = f124 := rfl
theorem f124_ok : EntryOK Try.prog 124 f124_e := by
  refine entryF progOK (EnvOK.nil) (A := f124_A) (d := 6) Try.func124 rfl rfl (fun h => by cases h) fun x hpre => ?_
  exact f124_t x hpre _ fun _ h => h.trans (congrFun f124_fn.symm _)
end Go.Proofs.Ytdhekhichomoiaa
end

section
namespace Go.Proofs.Ytdhekhichomoiaa
open Go Go.Pi Go.RowKit
set_option maxRecDepth 100000
set_option linter.unusedVariables false
set_option linter.unusedSimpArgs false

def f125 (l : List (Int × Int)) : List (Int × Int) := l
def f125_pre (l : List (Int × Int)) : Prop := 0 < l.length ∧ l.length ≤ 1073741824
def f125_e : Entry := { doms := [(false, (.sl (.pair (.int .i64) (.int .i64))))], cods := [(false, (.sl (.pair (.int .i64) (.int .i64))))], pre := f125_pre, fn := f125, uq := true, total := false }
def f125_E : Env := []
def f125_A : Anns := { loops := [], own := [1051648] }
theorem f125_run (a0 : List (Int × Int)) (K : (List (Int × Int)) → Prop) : runU Try.prog f125_E f125_A 6 Try.f125 f125_e.doms f125_e.cods a0 K =
    (br (decide (0 < (a0.length)))
    (br (roomOk (0 + (a0.length)) 16)
    (K (([] : List (Int × Int)) ++ a0))
    False)
    False) := by kernel_rfl
theorem f125_t (a0 : List (Int × Int)) (hpre : f125_pre a0) (K : (List (Int × Int)) → Prop) (hK : ∀ y : List (Int × Int), y = f125 a0 → K y) : RunU Try.prog f125_E f125_A 6 Try.f125 f125_e.doms f125_e.cods a0 K := by
  refine ⟨?_⟩
  rw [f125_run a0 K]
  simp only [br_false_, decide_eq_true_eq, roomOk_iff]
  exact ⟨hpre.1, by have := hpre.2; omega, hK _ (by simp [f125])⟩
theorem f125_fn : f125_e.fn = f125 := rfl
theorem f125_ok : EntryOK Try.prog 125 f125_e := by
  refine entryFU progOK (EnvOK.nil) (A := f125_A) (d := 6) Try.func125 rfl (fun h => by cases h) fun x hpre => ?_
  exact f125_t x hpre _ fun _ h => h.trans (congrFun f125_fn.symm _)
end Go.Proofs.Ytdhekhichomoiaa
end

section
namespace Go.Proofs.Ytdhekhichomoiaa
open Go Go.Pi Go.RowKit
set_option maxRecDepth 100000
set_option linter.unusedVariables false
set_option linter.unusedSimpArgs false

def byN (l : List (Int × Int)) (k : Nat) : Nat → Int
  | 0 => (l.getD 0 (0, 0)).1
  | n + 1 => IntKind.i64.wrap (byN l k n + IntKind.i64.wrap (2 * (f98 (l.getD (n + 1) (0, 0), ((n + 1) * k : Nat))).1))
def byK (l : List (Int × Int)) (k : Nat) : Int := byN l k (l.length - 1)
def byE (s : List (Int × Int) × List (Int × Int) × Int) : Int := f42 ((chkS s).2, f94 (decide (s.2.2 ≤ (s.1.length : Int)), 19))
def byF (l : List (Int × Int)) : Int × Int × Int × Int := (byK l 0, byK l 1, byK l 2, byK l 3)
def f73 (s : List (Int × Int) × List (Int × Int) × Int) : (Int × Int × Int × Int) × Int :=
  if byE s ≠ 0 then ((0, 0, 0, 0), byE s) else (byF s.1, 0)
theorem f42_zz {a b : Int} (h : f42 (a, b) = 0) : a = 0 ∧ b = 0 := by
  unfold f42 at h
  split at h
  · contradiction
  · rename_i h1
    exact ⟨Classical.not_not.1 h1, h⟩
theorem drop1_getD {l : List (Int × Int)} {j : Nat} : ((l.take ((l.length : Int).toNat)).drop 1).getD j (0, 0) = l.getD (j + 1) (0, 0) := by
  have : (l.length : Int).toNat = l.length := by omega
  rw [this, List.take_length]
  simp [List.getD_eq_getElem?_getD, List.getElem?_drop, Nat.add_comm]
theorem set_get {α : Type} {l : List α} {i : Nat} {x d : α} (h : i < l.length) : (l.set i x).getD i d = x := by
  simp [List.getD_eq_getElem?_getD, h]
def f73_e : Entry := { doms := [(true, (.pair (.sl (.pair (.int .i64) (.int .i64))) (.pair (.sl (.pair (.int .i64) (.int .i64))) (.int .i64))))], cods := [(true, (.pair (.int .i64) (.pair (.int .i64) (.pair (.int .i64) (.int .i64))))), (false, (.int .i64))], pre := fun _ => True, fn := f73, uq := false, total := true }
def f73_E : Env := [(70, f70_e), (93, f93_e), (94, f94_e), (98, f98_e), (74, f74_e), (59, f59_e), (42, f42_e)]
def f73_A : Anns := { loops := [(1048576, { tms := [(1, .keep), (2, .keep), (6, .keep), (29, .data false (.int .i64))], obs := [(1048576, .keep), (1048577, .keep), (1053696, .arr (.fixed 4) (.int .i64))], fz := [] }),
  (1048578, { tms := [(1, .keep), (2, .keep), (6, .keep), (7, .keep), (29, .keep), (41, .keep), (42, .keep), (43, .data false (.int .i64))], obs := [(1048576, .keep), (1048577, .keep), (1053696, .arr (.fixed 4) (.int .i64))], fz := [] })], own := [] }
theorem f73_run (a0 : List (Int × Int) × List (Int × Int) × Int) (K : ((Int × Int × Int × Int) × Int) → Prop) : runF Try.prog f73_E f73_A 6 Try.f73 f73_e.doms f73_e.cods a0 K =
    (br (lenOk (a0.1.length))
    (br ((f93 ([(f70 a0).2, (f94 ((decide (a0.2.2 ≤ ((a0.1.length) : Int))), 19))] : List Int)) != 0)
    (K ((0, (0, (0, 0))), (f93 ([(f70 a0).2, (f94 ((decide (a0.2.2 ≤ ((a0.1.length) : Int))), 19))] : List Int))))
    (LoopP (V := Int × List Int × Unit) (fun again v => (fun (again1 : Int → List Int → Prop) (v1_0 : Int) (v1_1 : List Int) =>
    br (decide (v1_0 < 4))
    (br (decide (0 ≤ 0) && decide (0 < ((a0.1.length) : Int)))
    (br (decide (0 ≤ v1_0) && decide (v1_0 < 4))
    (br (decide ((0 : Int) ≤ 1 ∧ 1 ≤ ((a0.1.length) : Int) ∧ ((a0.1.length) : Int) ≤ ((a0.1.length) : Int)))
    (br (lenOk (((a0.1.take (((a0.1.length) : Int).toNat)).drop 1).length))
    (LoopP (V := Int × List Int × Unit) (fun again v => (fun (again2 : Int → List Int → Prop) (v2_0 : Int) (v2_1 : List Int) =>
    br (decide (v2_0 < ((((a0.1.take (((a0.1.length) : Int).toNat)).drop 1).length) : Int)))
    (br (decide (0 ≤ v2_0) && decide (v2_0 < ((((a0.1.take (((a0.1.length) : Int).toNat)).drop 1).length) : Int)))
    (br (decide (0 ≤ v1_0) && decide (v1_0 < 4))
    (f98_pre ((((a0.1.take (((a0.1.length) : Int).toNat)).drop 1).getD v2_0.toNat (0, 0)), (IntKind.i64.wrap ((IntKind.i64.wrap (v2_0 + 1)) * v1_0))) ∧
    br (decide (0 ≤ v1_0) && decide (v1_0 < 4))
    (again2 (IntKind.i64.wrap (v2_0 + 1)) (v2_1.set v1_0.toNat (IntKind.i64.wrap ((v2_1.getD v1_0.toNat 0) + (IntKind.i64.wrap (2 * (f98 ((((a0.1.take (((a0.1.length) : Int).toNat)).drop 1).getD v2_0.toNat (0, 0)), (IntKind.i64.wrap ((IntKind.i64.wrap (v2_0 + 1)) * v1_0)))).1))))))
    False)
    False)
    False)
    (again1 (IntKind.i64.wrap (v1_0 + 1)) v2_1))
    (fun v2_0 v2_1 => again (v2_0, v2_1, ())) v.1 v.2.1) (0, (v1_1.set v1_0.toNat ((a0.1.getD 0 (0, 0)).1)), ()))
    True)
    False)
    False)
    False)
    (K (((v1_1.getD 0 0), ((v1_1.getD 1 0), ((v1_1.getD 2 0), (v1_1.getD 3 0)))), 0)))
    (fun v1_0 v1_1 => again (v1_0, v1_1, ())) v.1 v.2.1) (0, ([0, 0, 0, 0] : List Int), ())))
    True) := by kernel_rfl
theorem f73_t (a0 : List (Int × Int) × List (Int × Int) × Int) (K : ((Int × Int × Int × Int) × Int) → Prop) (hK : ∀ y : (Int × Int × Int × Int) × Int, y = f73 a0 → K y) : RunF Try.prog f73_E f73_A 6 Try.f73 f73_e.doms f73_e.cods a0 K := by
  refine ⟨?_⟩
  rw [f73_run a0 K]
  have t93 : f93 [(f70 a0).2, f94 (decide (a0.2.2 ≤ (a0.1.length : Int)), 19)] = byE a0 := f93_two _ _
  rw [t93, br_true_, lenOk_iff]
  intro hl
  rw [br_both]
  refine ⟨fun h => hK _ ?_, fun h => ?_⟩
  · have h : byE a0 ≠ 0 := by simpa using h
    rw [f73, if_pos h]
  have h : byE a0 = 0 := by simpa using h
  have e73 : f73 a0 = (byF a0.1, 0) := by rw [f73, if_neg (fun hh => hh h)]
  have hs := chk_ok (f42_zz h).1
  have hlags := hs.lags
  refine LoopP.up 4 (fun i v => v.1 = fillTo 4 (byK a0.1) 0 i.toNat) (fun again i v hi0 hn hI hag => ?_) (by omega) rfl
  obtain ⟨v, u⟩ := v
  simp only at hI hag ⊢
  subst hI
  rw [br_dec]
  refine ⟨fun hi => ?_, fun hi => hK _ ?_⟩
  · have hlen : (fillTo 4 (byK a0.1) 0 i.toNat).length = 4 := fillTo_length
    have hb0 : (decide ((0 : Nat) ≤ 0) && decide ((0 : Int) < (a0.1.length : Int))) = true := by simp; omega
    have hb1 : (decide (0 ≤ i) && decide (i < 4)) = true := by simp [hi0, hi]
    have hb2 : decide ((0 : Int) ≤ 1 ∧ 1 ≤ (a0.1.length : Int) ∧ (a0.1.length : Int) ≤ (a0.1.length : Int)) = true := decide_eq_true ⟨by omega, by omega, by omega⟩
    have hdl : ((a0.1.take ((a0.1.length : Int).toNat)).drop 1).length = a0.1.length - 1 := by simp
    rw [hb0, hb1, hb2]
    simp only [br_t]
    rw [br_true_]
    intro _
    rw [hdl]
    refine LoopP.up ((a0.1.length - 1 : Nat) : Int) (fun j v => v.1 = (fillTo 4 (byK a0.1) 0 i.toNat).set i.toNat (byN a0.1 i.toNat j.toNat)) (fun again2 j v hj0 hjn hJ hag2 => ?_) (by omega) rfl
    obtain ⟨v, u⟩ := v
    simp only at hJ hag2 ⊢
    subst hJ
    rw [br_dec]
    refine ⟨fun hj => ?_, fun hj => ?_⟩
    · have hm : 0 ≤ (j + 1) * i := Int.mul_nonneg (by omega) hi0
      have hm2 : (j + 1) * i ≤ 12 * 4 := Int.mul_le_mul (by omega) (by omega) hi0 (by omega)
      have hb3 : (decide (0 ≤ j) && decide (j < ((a0.1.length - 1 : Nat) : Int))) = true := by simp only [Bool.and_eq_true, decide_eq_true_eq]; omega
      rw [hb3, br_t, wr (n := j + 1) (by omega) (by omega), wr (n := (j + 1) * i) (by omega) (by omega)]
      refine ⟨hm, hag2 _ hj ?_⟩
      show _ = (fillTo 4 (byK a0.1) 0 i.toNat).set i.toNat (byN a0.1 i.toNat (j + 1).toNat)
      rw [List.set_set, set_get (by omega), drop1_getD, show (j + 1).toNat = j.toNat + 1 by omega]
      show (fillTo 4 (byK a0.1) 0 i.toNat).set i.toNat _ = (fillTo 4 (byK a0.1) 0 i.toNat).set i.toNat _
      congr 1
      show _ = IntKind.i64.wrap (byN a0.1 i.toNat j.toNat + IntKind.i64.wrap (2 * (f98 (a0.1.getD (j.toNat + 1) (0, 0), ((j.toNat + 1) * i.toNat : Nat))).1))
      rw [show (((j.toNat + 1) * i.toNat : Nat) : Int) = (j + 1) * i by rw [Int.natCast_mul]; congr 1 <;> omega]
    · rw [wr (n := i + 1) (by omega) (by omega)]
      refine hag _ hi ?_
      show _ = fillTo 4 (byK a0.1) 0 (i + 1).toNat
      rw [show (i + 1).toNat = i.toNat + 1 by omega, ← fillTo_step (by omega), show j.toNat = a0.1.length - 1 by omega]
      rfl
  · rw [e73, show i.toNat = 4 by omega, fillTo_getD (by omega), fillTo_getD (by omega), fillTo_getD (by omega), fillTo_getD (by omega)]
    rfl
theorem f73_fn : f73_e.fn = f73 := rfl
theorem f73_ok : EntryOK Try.prog 73 f73_e := by
  refine entryF progOK (EnvOK.cons f70_ok (EnvOK.cons f93_ok (EnvOK.cons f94_ok (EnvOK.cons f98_ok (EnvOK.cons f74_ok (EnvOK.cons f59_ok (EnvOK.cons f42_ok (EnvOK.nil)))))))) (A := f73_A) (d := 6) Try.func73 rfl rfl (fun _ _ => trivial) fun x hpre => ?_
  exact f73_t x _ fun _ h => h.trans (congrFun f73_fn.symm _)
end Go.Proofs.Ytdhekhichomoiaa
end

section
namespace Go.Proofs.Ytdhekhichomoiaa
open Go Go.Pi Go.RowKit
set_option maxRecDepth 100000
set_option linter.unusedVariables false
set_option linter.unusedSimpArgs false

/-- A lag with all pairs that end in the piece, up to some sample. -/
def lagN (all : List (Int × Int)) (z : Int × Int) (lag from_ : Nat) : Nat → Int × Int
  | 0 => z
  | n + 1 => f126 (lagN all z lag from_ n, f127 (all.getD (from_ + n - lag) (0, 0), all.getD (from_ + n) (0, 0)))
def newLag (s : List (Int × Int) × List (Int × Int) × Int) (p : List (Int × Int)) (lag : Nat) : Int × Int :=
  lagN (s.2.1 ++ p) (s.1.getD lag (0, 0)) lag (max lag s.2.1.length) ((s.2.1 ++ p).length - max lag s.2.1.length)
def newLags (s : List (Int × Int) × List (Int × Int) × Int) (p : List (Int × Int)) : List (Int × Int) := (List.range s.1.length).map (newLag s p)
def addE (s : List (Int × Int) × List (Int × Int) × Int) (p : List (Int × Int)) : Int := f42 ((chkS s).2, (f33 p).2)
/-- The sum has left its bounds. -/
def addBad (s : List (Int × Int) × List (Int × Int) × Int) (p : List (Int × Int)) : Bool := decide (s.2.2 + p.length > 1000000000000) || !(newLags s p).all okS
def addTo (s : List (Int × Int) × List (Int × Int) × Int) (p : List (Int × Int)) : List (Int × Int) × List (Int × Int) × Int :=
  (newLags s p, (s.2.1 ++ p).drop ((s.2.1 ++ p).length + 1 - s.1.length), s.2.2 + p.length)
def f72 (x : (List (Int × Int) × List (Int × Int) × Int) × List (Int × Int)) : (List (Int × Int) × List (Int × Int) × Int) × Int :=
  if addE x.1 x.2 ≠ 0 then (([], [], 0), addE x.1 x.2) else if addBad x.1 x.2 then (([], [], 0), 20) else (addTo x.1 x.2, 0)
theorem tail_len {s : List (Int × Int) × List (Int × Int) × Int} (h : SumOK s) : s.2.1.length ≤ 11 := by
  have h1 := h.tail
  have h2 := h.lags
  simp only [minmax] at h1
  split at h1 <;> omega
theorem maxInt (i n : Int) (h0 : 0 ≤ i) (hn : 0 ≤ n) : minmax true i n = ((max i.toNat n.toNat : Nat) : Int) := by
  simp only [minmax]
  split <;> omega
def f72_e : Entry := { doms := [(true, (.pair (.sl (.pair (.int .i64) (.int .i64))) (.pair (.sl (.pair (.int .i64) (.int .i64))) (.int .i64)))), (false, (.sl (.pair (.int .i64) (.int .i64))))], cods := [(true, (.pair (.sl (.pair (.int .i64) (.int .i64))) (.pair (.sl (.pair (.int .i64) (.int .i64))) (.int .i64)))), (false, (.int .i64))], pre := fun _ => True, fn := f72, uq := false, total := true }
def f72_E : Env := [(70, f70_e), (93, f93_e), (97, f97_e), (123, f123_e), (124, f124_e), (125, f125_e), (126, f126_e), (127, f127_e), (73, f73_e), (74, f74_e), (59, f59_e), (42, f42_e), (99, f99_e)]
def f72_A : Anns := { loops := [(1048576, { tms := [(2, .keep), (4, .keep), (8, .keep), (9, .keep), (42, .keep), (43, .data false (.int .i64))], obs := [(1048576, .keep), (1048577, .keep), (1054727, .arr (.uniq) (.pair (.int .i64) (.int .i64))), (1054729, .cells [.ref 1054727, .data (.sl (.int .i64)), .data (.int .i64)])], fz := [] }),
  (1048578, { tms := [(2, .keep), (4, .keep), (8, .keep), (9, .keep), (10, .keep), (11, .data false (.int .i64)), (42, .keep), (43, .keep)], obs := [(1048576, .keep), (1048577, .keep), (1054727, .arr (.uniq) (.pair (.int .i64) (.int .i64))), (1054729, .cells [.ref 1054727, .data (.sl (.int .i64)), .data (.int .i64)])], fz := [] }),
  (1169816601355091968, { tms := [(0, .keep), (1, .keep), (7, .keep), (8, .data false (.int .i64))], obs := [(1048576, .keep), (1048577, .keep), (1054727, .keep), (1054729, .keep)], fz := [] })], own := [1054727] }
theorem f72_run (a0 : List (Int × Int) × List (Int × Int) × Int) (a1 : List (Int × Int)) (K : ((List (Int × Int) × List (Int × Int) × Int) × Int) → Prop) : runF Try.prog f72_E f72_A 6 Try.f72 f72_e.doms f72_e.cods (a0, a1) K =
    (br ((f93 ([(f70 a0).2, (f97 a1)] : List Int)) != 0)
    (K ((([] : List (Int × Int)), (([] : List (Int × Int)), 0)), (f93 ([(f70 a0).2, (f97 a1)] : List Int))))
    (f124_pre ([a0.2.1, a1] : List (List (Int × Int))) ∧
    f125_pre a0.1 ∧
    br (lenOk (a1.length))
    (br (lenOk ((f125 a0.1).length))
    (LoopP (V := Int × List (Int × Int) × List Int × Int × Unit) (fun again v => (fun (again1 : Int → List (Int × Int) → List Int → Int → Prop) (v1_0 : Int) (v1_1 : List (Int × Int)) (v1_2 : List Int) (v1_3 : Int) =>
    br (decide (v1_0 < (((f125 a0.1).length) : Int)))
    (br (lenOk (a0.2.1.length))
    (LoopP (V := Int × List (Int × Int) × List Int × Int × Unit) (fun again v => (fun (again2 : Int → List (Int × Int) → List Int → Int → Prop) (v2_0 : Int) (v2_1 : List (Int × Int)) (v2_2 : List Int) (v2_3 : Int) =>
    br (lenOk ((f124 ([a0.2.1, a1] : List (List (Int × Int)))).length))
    (br (decide (v2_0 < (((f124 ([a0.2.1, a1] : List (List (Int × Int)))).length) : Int)))
    (br (decide (0 ≤ v1_0) && decide (v1_0 < ((v2_1.length) : Int)))
    (br (decide (0 ≤ (IntKind.i64.wrap (v2_0 - v1_0))) && decide ((IntKind.i64.wrap (v2_0 - v1_0)) < (((f124 ([a0.2.1, a1] : List (List (Int × Int)))).length) : Int)))
    (br (decide (0 ≤ v2_0) && decide (v2_0 < (((f124 ([a0.2.1, a1] : List (List (Int × Int)))).length) : Int)))
    (br (decide (0 ≤ v1_0) && decide (v1_0 < ((v2_1.length) : Int)))
    (again2 (IntKind.i64.wrap (v2_0 + 1)) (v2_1.set v1_0.toNat (f126 ((v2_1.getD v1_0.toNat (0, 0)), (f127 (((f124 ([a0.2.1, a1] : List (List (Int × Int)))).getD ((IntKind.i64.wrap (v2_0 - v1_0)).toNat) (0, 0)), ((f124 ([a0.2.1, a1] : List (List (Int × Int)))).getD v2_0.toNat (0, 0))))))) v2_2 v2_3)
    False)
    False)
    False)
    False)
    (again1 (IntKind.i64.wrap (v1_0 + 1)) v2_1 v2_2 v2_3))
    True)
    (fun v2_0 v2_1 v2_2 v2_3 => again (v2_0, v2_1, v2_2, v2_3, ())) v.1 v.2.1 v.2.2.1 v.2.2.2.1) ((minmax true v1_0 ((a0.2.1.length) : Int)), v1_1, v1_2, v1_3, ()))
    True)
    (br (decide (v1_3 > 1000000000000))
    (K ((([] : List (Int × Int)), (([] : List (Int × Int)), 0)), 20))
    (br (lenOk (v1_1.length))
    (LoopP (V := Int × Unit) (fun again v => (fun (again3 : Int → Prop) (v3_0 : Int) =>
    br (decide (v3_0 < ((v1_1.length) : Int)))
    (br (decide (0 ≤ v3_0) && decide (v3_0 < ((v1_1.length) : Int)))
    (br (!(f123 (v1_1.getD v3_0.toNat (0, 0))))
    (br (decide (v3_0 ≥ 0))
    (K ((([] : List (Int × Int)), (([] : List (Int × Int)), 0)), 20))
    (br (lenOk ((f124 ([a0.2.1, a1] : List (List (Int × Int)))).length))
    (br (lenOk (v1_1.length))
    (br (decide ((0 : Int) ≤ (minmax true 0 (IntKind.i64.wrap ((IntKind.i64.wrap ((((f124 ([a0.2.1, a1] : List (List (Int × Int)))).length) : Int) - ((v1_1.length) : Int))) + 1))) ∧ (minmax true 0 (IntKind.i64.wrap ((IntKind.i64.wrap ((((f124 ([a0.2.1, a1] : List (List (Int × Int)))).length) : Int) - ((v1_1.length) : Int))) + 1))) ≤ (((f124 ([a0.2.1, a1] : List (List (Int × Int)))).length) : Int) ∧ (((f124 ([a0.2.1, a1] : List (List (Int × Int)))).length) : Int) ≤ (((f124 ([a0.2.1, a1] : List (List (Int × Int)))).length) : Int)))
    (K ((v1_1, ((((f124 ([a0.2.1, a1] : List (List (Int × Int)))).take ((((f124 ([a0.2.1, a1] : List (List (Int × Int)))).length) : Int).toNat)).drop ((minmax true 0 (IntKind.i64.wrap ((IntKind.i64.wrap ((((f124 ([a0.2.1, a1] : List (List (Int × Int)))).length) : Int) - ((v1_1.length) : Int))) + 1))).toNat)), v1_3)), 0))
    False)
    True)
    True))
    (again3 (IntKind.i64.wrap (v3_0 + 1))))
    False)
    (br (lenOk ((f124 ([a0.2.1, a1] : List (List (Int × Int)))).length))
    (br (lenOk (v1_1.length))
    (br (decide ((0 : Int) ≤ (minmax true 0 (IntKind.i64.wrap ((IntKind.i64.wrap ((((f124 ([a0.2.1, a1] : List (List (Int × Int)))).length) : Int) - ((v1_1.length) : Int))) + 1))) ∧ (minmax true 0 (IntKind.i64.wrap ((IntKind.i64.wrap ((((f124 ([a0.2.1, a1] : List (List (Int × Int)))).length) : Int) - ((v1_1.length) : Int))) + 1))) ≤ (((f124 ([a0.2.1, a1] : List (List (Int × Int)))).length) : Int) ∧ (((f124 ([a0.2.1, a1] : List (List (Int × Int)))).length) : Int) ≤ (((f124 ([a0.2.1, a1] : List (List (Int × Int)))).length) : Int)))
    (K ((v1_1, ((((f124 ([a0.2.1, a1] : List (List (Int × Int)))).take ((((f124 ([a0.2.1, a1] : List (List (Int × Int)))).length) : Int).toNat)).drop ((minmax true 0 (IntKind.i64.wrap ((IntKind.i64.wrap ((((f124 ([a0.2.1, a1] : List (List (Int × Int)))).length) : Int) - ((v1_1.length) : Int))) + 1))).toNat)), v1_3)), 0))
    False)
    True)
    True))
    (fun v3_0 => again (v3_0, ())) v.1) (0, ()))
    True)))
    (fun v1_0 v1_1 v1_2 v1_3 => again (v1_0, v1_1, v1_2, v1_3, ())) v.1 v.2.1 v.2.2.1 v.2.2.2.1) (0, (f125 a0.1), ([] : List Int), (IntKind.i64.wrap (a0.2.2 + ((a1.length) : Int))), ()))
    True)
    True)) := by kernel_rfl
theorem f72_t (a0 : List (Int × Int) × List (Int × Int) × Int) (a1 : List (Int × Int)) (K : ((List (Int × Int) × List (Int × Int) × Int) × Int) → Prop) (hK : ∀ y : (List (Int × Int) × List (Int × Int) × Int) × Int, y = f72 (a0, a1) → K y) : RunF Try.prog f72_E f72_A 6 Try.f72 f72_e.doms f72_e.cods (a0, a1) K := by
  refine ⟨?_⟩
  rw [f72_run a0 a1 K]
  have t93 : f93 [(f70 a0).2, f97 a1] = addE a0 a1 := f93_two _ _
  rw [t93, br_both]
  refine ⟨fun h => hK _ ?_, fun h => ?_⟩
  · have h : addE a0 a1 ≠ 0 := by simpa using h
    simp only [f72]
    rw [if_pos h]
  have h : addE a0 a1 = 0 := by simpa using h
  have e72 : f72 (a0, a1) = if addBad a0 a1 then (([], [], 0), 20) else (addTo a0 a1, 0) := by
    simp only [f72]
    rw [if_neg (fun hh => hh h)]
  have hs := chk_ok (f42_zz h).1
  have hb := blk_ok (f42_zz h).2
  have hlags := hs.lags
  have hcount := hs.count
  have htl := tail_len hs
  have e124 : f124 [a0.2.1, a1] = a0.2.1 ++ a1 := by simp [f124]
  have e125 : f125 a0.1 = a0.1 := rfl
  have hall : (a0.2.1 ++ a1).length = a0.2.1.length + a1.length := List.length_append
  have hp124 : f124_pre [a0.2.1, a1] := by
    show (List.flatten [a0.2.1, a1]).length ≤ _
    simp
    omega
  refine ⟨hp124, ⟨hlags.1, by omega⟩, ?_⟩
  rw [e124, e125]
  obtain ⟨all, hA⟩ : ∃ all, all = a0.2.1 ++ a1 := ⟨_, rfl⟩
  rw [← hA] at hall ⊢
  rw [br_true_]
  intro _
  rw [br_true_]
  intro _
  rw [wr (n := a0.2.2 + (a1.length : Int)) (by omega) (by omega)]
  have hnl : newLags a0 a1 = (List.range a0.1.length).map (newLag a0 a1) := rfl
  refine LoopP.up a0.1.length (fun i v => v.1 = fill2 a0.1.length (newLag a0 a1) (fun k => a0.1.getD k (0, 0)) i.toNat ∧ v.2.1 = [] ∧ v.2.2.1 = a0.2.2 + (a1.length : Int)) (fun again i v hi0 hn hI hag => ?_) (by omega) ?_
  rotate_left
  · refine ⟨?_, rfl, rfl⟩
    show a0.1 = fill2 _ _ _ 0
    rw [fill2_zero]
    apply List.ext_getElem (by simp)
    intro k h1 h2
    simp [List.getD_eq_getElem?_getD, h1]
  obtain ⟨v, w, c, u⟩ := v
  simp only at hI hag ⊢
  obtain ⟨hI1, hI2, hI3⟩ := hI
  subst hI1 hI2 hI3
  have hfl : ∀ j, (fill2 a0.1.length (newLag a0 a1) (fun k => a0.1.getD k (0, 0)) j).length = a0.1.length := fun j => fill2_length
  rw [br_dec]
  refine ⟨fun hi => ?_, fun hi => ?_⟩
  · rw [br_true_]
    intro _
    have hmx : minmax true i (a0.2.1.length : Int) = ((max i.toNat a0.2.1.length : Nat) : Int) := maxInt i _ hi0 (by omega)
    rw [hmx]
    obtain ⟨fr, hfr⟩ : ∃ fr, fr = max i.toNat a0.2.1.length := ⟨_, rfl⟩
    rw [← hfr]
    refine LoopP.upFrom (fr : Int) (all.length : Int) (fun j v => v.1 = (fill2 a0.1.length (newLag a0 a1) (fun k => a0.1.getD k (0, 0)) i.toNat).set i.toNat (lagN all (a0.1.getD i.toNat (0, 0)) i.toNat fr (j.toNat - fr)) ∧ v.2.1 = [] ∧ v.2.2.1 = a0.2.2 + (a1.length : Int)) (fun again2 j v hj0 hjn hJ hag2 => ?_) ?_
    rotate_left
    · refine ⟨?_, rfl, rfl⟩
      show fill2 _ _ _ _ = List.set _ _ _
      rw [show (fr : Int).toNat - fr = 0 by omega]
      show _ = List.set _ _ (a0.1.getD i.toNat (0, 0))
      apply List.ext_getElem (by simp)
      intro k h1 h2
      rw [List.getElem_set]
      split
      · rename_i e
        subst e
        rw [← getD_lt (d := (0, 0)) h1, fill2_get (by omega)]
      · rfl
    obtain ⟨v, w, c, u⟩ := v
    simp only at hJ hag2 ⊢
    obtain ⟨hJ1, hJ2, hJ3⟩ := hJ
    subst hJ1 hJ2 hJ3
    rw [br_true_]
    intro _
    rw [br_dec]
    refine ⟨fun hj => ?_, fun hj => ?_⟩
    · have hb1 : (decide (0 ≤ i) && decide (i < (((fill2 a0.1.length (newLag a0 a1) (fun k => a0.1.getD k (0, 0)) i.toNat).set i.toNat (lagN all (a0.1.getD i.toNat (0, 0)) i.toNat fr (j.toNat - fr))).length : Int))) = true := by
        rw [List.length_set, hfl]; simp only [Bool.and_eq_true, decide_eq_true_eq]; omega
      have hb2 : (decide (0 ≤ j - i) && decide (j - i < (all.length : Int))) = true := by simp only [Bool.and_eq_true, decide_eq_true_eq]; omega
      have hb3 : (decide (0 ≤ j) && decide (j < (all.length : Int))) = true := by simp only [Bool.and_eq_true, decide_eq_true_eq]; omega
      rw [wr (n := j - i) (by omega) (by omega), wr (n := j + 1) (by omega) (by omega), hb1, hb2, hb3]
      simp only [br_t]
      refine hag2 _ hj ⟨?_, rfl, rfl⟩
      show List.set _ _ _ = List.set _ _ _
      rw [List.set_set, set_get (by rw [hfl]; omega), show (j + 1).toNat - fr = (j.toNat - fr) + 1 by omega]
      show List.set _ _ _ = List.set _ _ (f126 (lagN all (a0.1.getD i.toNat (0, 0)) i.toNat fr (j.toNat - fr), f127 (all.getD (fr + (j.toNat - fr) - i.toNat) (0, 0), all.getD (fr + (j.toNat - fr)) (0, 0))))
      rw [show fr + (j.toNat - fr) - i.toNat = (j - i).toNat by omega, show fr + (j.toNat - fr) = j.toNat by omega]
    · rw [wr (n := i + 1) (by omega) (by omega)]
      refine hag _ hi ⟨?_, rfl, rfl⟩
      show List.set _ _ _ = fill2 _ _ _ (i + 1).toNat
      rw [show (i + 1).toNat = i.toNat + 1 by omega, ← fill2_step (by omega)]
      congr 1
      rw [show newLag a0 a1 i.toNat = lagN all (a0.1.getD i.toNat (0, 0)) i.toNat (max i.toNat a0.2.1.length) (all.length - max i.toNat a0.2.1.length) by rw [newLag, hA], ← hfr]
      congr 1
      omega
  · have hie : i.toNat = a0.1.length := by omega
    rw [hie, fill2_all, ← hnl]
    have hll : (newLags a0 a1).length = a0.1.length := by simp [newLags]
    rw [br_dec]
    refine ⟨fun hc => hK _ ?_, fun hc => ?_⟩
    · rw [e72, if_pos (by simp [addBad, hc])]
    rw [br_true_]
    intro _
    refine LoopP.up (newLags a0 a1).length (fun i _ => ∀ x ∈ (newLags a0 a1).take i.toNat, okS x = true) (fun again2 j v hj0 hjn hJ hag2 => ?_) (by omega) all_zero
    dsimp only
    rw [br_dec]
    refine ⟨fun hj => ?_, fun hj => ?_⟩
    · rw [br_false_, wr (n := j + 1) (by omega) (by omega)]
      refine ⟨by simp only [Bool.and_eq_true, decide_eq_true_eq]; omega, ?_⟩
      rw [br_both]
      refine ⟨fun hne => ?_, fun he => hag2 () hj (all_step (d := (0, 0)) hj0 hj hJ (by simp only [Bool.not_eq_false'] at he; exact he))⟩
      rw [br_dec]
      refine ⟨fun _ => hK _ ?_, fun hh => (hh hj0).elim⟩
      rw [e72, if_pos]
      rw [addBad, Bool.or_eq_true, Bool.not_eq_true']
      refine .inr ?_
      rw [Bool.eq_false_iff]
      intro hall2
      have := List.all_eq_true.1 hall2 ((newLags a0 a1).getD j.toNat (0, 0)) (by rw [getD_lt (by omega)]; exact List.getElem_mem _)
      have e : f123 ((newLags a0 a1).getD j.toNat (0, 0)) = true := this
      rw [e] at hne
      simp at hne
    · rw [br_true_]
      intro _
      rw [br_true_]
      intro _
      rw [hll]
      have hmx : minmax true 0 (IntKind.i64.wrap (IntKind.i64.wrap ((all.length : Int) - (a0.1.length : Int)) + 1)) = ((all.length + 1 - a0.1.length : Nat) : Int) := by
        rw [wr (n := (all.length : Int) - (a0.1.length : Int)) (by omega) (by omega), wr (n := (all.length : Int) - (a0.1.length : Int) + 1) (by omega) (by omega)]
        simp only [minmax]
        split <;> omega
      rw [hmx, br_false_]
      refine ⟨decide_eq_true ⟨by omega, by omega, by omega⟩, hK _ ?_⟩
      rw [e72, if_neg]
      · have e1 : (all.length : Int).toNat = all.length := by omega
        have e2 : ((all.length + 1 - a0.1.length : Nat) : Int).toNat = all.length + 1 - a0.1.length := by omega
        rw [e1, e2, List.take_length, hA]
        rfl
      · have h1 : (newLags a0 a1).all okS = true := List.all_eq_true.2 (all_done hj hJ)
        have h2 : decide (a0.2.2 + (a1.length : Int) > 1000000000000) = false := by simpa using hc
        rw [addBad, h1, h2]
        decide
theorem f72_fn : f72_e.fn = f72 := rfl
theorem f72_ok : EntryOK Try.prog 72 f72_e := by
  refine entryF progOK (EnvOK.cons f70_ok (EnvOK.cons f93_ok (EnvOK.cons f97_ok (EnvOK.cons f123_ok (EnvOK.cons f124_ok (EnvOK.cons f125_ok (EnvOK.cons f126_ok (EnvOK.cons f127_ok (EnvOK.cons f73_ok (EnvOK.cons f74_ok (EnvOK.cons f59_ok (EnvOK.cons f42_ok (EnvOK.cons f99_ok (EnvOK.nil)))))))))))))) (A := f72_A) (d := 6) Try.func72 rfl rfl (fun _ _ => trivial) fun x hpre => ?_
  obtain ⟨a0, a1⟩ := x
  exact f72_t a0 a1 _ fun _ h => h.trans (congrFun f72_fn.symm _)
end Go.Proofs.Ytdhekhichomoiaa
end

section
namespace Go.Proofs.Ytdhekhichomoiaa
open Go Go.Pi Go.RowKit
set_option maxRecDepth 100000
set_option linter.unusedVariables false
set_option linter.unusedSimpArgs false

def f79 (s : List (Int × Int) × List (Int × Int) × Int) : Int := (f74 s).2
def f79_e : Entry := { doms := [(true, (.pair (.sl (.pair (.int .i64) (.int .i64))) (.pair (.sl (.pair (.int .i64) (.int .i64))) (.int .i64))))], cods := [(false, (.int .i64))], pre := fun _ => True, fn := f79, uq := false, total := true }
def f79_E : Env := [(74, f74_e)]
def f79_A : Anns := { loops := [], own := [] }
theorem f79_run (a0 : List (Int × Int) × List (Int × Int) × Int) (K : Int → Prop) : runF Try.prog f79_E f79_A 6 Try.f79 f79_e.doms f79_e.cods a0 K =
    (K ((f74 a0).2)) := by kernel_rfl
theorem f79_t (a0 : List (Int × Int) × List (Int × Int) × Int) (K : Int → Prop) (hK : ∀ y : Int, y = f79 a0 → K y) : RunF Try.prog f79_E f79_A 6 Try.f79 f79_e.doms f79_e.cods a0 K := by
  refine ⟨?_⟩
  rw [f79_run a0 K]
  exact hK _ rfl
theorem f79_fn : f79_e.fn = f79 := rfl
theorem f79_ok : EntryOK Try.prog 79 f79_e := by
  refine entryF progOK (EnvOK.cons f74_ok (EnvOK.nil)) (A := f79_A) (d := 6) Try.func79 rfl rfl (fun _ _ => trivial) fun x hpre => ?_
  exact f79_t x _ fun _ h => h.trans (congrFun f79_fn.symm _)
end Go.Proofs.Ytdhekhichomoiaa
end
