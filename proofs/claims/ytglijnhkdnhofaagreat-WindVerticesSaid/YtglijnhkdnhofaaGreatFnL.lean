/- What functions of the program compute, each proved once, part 12. -/
import Derived.Test.YtglijnhkdnhofaaGreatPiD
import Derived.Test.YtglijnhkdnhofaaGreatFnA
import Derived.Test.YtglijnhkdnhofaaGreatFnJ
import Derived.Test.YtglijnhkdnhofaaGreatFnK

section
namespace Go.Proofs.YtglijnhkdnhofaaGreat
open Go Go.Pi Go.RowKit
set_option maxRecDepth 100000
set_option linter.unusedVariables false
set_option linter.unusedSimpArgs false

def f29 (l : List (Int × Int × Int)) : Int := rkR l
theorem mm_max (a b : Int) : minmax true a b = max a b := by simp only [minmax]; rw [Int.max_def]; split <;> split <;> omega
theorem zt (x : V3) : (!((x.1 == 0) && ((x.2.1 == 0) && ((x.2.2 == 0) && true)))) = decide (x ≠ z3) := by
  rw [v3_z]
  by_cases h : x = z3
  · subst h; rfl
  · rw [decide_eq_false h, decide_eq_true h]; rfl
def f29_e : Entry := { doms := [(false, (.sl (.pair (.int .i64) (.pair (.int .i64) (.int .i64)))))], cods := [(false, (.int .i64))], pre := fun _ => True, fn := f29, uq := false, total := true }
def f29_E : Env := [(72, f72_e), (93, f93_e)]
def f29_A : Anns := { loops := [(1048576, { tms := [(0, .keep), (3, .data false (.int .i64)), (4, .data false (.int .i64))], obs := [], fz := [] }),
  (1048578, { tms := [(0, .keep), (3, .data false (.int .i64)), (4, .keep), (5, .data false (.int .i64))], obs := [], fz := [] }),
  (1048580, { tms := [(0, .keep), (3, .data false (.int .i64)), (4, .keep), (5, .keep), (6, .data false (.int .i64))], obs := [], fz := [] }),
  (1572893, { tms := [(0, .keep), (3, .data false (.int .i64)), (4, .keep)], obs := [], fz := [] })], own := [] }
theorem f29_run (a0 : List (Int × Int × Int)) (K : Int → Prop) : runF Tryz.prog f29_E f29_A 6 Tryz.f29 f29_e.doms f29_e.cods a0 K =
    (LoopP (V := Int × Int × Unit) (fun again v => (fun (again1 : Int → Int → Prop) (v1_0 : Int) (v1_1 : Int) =>
    br (lenOk (a0.length))
    (br (decide (v1_1 < ((a0.length) : Int)))
    (JoinQ (V := Int × Unit) (fun J => (fun (join2 : Int → Prop) =>
    br (decide (0 ≤ v1_1) && decide (v1_1 < ((a0.length) : Int)))
    (br (!(((a0.getD v1_1.toNat (0, (0, 0))).1 == 0) && ((((a0.getD v1_1.toNat (0, (0, 0))).2).1 == 0) && ((((a0.getD v1_1.toNat (0, (0, 0))).2).2 == 0) && true))))
    (join2 (minmax true v1_0 1))
    (join2 v1_0))
    False) (fun j2_0 => J (j2_0, ()))) (fun v => (fun (j2_0 : Int) =>
    LoopP (V := Int × Int × Unit) (fun again v => (fun (again3 : Int → Int → Prop) (v3_0 : Int) (v3_1 : Int) =>
    br (decide (v3_1 < v1_1))
    (br (decide (0 ≤ v1_1) && decide (v1_1 < ((a0.length) : Int)))
    (br (decide (0 ≤ v3_1) && decide (v3_1 < ((a0.length) : Int)))
    (br (!(((f93 (((a0.getD v1_1.toNat (0, (0, 0))).1, ((a0.getD v1_1.toNat (0, (0, 0))).2)), ((a0.getD v3_1.toNat (0, (0, 0))).1, ((a0.getD v3_1.toNat (0, (0, 0))).2)))).1 == 0) && ((((f93 (((a0.getD v1_1.toNat (0, (0, 0))).1, ((a0.getD v1_1.toNat (0, (0, 0))).2)), ((a0.getD v3_1.toNat (0, (0, 0))).1, ((a0.getD v3_1.toNat (0, (0, 0))).2)))).2).1 == 0) && ((((f93 (((a0.getD v1_1.toNat (0, (0, 0))).1, ((a0.getD v1_1.toNat (0, (0, 0))).2)), ((a0.getD v3_1.toNat (0, (0, 0))).1, ((a0.getD v3_1.toNat (0, (0, 0))).2)))).2).2 == 0) && true))))
    (LoopP (V := Int × Int × Unit) (fun again v => (fun (again4 : Int → Int → Prop) (v4_0 : Int) (v4_1 : Int) =>
    br (decide (v4_1 < v3_1))
    (br (decide (0 ≤ v1_1) && decide (v1_1 < ((a0.length) : Int)))
    (br (decide (0 ≤ v3_1) && decide (v3_1 < ((a0.length) : Int)))
    (br (decide (0 ≤ v4_1) && decide (v4_1 < ((a0.length) : Int)))
    (br ((f72 (((a0.getD v1_1.toNat (0, (0, 0))).1, ((a0.getD v1_1.toNat (0, (0, 0))).2)), (((a0.getD v3_1.toNat (0, (0, 0))).1, ((a0.getD v3_1.toNat (0, (0, 0))).2)), ((a0.getD v4_1.toNat (0, (0, 0))).1, ((a0.getD v4_1.toNat (0, (0, 0))).2))))) != 0)
    (again4 3 (IntKind.i64.wrap (v4_1 + 1)))
    (again4 v4_0 (IntKind.i64.wrap (v4_1 + 1))))
    False)
    False)
    False)
    (again3 v4_0 (IntKind.i64.wrap (v3_1 + 1))))
    (fun v4_0 v4_1 => again (v4_0, v4_1, ())) v.1 v.2.1) ((minmax true v3_0 2), 0, ()))
    (LoopP (V := Int × Int × Unit) (fun again v => (fun (again5 : Int → Int → Prop) (v5_0 : Int) (v5_1 : Int) =>
    br (decide (v5_1 < v3_1))
    (br (decide (0 ≤ v1_1) && decide (v1_1 < ((a0.length) : Int)))
    (br (decide (0 ≤ v3_1) && decide (v3_1 < ((a0.length) : Int)))
    (br (decide (0 ≤ v5_1) && decide (v5_1 < ((a0.length) : Int)))
    (br ((f72 (((a0.getD v1_1.toNat (0, (0, 0))).1, ((a0.getD v1_1.toNat (0, (0, 0))).2)), (((a0.getD v3_1.toNat (0, (0, 0))).1, ((a0.getD v3_1.toNat (0, (0, 0))).2)), ((a0.getD v5_1.toNat (0, (0, 0))).1, ((a0.getD v5_1.toNat (0, (0, 0))).2))))) != 0)
    (again5 3 (IntKind.i64.wrap (v5_1 + 1)))
    (again5 v5_0 (IntKind.i64.wrap (v5_1 + 1))))
    False)
    False)
    False)
    (again3 v5_0 (IntKind.i64.wrap (v3_1 + 1))))
    (fun v5_0 v5_1 => again (v5_0, v5_1, ())) v.1 v.2.1) (v3_0, 0, ())))
    False)
    False)
    (again1 v3_0 (IntKind.i64.wrap (v1_1 + 1))))
    (fun v3_0 v3_1 => again (v3_0, v3_1, ())) v.1 v.2.1) (j2_0, 0, ())) v.1))
    (K v1_0))
    True)
    (fun v1_0 v1_1 => again (v1_0, v1_1, ())) v.1 v.2.1) (0, 0, ())) := by kernel_rfl
theorem f29_t (a0 : List (Int × Int × Int)) (K : Int → Prop) (hK : ∀ y : Int, y = f29 a0 → K y) : RunF Tryz.prog f29_E f29_A 6 Tryz.f29 f29_e.doms f29_e.cods a0 K := by
  refine ⟨?_⟩
  rw [f29_run a0 K]
  have e93 : ∀ a b : V3, f93 (a, b) = w3 (cross a b) := fun _ _ => rfl
  have e72 : ∀ a b c : V3, f72 (a, b, c) = w64 (det a b c) := fun _ _ _ => rfl
  have b1 : ∀ i : Nat, (!(((a0.getD i z3).1 == 0) && (((a0.getD i z3).2.1 == 0) && (((a0.getD i z3).2.2 == 0) && true)))) = P1 a0 i := fun i => zt _
  have b2 : ∀ i k : Nat, (!(((f93 (a0.getD i z3, a0.getD k z3)).1 == 0) && (((f93 (a0.getD i z3, a0.getD k z3)).2.1 == 0) && (((f93 (a0.getD i z3, a0.getD k z3)).2.2 == 0) && true)))) = P2 a0 i k := fun i k => zt _
  have b3 : ∀ i k j : Nat, (f72 (a0.getD i z3, a0.getD k z3, a0.getD j z3) != 0) = P3 a0 i k j := fun i k j => by
    rw [e72, P3]
    by_cases h : w64 (det (a0.getD i z3) (a0.getD k z3) (a0.getD j z3)) = 0
    · rw [h, decide_eq_false (fun hh => hh rfl)]; rfl
    · rw [decide_eq_true h]; exact bne_iff_ne.2 h
  refine LoopP.up2 a0.length (fun i r (_ : Unit) => r = rk3 (any1 a0 i.toNat) (any2 a0 i.toNat) (any3 a0 i.toNat)) (fun again1 r1 i1 _ h10 h1n G1 H1 => ?_) (by omega) rfl
  obtain ⟨i, rfl⟩ := Int.eq_ofNat_of_zero_le h10
  dsimp only at G1 ⊢
  rw [br_true_, lenOk_iff]
  intro hl
  refine br_if (fun hi => ?_) fun hi => hK _ ?_
  rotate_left
  · have : i = a0.length := by omega
    subst this
    rw [G1]; rfl
  have hi : i < a0.length := by omega
  have bi := inb (show (0 : Int) ≤ i by omega) (show (i : Int) < (a0.length : Int) by omega)
  rw [wr (n := (i : Int) + 1) (by omega) (by omega)]
  rw [Int.toNat_natCast] at G1 ⊢
  have s1 : any1 a0 (i + 1) = (any1 a0 i || P1 a0 i) := any_succ _ _
  have s2 : any2 a0 (i + 1) = (any2 a0 i || an2 a0 i i) := any_succ _ _
  have s3 : any3 a0 (i + 1) = (any3 a0 i || an3' a0 i i) := any_succ _ _
  refine JoinQ.use (fun q => q = (rk3 (any1 a0 (i + 1)) (any2 a0 i) (any3 a0 i), ())) (fun G hG => ?_) fun q hq => ?_
  · refine br_must bi ?_
    rw [b1, mm_max, G1, rk3_max1]
    refine br_two (fun h => hG _ (by rw [s1, h, Bool.or_true])) fun h => hG _ (by rw [s1, h, Bool.or_false])
  subst hq
  dsimp only
  refine LoopP.up2 i (fun k r (_ : Unit) => r = rk3 (any1 a0 (i + 1)) (any2 a0 i || an2 a0 i k.toNat) (any3 a0 i || an3' a0 i k.toNat)) (fun again2 r2 k2 _ h20 h2n G2 H2 => ?_) (by omega) (by simp [an2, an3'])
  obtain ⟨k, rfl⟩ := Int.eq_ofNat_of_zero_le h20
  dsimp only at G2 ⊢
  refine br_if (fun hk => ?_) fun hk => H1 _ () (by omega) ?_
  rotate_left
  · have : k = i := by omega
    subst this
    rw [G2, show ((k : Int) + 1).toNat = k + 1 by omega, Int.toNat_natCast, s2, s3]
  have hk : k < i := by omega
  have bk := inb (show (0 : Int) ≤ k by omega) (show (k : Int) < (a0.length : Int) by omega)
  rw [wr (n := (k : Int) + 1) (by omega) (by omega)]
  rw [Int.toNat_natCast] at G2 ⊢
  have t2 : an2 a0 i (k + 1) = (an2 a0 i k || P2 a0 i k) := any_succ _ _
  have t3 : an3' a0 i (k + 1) = (an3' a0 i k || an3 a0 i k k) := any_succ _ _
  refine br_must bi (br_must bk ?_)
  show br (!(((f93 (a0.getD i z3, a0.getD k z3)).1 == 0) && (((f93 (a0.getD i z3, a0.getD k z3)).2.1 == 0) && (((f93 (a0.getD i z3, a0.getD k z3)).2.2 == 0) && true)))) _ _
  rw [b2, mm_max, G2, rk3_max2]
  have hs : ∀ b, P2 a0 i k = b → rk3 (any1 a0 (i + 1)) (if b then true else (any2 a0 i || an2 a0 i k)) (any3 a0 i || an3' a0 i k) = rk3 (any1 a0 (i + 1)) (any2 a0 i || an2 a0 i (k + 1)) (any3 a0 i || an3' a0 i k) := fun b h => by
    rw [t2, h]
    cases b <;> simp
  refine br_two (fun h => ?_) fun h => ?_
  · rw [show rk3 (any1 a0 (i + 1)) true (any3 a0 i || an3' a0 i k) = _ from hs true h]
    refine LoopP.up2 k (fun j r (_ : Unit) => r = rk3 (any1 a0 (i + 1)) (any2 a0 i || an2 a0 i (k + 1)) (any3 a0 i || an3' a0 i k || an3 a0 i k j.toNat)) (fun again3 r3 j3 _ h30 h3n G3 H3 => ?_) (by omega) (by simp [an3])
    obtain ⟨j, rfl⟩ := Int.eq_ofNat_of_zero_le h30
    dsimp only at G3 ⊢
    refine br_if (fun hj => ?_) fun hj => H2 _ () (by omega) ?_
    rotate_left
    · have : j = k := by omega
      subst this
      rw [G3, show ((j : Int) + 1).toNat = j + 1 by omega, Int.toNat_natCast, t3, Bool.or_assoc]
    have hj : j < k := by omega
    have u3 : an3 a0 i k (j + 1) = (an3 a0 i k j || P3 a0 i k j) := any_succ _ _
    rw [wr (n := (j : Int) + 1) (by omega) (by omega)]
    rw [Int.toNat_natCast] at G3 ⊢
    refine br_must bi (br_must bk (br_must (inb (by omega) (by omega)) ?_))
    show br (f72 (a0.getD i z3, a0.getD k z3, a0.getD j z3) != 0) _ _
    rw [b3, G3]
    refine br_two (fun h => H3 _ () (by omega) ?_) fun h => H3 _ () (by omega) ?_
    · rw [show ((j : Int) + 1).toNat = j + 1 by omega, u3, h, Bool.or_true, Bool.or_true]; rfl
    · rw [show ((j : Int) + 1).toNat = j + 1 by omega, u3, h, Bool.or_false]
  · rw [show rk3 (any1 a0 (i + 1)) (any2 a0 i || an2 a0 i k) (any3 a0 i || an3' a0 i k) = _ from hs false h]
    refine LoopP.up2 k (fun j r (_ : Unit) => r = rk3 (any1 a0 (i + 1)) (any2 a0 i || an2 a0 i (k + 1)) (any3 a0 i || an3' a0 i k || an3 a0 i k j.toNat)) (fun again3 r3 j3 _ h30 h3n G3 H3 => ?_) (by omega) (by simp [an3])
    obtain ⟨j, rfl⟩ := Int.eq_ofNat_of_zero_le h30
    dsimp only at G3 ⊢
    refine br_if (fun hj => ?_) fun hj => H2 _ () (by omega) ?_
    rotate_left
    · have : j = k := by omega
      subst this
      rw [G3, show ((j : Int) + 1).toNat = j + 1 by omega, Int.toNat_natCast, t3, Bool.or_assoc]
    have hj : j < k := by omega
    have u3 : an3 a0 i k (j + 1) = (an3 a0 i k j || P3 a0 i k j) := any_succ _ _
    rw [wr (n := (j : Int) + 1) (by omega) (by omega)]
    rw [Int.toNat_natCast] at G3 ⊢
    refine br_must bi (br_must bk (br_must (inb (by omega) (by omega)) ?_))
    show br (f72 (a0.getD i z3, a0.getD k z3, a0.getD j z3) != 0) _ _
    rw [b3, G3]
    refine br_two (fun h => H3 _ () (by omega) ?_) fun h => H3 _ () (by omega) ?_
    · rw [show ((j : Int) + 1).toNat = j + 1 by omega, u3, h, Bool.or_true, Bool.or_true]; rfl
    · rw [show ((j : Int) + 1).toNat = j + 1 by omega, u3, h, Bool.or_false]
theorem f29_fn : f29_e.fn = f29 := rfl
theorem f29_ok : EntryOK Tryz.prog 29 f29_e := by
  refine entryF progOK (EnvOK.cons f72_ok (EnvOK.cons f93_ok (EnvOK.nil))) (A := f29_A) (d := 6) Tryz.func29 rfl rfl rfl rfl (fun _ _ => trivial) fun x hpre => ?_
  exact f29_t x _ fun _ h => h.trans (congrFun f29_fn.symm _)
end Go.Proofs.YtglijnhkdnhofaaGreat
end

section
namespace Go.Proofs.YtglijnhkdnhofaaGreat
open Go Go.Pi Go.RowKit
set_option maxRecDepth 100000
set_option linter.unusedVariables false
set_option linter.unusedSimpArgs false

def f30 (l : List ((Int × Int × Int) × Int × Int)) : List (Int × Int × Int) := l.map (·.1)
def f30_pre (l : List ((Int × Int × Int) × Int × Int)) : Prop := l.length ≤ 1048576
def f30_e : Entry := { doms := [(false, (.sl (.pair (.pair (.int .i64) (.pair (.int .i64) (.int .i64))) (.pair (.int .i64) (.int .i64)))))], cods := [(false, (.sl (.pair (.int .i64) (.pair (.int .i64) (.int .i64)))))], pre := f30_pre, fn := f30, uq := false, total := false }
def f30_E : Env := []
def f30_A : Anns := { loops := [(1048576, { tms := [(0, .keep), (3, .ref 1053703), (4, .data false (.int .i64))], obs := [(1053703, .arr (.uniq) (.pair (.int .i64) (.pair (.int .i64) (.int .i64))))], fz := [] })], own := [] }
theorem f30_run (a0 : List ((Int × Int × Int) × Int × Int)) (K : (List (Int × Int × Int)) → Prop) : runF Tryz.prog f30_E f30_A 6 Tryz.f30 f30_e.doms f30_e.cods a0 K =
    (LoopP (V := Int × List (Int × Int × Int) × Unit) (fun again v => (fun (again1 : Int → List (Int × Int × Int) → Prop) (v1_0 : Int) (v1_1 : List (Int × Int × Int)) =>
    br (lenOk (a0.length))
    (br (decide (v1_0 < ((a0.length) : Int)))
    (br (decide (0 ≤ v1_0) && decide (v1_0 < ((a0.length) : Int)))
    (br (roomOk ((v1_1.length) + 1) 24)
    (again1 (IntKind.i64.wrap (v1_0 + 1)) (v1_1 ++ ([(((a0.getD v1_0.toNat ((0, (0, 0)), (0, 0))).1).1, (((a0.getD v1_0.toNat ((0, (0, 0)), (0, 0))).1).2))] : List (Int × Int × Int))))
    False)
    False)
    (K v1_1))
    True)
    (fun v1_0 v1_1 => again (v1_0, v1_1, ())) v.1 v.2.1) (0, ([] : List (Int × Int × Int)), ())) := by kernel_rfl
theorem f30_t (a0 : List ((Int × Int × Int) × Int × Int)) (hpre : f30_pre a0) (K : (List (Int × Int × Int)) → Prop) (hK : ∀ y : List (Int × Int × Int), y = f30 a0 → K y) : RunF Tryz.prog f30_E f30_A 6 Tryz.f30 f30_e.doms f30_e.cods a0 K := by
  refine ⟨?_⟩
  rw [f30_run a0 K]
  have hl : a0.length ≤ 1048576 := hpre
  refine LoopP.of (fun q : Int × List (Int × Int × Int) × Unit => ∃ i : Nat, i ≤ a0.length ∧ q = ((i : Int), (a0.take i).map (·.1), ())) (fun q => ((a0.length : Int) - q.1).toNat) (fun again q hq hag => ?_) ⟨0, by omega, rfl⟩
  obtain ⟨i, hi, rfl⟩ := hq
  dsimp only
  refine br_weak (br_if (fun hlt => ?_) fun hge => hK _ ?_)
  · have hlt' : i < a0.length := by omega
    refine br_must (inb (by omega) hlt) (br_must ?_ (hag _ ⟨i + 1, by omega, ?_⟩ ?_))
    · rw [roomOk_iff, List.length_map, List.length_take]; omega
    · rw [wr (by omega) (by omega), Int.toNat_natCast, List.take_succ_eq_append_getElem hlt', List.map_append, getD_lt hlt']; rfl
    · dsimp only
      rw [wr (by omega) (by omega)]; omega
  · have : i = a0.length := by omega
    rw [this, List.take_length, f30]
theorem f30_fn : f30_e.fn = f30 := rfl
theorem f30_ok : EntryOK Tryz.prog 30 f30_e := by
  refine entryF progOK (EnvOK.nil) (A := f30_A) (d := 6) Tryz.func30 rfl rfl rfl rfl (fun h => by cases h) fun x hpre => ?_
  exact f30_t x hpre _ fun _ h => h.trans (congrFun f30_fn.symm _)
end Go.Proofs.YtglijnhkdnhofaaGreat
end

section
namespace Go.Proofs.YtglijnhkdnhofaaGreat
open Go Go.Pi Go.RowKit
set_option maxRecDepth 100000
set_option linter.unusedVariables false
set_option linter.unusedSimpArgs false

def winE (l : List Rd) : Int := if (rdOf l).2 ≠ 0 then (rdOf l).2 else if (rkOwn (l.map (·.1))).length ≠ 3 then 19 else if (vtx l).length = 0 then 12 else 0
def f19 (l : List ((Int × Int × Int) × Int × Int)) : Int := winE l
theorem dirs_ok {l : List Rd} (h : RdOK l) : Dirs (l.map (·.1)) := by
  refine ⟨fun d hd => ?_, fun d hd => ?_⟩
  · obtain ⟨r, hr, rfl⟩ := List.mem_map.1 hd; exact (h.dir r hr).1
  · obtain ⟨r, hr, rfl⟩ := List.mem_map.1 hd; exact (h.dir r hr).2
def f19_e : Entry := { doms := [(false, (.sl (.pair (.pair (.int .i64) (.pair (.int .i64) (.int .i64))) (.pair (.int .i64) (.int .i64)))))], cods := [(false, (.int .i64))], pre := fun _ => True, fn := f19, uq := false, total := true }
def f19_E : Env := [(17, f17_e), (24, f24_e), (29, f29_e), (30, f30_e)]
def f19_A : Anns := { loops := [], own := [] }
theorem f19_run (a0 : List ((Int × Int × Int) × Int × Int)) (K : Int → Prop) : runF Tryz.prog f19_E f19_A 6 Tryz.f19 f19_e.doms f19_e.cods a0 K =
    (br ((f24 a0) != 0)
    (K (f24 a0))
    (f30_pre a0 ∧
    br (decide ((f29 (f30 a0)) < 3))
    (K 19)
    (f17_pre a0 ∧
    br (lenOk ((f17 a0).length))
    (br ((((f17 a0).length) : Int) == 0)
    (K 12)
    (K 0))
    True))) := by kernel_rfl
theorem f19_t (a0 : List ((Int × Int × Int) × Int × Int)) (K : Int → Prop) (hK : ∀ y : Int, y = f19 a0 → K y) : RunF Tryz.prog f19_E f19_A 6 Tryz.f19 f19_e.doms f19_e.cods a0 K := by
  refine ⟨?_⟩
  rw [f19_run a0 K]
  have e24 : f24 a0 = (rdOf a0).2 := rfl
  have e30 : f30 a0 = a0.map (·.1) := rfl
  have e29 : f29 (a0.map (·.1)) = rkR (a0.map (·.1)) := rfl
  have e17 : f17 a0 = vtx a0 := rfl
  have e0 : f19 a0 = winE a0 := rfl
  simp only [e24, e30, e29, e17]
  refine br_two (fun h => hK _ ?_) fun h => ?_
  · rw [e0, winE, if_pos (bne_t.1 h)]
  have h := bne_f.1 h
  have ok := rdOf_ok h
  have h3 := rkOwn_len (a0.map (·.1))
  have h6 := ok.six
  rw [rkR_eq (dirs_ok ok)]
  refine ⟨show a0.length ≤ 1048576 by omega, br_if (fun h2 => hK _ ?_) fun h2 => ?_⟩
  rotate_left
  · have e3 : (rkOwn (a0.map (·.1))).length = 3 := Nat.le_antisymm h3 (Int.ofNat_le.1 (Int.not_lt.1 h2))
    refine ⟨ok.rdLe, br_weak (br_two (fun h5 => hK _ ?_) fun h5 => hK _ ?_)⟩
    · have h5 := beq_iff_eq.1 h5
      rw [e0, winE, if_neg (fun hh => hh h), if_neg (fun hh => hh e3), if_pos (by omega)]
    · have h5 := beq_eq_false_iff_ne.1 h5
      rw [e0, winE, if_neg (fun hh => hh h), if_neg (fun hh => hh e3), if_neg (by omega)]
  · have e3 : (rkOwn (a0.map (·.1))).length ≠ 3 := fun hh => by
      have h9 : ((rkOwn (a0.map (·.1))).length : Int) < 3 := h2
      rw [hh] at h9
      omega
    rw [e0, winE, if_neg (fun hh => hh h), if_pos e3]
theorem f19_fn : f19_e.fn = f19 := rfl
theorem f19_ok : EntryOK Tryz.prog 19 f19_e := by
  refine entryF progOK (EnvOK.cons f17_ok (EnvOK.cons f24_ok (EnvOK.cons f29_ok (EnvOK.cons f30_ok (EnvOK.nil))))) (A := f19_A) (d := 6) Tryz.func19 rfl rfl rfl rfl (fun _ _ => trivial) fun x hpre => ?_
  exact f19_t x _ fun _ h => h.trans (congrFun f19_fn.symm _)
end Go.Proofs.YtglijnhkdnhofaaGreat
end

section
namespace Go.Proofs.YtglijnhkdnhofaaGreat
open Go Go.Pi Go.RowKit
set_option maxRecDepth 100000
set_option linter.unusedVariables false
set_option linter.unusedSimpArgs false

def hwE (l : List Rd) (d : V3) : Int := if (rdOf l).2 ≠ 0 then (rdOf l).2 else if dirE d ≠ 0 then dirE d else winE l
def f15 (x : List ((Int × Int × Int) × Int × Int) × Int × Int × Int) : Int := hwE x.1 x.2
def f15_e : Entry := { doms := [(false, (.sl (.pair (.pair (.int .i64) (.pair (.int .i64) (.int .i64))) (.pair (.int .i64) (.int .i64))))), (true, (.pair (.int .i64) (.pair (.int .i64) (.int .i64))))], cods := [(false, (.int .i64))], pre := fun _ => True, fn := f15, uq := false, total := true }
def f15_E : Env := [(19, f19_e), (24, f24_e), (32, f32_e)]
def f15_A : Anns := { loops := [], own := [] }
theorem f15_run (a0 : List ((Int × Int × Int) × Int × Int)) (a1 : Int × Int × Int) (K : Int → Prop) : runF Tryz.prog f15_E f15_A 6 Tryz.f15 f15_e.doms f15_e.cods (a0, a1) K =
    (br ((f24 a0) != 0)
    (K (f24 a0))
    (br ((f32 a1) != 0)
    (K (f32 a1))
    (K (f19 a0)))) := by kernel_rfl
theorem f15_t (a0 : List ((Int × Int × Int) × Int × Int)) (a1 : Int × Int × Int) (K : Int → Prop) (hK : ∀ y : Int, y = f15 (a0, a1) → K y) : RunF Tryz.prog f15_E f15_A 6 Tryz.f15 f15_e.doms f15_e.cods (a0, a1) K := by
  refine ⟨?_⟩
  rw [f15_run a0 a1 K]
  have e24 : f24 a0 = (rdOf a0).2 := rfl
  have e32 : f32 a1 = dirE a1 := rfl
  have e19 : f19 a0 = winE a0 := rfl
  have e0 : f15 (a0, a1) = hwE a0 a1 := rfl
  simp only [e24, e32, e19]
  refine br_two (fun h => hK _ ?_) fun h => br_two (fun h2 => hK _ ?_) fun h2 => hK _ ?_
  · rw [e0, hwE, if_pos (bne_t.1 h)]
  · rw [e0, hwE, if_neg (fun hh => hh (bne_f.1 h)), if_pos (bne_t.1 h2)]
  · rw [e0, hwE, if_neg (fun hh => hh (bne_f.1 h)), if_neg (fun hh => hh (bne_f.1 h2))]
theorem f15_fn : f15_e.fn = f15 := rfl
theorem f15_ok : EntryOK Tryz.prog 15 f15_e := by
  refine entryF progOK (EnvOK.cons f19_ok (EnvOK.cons f24_ok (EnvOK.cons f32_ok (EnvOK.nil)))) (A := f15_A) (d := 6) Tryz.func15 rfl rfl rfl rfl (fun _ _ => trivial) fun x hpre => ?_
  obtain ⟨a0, a1⟩ := x
  exact f15_t a0 a1 _ fun _ h => h.trans (congrFun f15_fn.symm _)
end Go.Proofs.YtglijnhkdnhofaaGreat
end

section
namespace Go.Proofs.YtglijnhkdnhofaaGreat
open Go Go.Pi Go.RowKit
set_option maxRecDepth 100000
set_option linter.unusedVariables false
set_option linter.unusedSimpArgs false

def f35 (x : Int × Int) : Int × Int := low x.1 x.2
def f35_pre (x : Int × Int) : Prop := Fit x.1 ∧ Fit x.2 ∧ x.2 ≠ 0
def f35_e : Entry := { doms := [(false, (.int .i64)), (false, (.int .i64))], cods := [(true, (.pair (.int .i64) (.int .i64)))], pre := f35_pre, fn := f35, uq := false, total := false }
def f35_E : Env := [(94, f94_e)]
def f35_A : Anns := { loops := [], own := [] }
theorem f35_run (a0 : Int) (a1 : Int) (K : (Int × Int) → Prop) : runF Tryz.prog f35_E f35_A 6 Tryz.f35 f35_e.doms f35_e.cods (a0, a1) K =
    (f94_pre (a0, a1) ∧
    br (decide (a1 < 0))
    (br (!(decide ((IntKind.i64.wrap (0 - (f94 (a0, a1)))) = 0)))
    (br (!(decide ((IntKind.i64.wrap (0 - (f94 (a0, a1)))) = 0)))
    (K ((IntKind.i64.wrap (a0.tdiv (IntKind.i64.wrap (0 - (f94 (a0, a1)))))), (IntKind.i64.wrap (a1.tdiv (IntKind.i64.wrap (0 - (f94 (a0, a1))))))))
    False)
    False)
    (br (!(decide ((f94 (a0, a1)) = 0)))
    (br (!(decide ((f94 (a0, a1)) = 0)))
    (K ((IntKind.i64.wrap (a0.tdiv (f94 (a0, a1)))), (IntKind.i64.wrap (a1.tdiv (f94 (a0, a1))))))
    False)
    False)) := by kernel_rfl
theorem f35_t (a0 : Int) (a1 : Int) (hpre : f35_pre (a0, a1)) (K : (Int × Int) → Prop) (hK : ∀ y : Int × Int, y = f35 (a0, a1) → K y) : RunF Tryz.prog f35_E f35_A 6 Tryz.f35 f35_e.doms f35_e.cods (a0, a1) K := by
  refine ⟨?_⟩
  rw [f35_run a0 a1 K]
  obtain ⟨h1, h2, h3⟩ := hpre
  dsimp only at h1 h2 h3
  have hg : f94 (a0, a1) = (Nat.gcd a0.natAbs a1.natAbs : Int) := rfl
  have hpos : 0 < Nat.gcd a0.natAbs a1.natAbs := Nat.gcd_pos_of_pos_right _ (by omega)
  have hle2 : Nat.gcd a0.natAbs a1.natAbs ≤ 9223372036854775807 := Nat.le_trans (Nat.gcd_le_right _ (by omega)) (by have := h2.1; have := h2.2; omega)
  have hng : IntKind.i64.wrap (0 - (Nat.gcd a0.natAbs a1.natAbs : Int)) = -(Nat.gcd a0.natAbs a1.natAbs : Int) := by rw [wr (by omega) (by omega)]; omega
  have hw : ∀ n : Int, Fit n → IntKind.i64.wrap n = n := fun n h => w64_fit h
  rw [hg, hng]
  refine ⟨⟨h1, h2⟩, br_if (fun hd => br_must (ne_zero_b (by omega)) (br_must (ne_zero_b (by omega)) (hK _ ?_))) fun hd => br_must (ne_zero_b (by omega)) (br_must (ne_zero_b (by omega)) (hK _ ?_))⟩
  · rw [hw _ (tdiv_fit h1), hw _ (tdiv_fit h2), f35, low, if_pos hd]
  · rw [hw _ (tdiv_fit h1), hw _ (tdiv_fit h2), f35, low, if_neg hd]
theorem f35_fn : f35_e.fn = f35 := rfl
theorem f35_ok : EntryOK Tryz.prog 35 f35_e := by
  refine entryF progOK (EnvOK.cons f94_ok (EnvOK.nil)) (A := f35_A) (d := 6) Tryz.func35 rfl rfl rfl rfl (fun h => by cases h) fun x hpre => ?_
  obtain ⟨a0, a1⟩ := x
  exact f35_t a0 a1 hpre _ fun _ h => h.trans (congrFun f35_fn.symm _)
end Go.Proofs.YtglijnhkdnhofaaGreat
end
