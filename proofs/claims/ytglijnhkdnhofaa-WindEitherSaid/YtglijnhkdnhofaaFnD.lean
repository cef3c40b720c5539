/- What functions of the program compute, each proved once, part 4. -/
import Derived.Test.YtglijnhkdnhofaaPiD
import Derived.Test.YtglijnhkdnhofaaFnA
import Derived.Test.YtglijnhkdnhofaaFnC
import Derived.Test.YtglijnhkdnhofaaFnB

section
namespace Go.Proofs.Ytglijnhkdnhofaa
open Go Go.Pi Go.RowKit
set_option maxRecDepth 100000
set_option linter.unusedVariables false
set_option linter.unusedSimpArgs false

def f105 (x : List ((Int × Int × Int) × Int × Int) × Int × Int × Int) : ((Int × Int) × Int × Int) × Int := rangeW x.1 x.2
def f105_tail (a0 : List ((Int × Int × Int) × Int × Int)) (a1 : Int × Int × Int) (K : ((Int × Int) × Int × Int) × Int → Prop) (j1_0 : Int) : Prop :=
  br (j1_0 != 0)
  (K (((0, 0), (0, 0)), j1_0))
  (JoinQ (V := List (Int × Int) × Unit) (fun J => (fun (join3 : List (Int × Int) → Prop) =>
  f96_pre ((f71 a0).1) ∧
  br (lenOk ((f96 ((f71 a0).1)).length))
  (LoopP (V := Int × List (Int × Int) × Unit) (fun again v => (fun (again2 : Int → List (Int × Int) → Prop) (v2_0 : Int) (v2_1 : List (Int × Int)) =>
  br (decide (v2_0 < (((f96 ((f71 a0).1)).length) : Int)))
  (br (decide (0 ≤ v2_0) && decide (v2_0 < (((f96 ((f71 a0).1)).length) : Int)))
  (f63_pre ((f103 (((f102 (((f96 ((f71 a0).1)).getD v2_0.toNat (0, (0, (0, 0)))).1, ((((f96 ((f71 a0).1)).getD v2_0.toNat (0, (0, (0, 0)))).2).1, ((((f96 ((f71 a0).1)).getD v2_0.toNat (0, (0, (0, 0)))).2).2)))).1, ((f102 (((f96 ((f71 a0).1)).getD v2_0.toNat (0, (0, (0, 0)))).1, ((((f96 ((f71 a0).1)).getD v2_0.toNat (0, (0, (0, 0)))).2).1, ((((f96 ((f71 a0).1)).getD v2_0.toNat (0, (0, (0, 0)))).2).2)))).2)), a1)), ((((f96 ((f71 a0).1)).getD v2_0.toNat (0, (0, (0, 0)))).2).2).2) ∧
  br (roomOk ((v2_1.length) + 1) 16)
  (again2 (IntKind.i64.wrap (v2_0 + 1)) (v2_1 ++ ([(f63 ((f103 (((f102 (((f96 ((f71 a0).1)).getD v2_0.toNat (0, (0, (0, 0)))).1, ((((f96 ((f71 a0).1)).getD v2_0.toNat (0, (0, (0, 0)))).2).1, ((((f96 ((f71 a0).1)).getD v2_0.toNat (0, (0, (0, 0)))).2).2)))).1, ((f102 (((f96 ((f71 a0).1)).getD v2_0.toNat (0, (0, (0, 0)))).1, ((((f96 ((f71 a0).1)).getD v2_0.toNat (0, (0, (0, 0)))).2).1, ((((f96 ((f71 a0).1)).getD v2_0.toNat (0, (0, (0, 0)))).2).2)))).2)), a1)), ((((f96 ((f71 a0).1)).getD v2_0.toNat (0, (0, (0, 0)))).2).2).2))] : List (Int × Int))))
  False)
  False)
  (join3 v2_1))
  (fun v2_0 v2_1 => again (v2_0, v2_1, ())) v.1 v.2.1) (0, ([] : List (Int × Int)), ()))
  True) (fun j3_0 => J (j3_0, ()))) (fun v => (fun (j3_0 : List (Int × Int)) =>
  br (lenOk (j3_0.length))
  (br (((j3_0.length) : Int) == 0)
  (K (((0, 0), (0, 0)), 12))
  (br (lenOk (j3_0.length))
  (br (decide (((j3_0.length) : Int) < 1))
  (False)
  (br (decide (0 ≤ 0) && decide (0 < ((j3_0.length) : Int)))
  (LoopP (V := Int × Int × Int × Unit) (fun again v => (fun (again4 : Int → Int → Int → Prop) (v4_0 : Int) (v4_1 : Int) (v4_2 : Int) =>
  br (lenOk (j3_0.length))
  (br (decide (v4_0 < ((j3_0.length) : Int)))
  (br (decide (0 ≤ v4_0) && decide (v4_0 < ((j3_0.length) : Int)))
  (br (decide ((f131 ((j3_0.getD v4_0.toNat (0, 0)), (v4_1, v4_2))) < 0))
  (br (decide (0 ≤ v4_0) && decide (v4_0 < ((j3_0.length) : Int)))
  (again4 (IntKind.i64.wrap (v4_0 + 1)) ((j3_0.getD v4_0.toNat (0, 0)).1) ((j3_0.getD v4_0.toNat (0, 0)).2))
  False)
  (again4 (IntKind.i64.wrap (v4_0 + 1)) v4_1 v4_2))
  False)
  (br (lenOk (j3_0.length))
  (br (decide (((j3_0.length) : Int) < 1))
  (False)
  (br (decide (0 ≤ 0) && decide (0 < ((j3_0.length) : Int)))
  (LoopP (V := Int × Int × Int × Unit) (fun again v => (fun (again5 : Int → Int → Int → Prop) (v5_0 : Int) (v5_1 : Int) (v5_2 : Int) =>
  br (lenOk (j3_0.length))
  (br (decide (v5_0 < ((j3_0.length) : Int)))
  (br (decide (0 ≤ v5_0) && decide (v5_0 < ((j3_0.length) : Int)))
  (br (decide ((f131 ((j3_0.getD v5_0.toNat (0, 0)), (v5_1, v5_2))) > 0))
  (br (decide (0 ≤ v5_0) && decide (v5_0 < ((j3_0.length) : Int)))
  (again5 (IntKind.i64.wrap (v5_0 + 1)) ((j3_0.getD v5_0.toNat (0, 0)).1) ((j3_0.getD v5_0.toNat (0, 0)).2))
  False)
  (again5 (IntKind.i64.wrap (v5_0 + 1)) v5_1 v5_2))
  False)
  (K (((v4_1, v4_2), (v5_1, v5_2)), 0)))
  True)
  (fun v5_0 v5_1 v5_2 => again (v5_0, v5_1, v5_2, ())) v.1 v.2.1 v.2.2.1) (1, (j3_0.getD 0 (0, 0)).1, (j3_0.getD 0 (0, 0)).2, ()))
  False))
  True))
  True)
  (fun v4_0 v4_1 v4_2 => again (v4_0, v4_1, v4_2, ())) v.1 v.2.1 v.2.2.1) (1, (j3_0.getD 0 (0, 0)).1, (j3_0.getD 0 (0, 0)).2, ()))
  False))
  True))
  True) v.1))
def f105_e : Entry := { doms := [(false, (.sl (.pair (.pair (.int .i64) (.pair (.int .i64) (.int .i64))) (.pair (.int .i64) (.int .i64))))), (true, (.pair (.int .i64) (.pair (.int .i64) (.int .i64))))], cods := [(true, (.pair (.pair (.int .i64) (.int .i64)) (.pair (.int .i64) (.int .i64)))), (false, (.int .i64))], pre := fun _ => True, fn := f105, uq := false, total := true }
def f105_E : Env := [(59, f59_e), (63, f63_e), (70, f70_e), (71, f71_e), (96, f96_e), (102, f102_e), (103, f103_e), (127, f127_e), (131, f131_e)]
def f105_A : Anns := { loops := [(1048576, { tms := [(3, .keep), (4, .keep), (8, .ref 1059849), (30, .keep), (31, .keep), (32, .data false (.int .i64))], obs := [(1048576, .keep), (1048577, .keep), (1059849, .arr (.uniq) (.pair (.int .i64) (.int .i64)))], fz := [] }),
  (1572885, { tms := [(3, .keep), (4, .keep), (6, .keep), (7, .data false (.int .i64))], obs := [(1048576, .keep), (1048577, .keep)], fz := [] }),
  (1572917, { tms := [(4, .keep), (8, .ref 1059849)], obs := [(1048577, .keep), (1059849, .arr (.uniq) (.pair (.int .i64) (.int .i64)))], fz := [] }),
  (1115618803712, { tms := [(0, .keep), (1, .keep), (4, .keep), (5, .keep), (6, .data false (.int .i64))], obs := [(1048577, .keep), (1059849, .keep), (1115618803712, .keep), (1115618806787, .cells [.data (.int .i64), .data (.int .i64)])], fz := [] }),
  (1115620900864, { tms := [(0, .keep), (1, .keep), (4, .keep), (5, .keep), (6, .data false (.int .i64))], obs := [(1048577, .keep), (1059849, .keep), (1115618803712, .keep), (1115618806787, .keep), (1115620900864, .keep), (1115620903939, .cells [.data (.int .i64), .data (.int .i64)])], fz := [] })], own := [] }
theorem f105_run (a0 : List ((Int × Int × Int) × Int × Int)) (a1 : Int × Int × Int) (K : (((Int × Int) × Int × Int) × Int) → Prop) : runF Try.prog f105_E f105_A 6 Try.f105 f105_e.doms f105_e.cods (a0, a1) K =
    (JoinQ (V := Int × Unit) (fun J => (fun (join1 : Int → Prop) =>
    br ((f59 ([(f71 a0).2, (f70 a1)] : List Int)) == 0)
    (join1 (f127 ((f71 a0).1)))
    (join1 (f59 ([(f71 a0).2, (f70 a1)] : List Int)))) (fun j1_0 => J (j1_0, ()))) (fun v => (fun (j1_0 : Int) =>
    br (j1_0 != 0)
    (K (((0, 0), (0, 0)), j1_0))
    (JoinQ (V := List (Int × Int) × Unit) (fun J => (fun (join3 : List (Int × Int) → Prop) =>
    f96_pre ((f71 a0).1) ∧
    br (lenOk ((f96 ((f71 a0).1)).length))
    (LoopP (V := Int × List (Int × Int) × Unit) (fun again v => (fun (again2 : Int → List (Int × Int) → Prop) (v2_0 : Int) (v2_1 : List (Int × Int)) =>
    br (decide (v2_0 < (((f96 ((f71 a0).1)).length) : Int)))
    (br (decide (0 ≤ v2_0) && decide (v2_0 < (((f96 ((f71 a0).1)).length) : Int)))
    (f63_pre ((f103 (((f102 (((f96 ((f71 a0).1)).getD v2_0.toNat (0, (0, (0, 0)))).1, ((((f96 ((f71 a0).1)).getD v2_0.toNat (0, (0, (0, 0)))).2).1, ((((f96 ((f71 a0).1)).getD v2_0.toNat (0, (0, (0, 0)))).2).2)))).1, ((f102 (((f96 ((f71 a0).1)).getD v2_0.toNat (0, (0, (0, 0)))).1, ((((f96 ((f71 a0).1)).getD v2_0.toNat (0, (0, (0, 0)))).2).1, ((((f96 ((f71 a0).1)).getD v2_0.toNat (0, (0, (0, 0)))).2).2)))).2)), a1)), ((((f96 ((f71 a0).1)).getD v2_0.toNat (0, (0, (0, 0)))).2).2).2) ∧
    br (roomOk ((v2_1.length) + 1) 16)
    (again2 (IntKind.i64.wrap (v2_0 + 1)) (v2_1 ++ ([(f63 ((f103 (((f102 (((f96 ((f71 a0).1)).getD v2_0.toNat (0, (0, (0, 0)))).1, ((((f96 ((f71 a0).1)).getD v2_0.toNat (0, (0, (0, 0)))).2).1, ((((f96 ((f71 a0).1)).getD v2_0.toNat (0, (0, (0, 0)))).2).2)))).1, ((f102 (((f96 ((f71 a0).1)).getD v2_0.toNat (0, (0, (0, 0)))).1, ((((f96 ((f71 a0).1)).getD v2_0.toNat (0, (0, (0, 0)))).2).1, ((((f96 ((f71 a0).1)).getD v2_0.toNat (0, (0, (0, 0)))).2).2)))).2)), a1)), ((((f96 ((f71 a0).1)).getD v2_0.toNat (0, (0, (0, 0)))).2).2).2))] : List (Int × Int))))
    False)
    False)
    (join3 v2_1))
    (fun v2_0 v2_1 => again (v2_0, v2_1, ())) v.1 v.2.1) (0, ([] : List (Int × Int)), ()))
    True) (fun j3_0 => J (j3_0, ()))) (fun v => (fun (j3_0 : List (Int × Int)) =>
    br (lenOk (j3_0.length))
    (br (((j3_0.length) : Int) == 0)
    (K (((0, 0), (0, 0)), 12))
    (br (lenOk (j3_0.length))
    (br (decide (((j3_0.length) : Int) < 1))
    (False)
    (br (decide (0 ≤ 0) && decide (0 < ((j3_0.length) : Int)))
    (LoopP (V := Int × Int × Int × Unit) (fun again v => (fun (again4 : Int → Int → Int → Prop) (v4_0 : Int) (v4_1 : Int) (v4_2 : Int) =>
    br (lenOk (j3_0.length))
    (br (decide (v4_0 < ((j3_0.length) : Int)))
    (br (decide (0 ≤ v4_0) && decide (v4_0 < ((j3_0.length) : Int)))
    (br (decide ((f131 ((j3_0.getD v4_0.toNat (0, 0)), (v4_1, v4_2))) < 0))
    (br (decide (0 ≤ v4_0) && decide (v4_0 < ((j3_0.length) : Int)))
    (again4 (IntKind.i64.wrap (v4_0 + 1)) ((j3_0.getD v4_0.toNat (0, 0)).1) ((j3_0.getD v4_0.toNat (0, 0)).2))
    False)
    (again4 (IntKind.i64.wrap (v4_0 + 1)) v4_1 v4_2))
    False)
    (br (lenOk (j3_0.length))
    (br (decide (((j3_0.length) : Int) < 1))
    (False)
    (br (decide (0 ≤ 0) && decide (0 < ((j3_0.length) : Int)))
    (LoopP (V := Int × Int × Int × Unit) (fun again v => (fun (again5 : Int → Int → Int → Prop) (v5_0 : Int) (v5_1 : Int) (v5_2 : Int) =>
    br (lenOk (j3_0.length))
    (br (decide (v5_0 < ((j3_0.length) : Int)))
    (br (decide (0 ≤ v5_0) && decide (v5_0 < ((j3_0.length) : Int)))
    (br (decide ((f131 ((j3_0.getD v5_0.toNat (0, 0)), (v5_1, v5_2))) > 0))
    (br (decide (0 ≤ v5_0) && decide (v5_0 < ((j3_0.length) : Int)))
    (again5 (IntKind.i64.wrap (v5_0 + 1)) ((j3_0.getD v5_0.toNat (0, 0)).1) ((j3_0.getD v5_0.toNat (0, 0)).2))
    False)
    (again5 (IntKind.i64.wrap (v5_0 + 1)) v5_1 v5_2))
    False)
    (K (((v4_1, v4_2), (v5_1, v5_2)), 0)))
    True)
    (fun v5_0 v5_1 v5_2 => again (v5_0, v5_1, v5_2, ())) v.1 v.2.1 v.2.2.1) (1, (j3_0.getD 0 (0, 0)).1, (j3_0.getD 0 (0, 0)).2, ()))
    False))
    True))
    True)
    (fun v4_0 v4_1 v4_2 => again (v4_0, v4_1, v4_2, ())) v.1 v.2.1 v.2.2.1) (1, (j3_0.getD 0 (0, 0)).1, (j3_0.getD 0 (0, 0)).2, ()))
    False))
    True))
    True) v.1))) v.1)) := by kernel_rfl
theorem f105_t (a0 : List ((Int × Int × Int) × Int × Int)) (a1 : Int × Int × Int) (K : (((Int × Int) × Int × Int) × Int) → Prop) (hK : ∀ y : ((Int × Int) × Int × Int) × Int, y = f105 (a0, a1) → K y) : RunF Try.prog f105_E f105_A 6 Try.f105 f105_e.doms f105_e.cods (a0, a1) K := by
  refine ⟨?_⟩
  rw [f105_run a0 a1 K]
  have ek : f59 [(f71 a0).2, f70 a1] = if (rdOf a0).2 ≠ 0 then (rdOf a0).2 else dirE a1 := by
    rw [f59_cons, f59_cons, f59_nil]
    show (if (rdOf a0).2 = 0 then if dirE a1 = 0 then 0 else dirE a1 else (rdOf a0).2) = _
    by_cases h1 : (rdOf a0).2 = 0 <;> by_cases h2 : dirE a1 = 0 <;> simp [h1, h2]
  have ef : f127 (f71 a0).1 = if (rkOwn (a0.map (·.1))).length = 3 then 0 else 19 := rfl
  have e0 : f105 (a0, a1) = rangeW a0 a1 := rfl
  rw [ek, ef]
  refine ⟨?_⟩
  dsimp only
  have rest : ∀ e : Int, e = errW a0 a1 → f105_tail a0 a1 K e := fun e he => by
    unfold f105_tail
    refine br_two (fun h => hK _ (by rw [e0, rangeW_err _ _ (by rw [← he]; exact bne_t.1 h), he]; rfl)) fun h => ?_
    obtain ⟨h1, h2, h3⟩ := errW_zero (he.symm.trans (bne_f.1 h))
    have hle := (rdOf_ok h1).rdLe
    have hd := (dirE_zero h2).1
    have hfs := fracs_fs hle hd
    have hlen : (vtx a0).length ≤ 4096 := by
      have h5 : ∀ (l acc : List WV), (l.foldl insW acc).length ≤ acc.length + l.length := by
        intro l
        induction l with
        | nil => intro acc; simp
        | cons v r ih =>
          intro acc
          have h6 : ∀ a : List WV, (insW a v).length ≤ a.length + 1 := fun a => by
            induction a with
            | nil => simp [insW]
            | cons w s ih2 => unfold insW; split <;> (try split) <;> simp <;> omega
          have := ih (insW acc v)
          have := h6 acc
          simp only [List.foldl_cons, List.length_cons]; omega
      have := h5 (cands a0) []
      have := cands_len hle
      simp only [List.length_nil] at *
      show (sortW _).length ≤ _
      unfold sortW
      omega
    -- the two picks
    have pickL : ∀ (t : Int → Bool) (l : List (Int × Int)) (step : (Int × Int × Int × Unit → Prop) → Int × Int × Int × Unit → Prop), l = fracs (vtx a0) a1 → 0 < l.length →
        (∀ again (i : Nat) (m : Int × Int), FS m → (i < l.length → FS (l.getD i (0, 0)) → again ((i : Int) + 1, (pickF t m (l.getD i (0, 0))).1, (pickF t m (l.getD i (0, 0))).2, ())) → (¬ (i : Int) < l.length → m = pick t l) → step again ((i : Int), m.1, m.2, ())) → LoopP step (1, (l.getD 0 (0, 0)).1, (l.getD 0 (0, 0)).2, ()) := fun t l step hl hl0 hstep => by
      subst hl
      refine LoopP.of (fun q => ∃ i : Nat, 1 ≤ i ∧ i ≤ (fracs (vtx a0) a1).length ∧ q = ((i : Int), (pick t ((fracs (vtx a0) a1).take i)).1, (pick t ((fracs (vtx a0) a1).take i)).2, ())) (fun q => ((fracs (vtx a0) a1).length - q.1).toNat) (fun again q hq hag => ?_) ⟨1, by omega, by omega, ?_⟩
      · obtain ⟨i, hi1, hi2, rfl⟩ := hq
        have hfi : FS (pick t ((fracs (vtx a0) a1).take i)) := pick_fs (by rw [List.length_take]; omega) fun x hx => hfs x (List.mem_of_mem_take hx)
        refine hstep again i _ hfi (fun hlt _ => ?_) (fun hge => ?_)
        · refine hag _ ⟨i + 1, by omega, by omega, ?_⟩ (by dsimp only; omega)
          rw [pick_take t _ hi1 hlt]; simp
        · have : i = (fracs (vtx a0) a1).length := by omega
          rw [this, List.take_length]
      · have : (pick t ((fracs (vtx a0) a1).take 1)) = (fracs (vtx a0) a1).getD 0 (0, 0) := by
          unfold pick
          have e9 : ((fracs (vtx a0) a1).take 1).drop 1 = [] := by simp
          rw [e9]
          simp only [List.foldl_nil, List.getD_eq_getElem?_getD, List.getElem?_take]
          rfl
        rw [this]; rfl
    refine ⟨?_⟩
    dsimp only
    refine ⟨hle, br_weak ?_⟩
    have ew : ∀ i : Nat, i < (vtx a0).length → FS (low (dot (wpt ((vtx a0).getD i (0, 0, 0, 0))) a1) ((vtx a0).getD i (0, 0, 0, 0)).2.2.2) := fun i hi => hfs _ (List.mem_map.2 ⟨_, getD_mem hi, rfl⟩)
    have hv : ∀ i : Nat, i < (vtx a0).length → f63_pre (w64 (dot (wpt ((vtx a0).getD i (0, 0, 0, 0))) a1), ((vtx a0).getD i (0, 0, 0, 0)).2.2.2) ∧ w64 (dot (wpt ((vtx a0).getD i (0, 0, 0, 0))) a1) = dot (wpt ((vtx a0).getD i (0, 0, 0, 0))) a1 := fun i hi => by
      obtain ⟨k1, k2, k3⟩ := cands_ok hle _ (vtx_mem.1 (getD_mem (d := ((0, 0, 0, 0) : WV)) hi))
      have k4 := dot_le k3 hd
      have k5 := k1.den
      have k6 : Fit (dot (wpt ((vtx a0).getD i (0, 0, 0, 0))) a1) := ⟨by omega, by omega⟩
      rw [w64_fit k6]
      exact ⟨⟨k6, ⟨by dsimp only; omega, by dsimp only; omega⟩, by dsimp only; omega⟩, rfl⟩
    refine LoopP.of (fun q : Int × List (Int × Int) × Unit => ∃ i : Nat, i ≤ (vtx a0).length ∧ q.1 = (i : Int) ∧ q.2.1 = fracs ((vtx a0).take i) a1) (fun q => (((vtx a0).length : Int) - q.1).toNat) (fun again q hq hag => ?_) ⟨0, by omega, rfl, rfl⟩
    obtain ⟨j, out, u⟩ := q
    obtain ⟨i, hi, e1, e2⟩ := hq
    simp only at e1 e2
    subst e1
    dsimp only
    have hol : out.length = i := by rw [e2]; simp [fracs]; omega
    refine br_if (fun hlt => ?_) fun hlt => ?_
    · have hlt : i < (vtx a0).length := by have : (i : Int) < ((vtx a0).length : Int) := hlt; omega
      have hvi := hv i hlt
      refine br_must (inb (by omega) (show (i : Int) < ((vtx a0).length : Int) by omega)) ⟨?_, br_must (by rw [roomOk_iff]; omega) ?_⟩
      · exact hvi.1
      · rw [wr (n := (i : Int) + 1) (by omega) (by omega)]
        refine hag _ ⟨i + 1, by omega, by simp, ?_⟩ (by dsimp only; omega)
        dsimp only
        have e5 : f63 (w64 (dot (wpt ((vtx a0).getD i (0, 0, 0, 0))) a1), ((vtx a0).getD i (0, 0, 0, 0)).2.2.2) = low (dot (wpt ((vtx a0).getD i (0, 0, 0, 0))) a1) ((vtx a0).getD i (0, 0, 0, 0)).2.2.2 := by rw [hvi.2]; rfl
        show out ++ [f63 (w64 (dot (wpt ((vtx a0).getD i (0, 0, 0, 0))) a1), ((vtx a0).getD i (0, 0, 0, 0)).2.2.2)] = _
        rw [e5, e2]
        unfold fracs
        rw [List.take_add_one, List.getElem?_eq_getElem hlt, getD_lt hlt, List.map_append]
        rfl
    · have : i = (vtx a0).length := by have : ¬ (i : Int) < ((vtx a0).length : Int) := hlt; omega
      subst this
      rw [List.take_length] at e2
      refine br_weak (br_two (fun h => hK _ ?_) fun h => br_weak (br_if (fun hh => ?_) fun hh => ?_))
      · have h := beq_iff_eq.1 h
        rw [e0, rangeW, if_neg (fun hh => hh h1), if_neg (fun hh => hh h2), if_neg (fun hh => hh h3), if_pos (by omega)]; rfl
      · have h := beq_eq_false_iff_ne.1 h
        omega
      · have h := beq_eq_false_iff_ne.1 h
        have hl0 : 0 < out.length := by omega
        have hb0 : (decide ((0 : Int) ≤ 0) && decide ((0 : Int) < (out.length : Int))) = true := by simp; omega
        refine br_must hb0 (pickL (fun n => decide (n < 0)) out _ e2 hl0 fun again i m hm hgo hend => ?_)
        dsimp only
        refine br_weak (br_if (fun hlt => br_must (inb (by omega) hlt) ?_) fun hlt => ?_)
        · have hlt' : i < out.length := by omega
          have hfi : FS (out.getD i (0, 0)) := hfs _ (by rw [← e2]; exact getD_mem hlt')
          have hg := hgo hlt' hfi
          rw [wr (n := (i : Int) + 1) (by omega) (by omega), Int.toNat_natCast]
          have e7 : f131 (out.getD i (0, 0), m.1, m.2) = less2 (out.getD i (0, 0)) m := less2_w hfi hm
          rw [e7]
          unfold pickF at hg
          refine br_if (fun hc => br_must (inb (by omega) hlt) ?_) fun hc => ?_
          · rw [if_pos (by simpa using hc)] at hg; exact hg
          · rw [if_neg (by simpa using hc)] at hg; exact hg
        have hm1 := hend hlt
        refine br_weak (br_if (fun hh => by omega) fun hh => br_must hb0 (pickL (fun n => decide (n > 0)) out _ e2 hl0 fun again i m2 hm hgo hend => ?_))
        dsimp only
        refine br_weak (br_if (fun hlt => br_must (inb (by omega) hlt) ?_) fun hlt => ?_)
        · have hlt' : i < out.length := by omega
          have hfi : FS (out.getD i (0, 0)) := hfs _ (by rw [← e2]; exact getD_mem hlt')
          have hg := hgo hlt' hfi
          rw [wr (n := (i : Int) + 1) (by omega) (by omega), Int.toNat_natCast]
          have e7 : f131 (out.getD i (0, 0), m2.1, m2.2) = less2 (out.getD i (0, 0)) m2 := less2_w hfi hm
          rw [e7]
          unfold pickF at hg
          refine br_if (fun hc => br_must (inb (by omega) hlt) ?_) fun hc => ?_
          · rw [if_pos (by simpa using hc)] at hg; exact hg
          · rw [if_neg (by simpa using hc)] at hg; exact hg
        have hm2 := hend hlt
        refine hK _ ?_
        rw [e0, rangeW, if_neg (fun hh => hh h1), if_neg (fun hh => hh h2), if_neg (fun hh => hh h3), if_neg (by omega), hm1, hm2, e2]
        rfl
  refine br_two (fun h => rest _ ?_) fun h => rest _ ?_
  · have h := beq_iff_eq.1 h
    unfold errW
    by_cases h1 : (rdOf a0).2 ≠ 0
    · rw [if_pos h1] at h; exact absurd h h1
    · rw [if_neg h1] at h
      have h2 : ¬ dirE a1 ≠ 0 := fun hh => hh h
      rw [if_neg h1, if_neg h2]
  · have h := beq_eq_false_iff_ne.1 h
    unfold errW
    by_cases h1 : (rdOf a0).2 ≠ 0
    · rw [if_pos h1, if_pos h1]
    · rw [if_neg h1] at h ⊢
      rw [if_neg h1, if_pos h]
theorem f105_fn : f105_e.fn = f105 := rfl
theorem f105_ok : EntryOK Try.prog 105 f105_e := by
  refine entryF progOK (EnvOK.cons f59_ok (EnvOK.cons f63_ok (EnvOK.cons f70_ok (EnvOK.cons f71_ok (EnvOK.cons f96_ok (EnvOK.cons f102_ok (EnvOK.cons f103_ok (EnvOK.cons f127_ok (EnvOK.cons f131_ok (EnvOK.nil)))))))))) (A := f105_A) (d := 6) Try.func105 rfl rfl rfl rfl (fun _ _ => trivial) fun x hpre => ?_
  obtain ⟨a0, a1⟩ := x
  exact f105_t a0 a1 _ fun _ h => h.trans (congrFun f105_fn.symm _)
end Go.Proofs.Ytglijnhkdnhofaa
end

section
namespace Go.Proofs.Ytglijnhkdnhofaa
open Go Go.Pi Go.RowKit
set_option maxRecDepth 100000
set_option linter.unusedVariables false
set_option linter.unusedSimpArgs false

def f106 (x : Int × Int) : Int := x.1 / x.2
def f106_pre (x : Int × Int) : Prop := Fit x.1 ∧ 0 < x.2
def f106_e : Entry := { doms := [(false, (.int .i64)), (false, (.int .i64))], cods := [(false, (.int .i64))], pre := f106_pre, fn := f106, uq := false, total := false }
def f106_E : Env := []
def f106_A : Anns := { loops := [], own := [] }
theorem f106_run (a0 : Int) (a1 : Int) (K : Int → Prop) : runF Try.prog f106_E f106_A 6 Try.f106 f106_e.doms f106_e.cods (a0, a1) K =
    (br (!(decide (a1 = 0)))
    (br (!(decide (a1 = 0)))
    (br (decide ((a0.tmod a1) < 0))
    (K (IntKind.i64.wrap ((IntKind.i64.wrap (a0.tdiv a1)) - 1)))
    (K (IntKind.i64.wrap (a0.tdiv a1))))
    False)
    False) := by kernel_rfl
theorem f106_t (a0 : Int) (a1 : Int) (hpre : f106_pre (a0, a1)) (K : Int → Prop) (hK : ∀ y : Int, y = f106 (a0, a1) → K y) : RunF Try.prog f106_E f106_A 6 Try.f106 f106_e.doms f106_e.cods (a0, a1) K := by
  refine ⟨?_⟩
  rw [f106_run a0 a1 K]
  obtain ⟨h1, h2⟩ := hpre
  dsimp only at h1 h2
  have hn : (!(decide (a1 = 0))) = true := ne_zero_b (by omega)
  have hf : Fit (a0.tdiv a1) := tdiv_fit h1
  have he := floor_eq (a := a0) h2
  have hg := ediv_fit h1 h2
  refine br_must hn (br_must hn (br_if (fun h => hK _ ?_) fun h => hK _ ?_))
  · rw [if_pos h] at he
    rw [wr (n := a0.tdiv a1) (by have := hf.1; omega) hf.2, he]
    exact w64_fit hg
  · rw [if_neg h] at he
    rw [wr (n := a0.tdiv a1) (by have := hf.1; omega) hf.2, he]
    rfl
theorem f106_fn : f106_e.fn = f106 := rfl
theorem f106_ok : EntryOK Try.prog 106 f106_e := by
  refine entryF progOK (EnvOK.nil) (A := f106_A) (d := 6) Try.func106 rfl rfl rfl rfl (fun h => by cases h) fun x hpre => ?_
  obtain ⟨a0, a1⟩ := x
  exact f106_t a0 a1 hpre _ fun _ h => h.trans (congrFun f106_fn.symm _)
end Go.Proofs.Ytglijnhkdnhofaa
end

section
namespace Go.Proofs.Ytglijnhkdnhofaa
open Go Go.Pi Go.RowKit
set_option maxRecDepth 100000
set_option linter.unusedVariables false
set_option linter.unusedSimpArgs false

def f107 (x : Int × Int) : Int := -((-x.1) / x.2)
def f107_pre (x : Int × Int) : Prop := Fit x.1 ∧ 0 < x.2
def f107_e : Entry := { doms := [(false, (.int .i64)), (false, (.int .i64))], cods := [(false, (.int .i64))], pre := f107_pre, fn := f107, uq := false, total := false }
def f107_E : Env := [(106, f106_e)]
def f107_A : Anns := { loops := [], own := [] }
theorem f107_run (a0 : Int) (a1 : Int) (K : Int → Prop) : runF Try.prog f107_E f107_A 6 Try.f107 f107_e.doms f107_e.cods (a0, a1) K =
    (f106_pre ((IntKind.i64.wrap (0 - a0)), a1) ∧
    K (IntKind.i64.wrap (0 - (f106 ((IntKind.i64.wrap (0 - a0)), a1))))) := by kernel_rfl
theorem f107_t (a0 : Int) (a1 : Int) (hpre : f107_pre (a0, a1)) (K : Int → Prop) (hK : ∀ y : Int, y = f107 (a0, a1) → K y) : RunF Try.prog f107_E f107_A 6 Try.f107 f107_e.doms f107_e.cods (a0, a1) K := by
  refine ⟨?_⟩
  rw [f107_run a0 a1 K]
  obtain ⟨h1, h2⟩ := hpre
  dsimp only at h1 h2
  have hn := neg_fit h1
  rw [wr (n := 0 - a0) (by have := hn.1; omega) hn.2]
  refine ⟨⟨hn, h2⟩, hK _ ?_⟩
  have hf := ediv_fit hn h2
  simp only [f106, f107]
  rw [wr (n := 0 - (0 - a0) / a1) (by have := hf.1; have := hf.2; omega) (by have := hf.1; omega)]
  simp
theorem f107_fn : f107_e.fn = f107 := rfl
theorem f107_ok : EntryOK Try.prog 107 f107_e := by
  refine entryF progOK (EnvOK.cons f106_ok (EnvOK.nil)) (A := f107_A) (d := 6) Try.func107 rfl rfl rfl rfl (fun h => by cases h) fun x hpre => ?_
  obtain ⟨a0, a1⟩ := x
  exact f107_t a0 a1 hpre _ fun _ h => h.trans (congrFun f107_fn.symm _)
end Go.Proofs.Ytglijnhkdnhofaa
end

section
namespace Go.Proofs.Ytglijnhkdnhofaa
open Go Go.Pi Go.RowKit
set_option maxRecDepth 100000
set_option linter.unusedVariables false
set_option linter.unusedSimpArgs false

def f53 (x : List ((Int × Int × Int) × Int × Int) × Int × Int × Int) : (Int × Int) × Int := headW x.1 x.2
def f53_e : Entry := { doms := [(false, (.sl (.pair (.pair (.int .i64) (.pair (.int .i64) (.int .i64))) (.pair (.int .i64) (.int .i64))))), (true, (.pair (.int .i64) (.pair (.int .i64) (.int .i64))))], cods := [(true, (.pair (.int .i64) (.int .i64))), (false, (.int .i64))], pre := fun _ => True, fn := f53, uq := false, total := true }
def f53_E : Env := [(105, f105_e), (106, f106_e), (107, f107_e)]
def f53_A : Anns := { loops := [], own := [] }
theorem f53_run (a0 : List ((Int × Int × Int) × Int × Int)) (a1 : Int × Int × Int) (K : ((Int × Int) × Int) → Prop) : runF Try.prog f53_E f53_A 6 Try.f53 f53_e.doms f53_e.cods (a0, a1) K =
    (br ((f105 (a0, a1)).2 != 0)
    (K ((0, 0), (f105 (a0, a1)).2))
    (f106_pre (((f105 (a0, a1)).1).1) ∧
    f107_pre (((f105 (a0, a1)).1).2) ∧
    K (((f106 (((f105 (a0, a1)).1).1)), (f107 (((f105 (a0, a1)).1).2))), 0))) := by kernel_rfl
theorem f53_t (a0 : List ((Int × Int × Int) × Int × Int)) (a1 : Int × Int × Int) (K : ((Int × Int) × Int) → Prop) (hK : ∀ y : (Int × Int) × Int, y = f53 (a0, a1) → K y) : RunF Try.prog f53_E f53_A 6 Try.f53 f53_e.doms f53_e.cods (a0, a1) K := by
  refine ⟨?_⟩
  rw [f53_run a0 a1 K]
  show br ((rangeW a0 a1).2 != 0) _ _
  refine br_two (fun h => hK _ ?_) fun h => ?_
  · have h := bne_t.1 h
    show _ = headW a0 a1
    rw [headW, if_pos h]; rfl
  · have h := bne_f.1 h
    obtain ⟨h1, h2⟩ := spanW_fs h
    refine ⟨⟨?_, h1.2.1⟩, ⟨?_, h2.2.1⟩, hK _ ?_⟩
    · have := h1.1; exact ⟨by show _ ≤ (rangeW a0 a1).1.1.1; omega, by show (rangeW a0 a1).1.1.1 ≤ _; omega⟩
    · have := h2.1; exact ⟨by show _ ≤ (rangeW a0 a1).1.2.1; omega, by show (rangeW a0 a1).1.2.1 ≤ _; omega⟩
    · show _ = headW a0 a1
      rw [headW, if_neg (fun hh => hh h)]; rfl
theorem f53_fn : f53_e.fn = f53 := rfl
theorem f53_ok : EntryOK Try.prog 53 f53_e := by
  refine entryF progOK (EnvOK.cons f105_ok (EnvOK.cons f106_ok (EnvOK.cons f107_ok (EnvOK.nil)))) (A := f53_A) (d := 6) Try.func53 rfl rfl rfl rfl (fun _ _ => trivial) fun x hpre => ?_
  obtain ⟨a0, a1⟩ := x
  exact f53_t a0 a1 _ fun _ h => h.trans (congrFun f53_fn.symm _)
end Go.Proofs.Ytglijnhkdnhofaa
end

section
namespace Go.Proofs.Ytglijnhkdnhofaa
open Go Go.Pi Go.RowKit
set_option maxRecDepth 100000
set_option linter.unusedVariables false
set_option linter.unusedSimpArgs false

def f62 (x : (Int × Int) × Int × Int) : Int × Int := (w64 (x.1.1 - x.2.2), w64 (x.1.2 - x.2.1))
def f62_e : Entry := { doms := [(true, (.pair (.int .i64) (.int .i64))), (true, (.pair (.int .i64) (.int .i64)))], cods := [(true, (.pair (.int .i64) (.int .i64)))], pre := fun _ => True, fn := f62, uq := false, total := true }
def f62_E : Env := []
def f62_A : Anns := { loops := [], own := [] }
theorem f62_run (a0 : Int × Int) (a1 : Int × Int) (K : (Int × Int) → Prop) : runF Try.prog f62_E f62_A 6 Try.f62 f62_e.doms f62_e.cods (a0, a1) K =
    (K ((IntKind.i64.wrap (a0.1 - a1.2)), (IntKind.i64.wrap (a0.2 - a1.1)))) := by kernel_rfl
theorem f62_t (a0 : Int × Int) (a1 : Int × Int) (K : (Int × Int) → Prop) (hK : ∀ y : Int × Int, y = f62 (a0, a1) → K y) : RunF Try.prog f62_E f62_A 6 Try.f62 f62_e.doms f62_e.cods (a0, a1) K := by
  refine ⟨?_⟩
  rw [f62_run a0 a1 K]
  exact hK _ rfl
theorem f62_fn : f62_e.fn = f62 := rfl
theorem f62_ok : EntryOK Try.prog 62 f62_e := by
  refine entryF progOK (EnvOK.nil) (A := f62_A) (d := 6) Try.func62 rfl rfl rfl rfl (fun _ _ => trivial) fun x hpre => ?_
  obtain ⟨a0, a1⟩ := x
  exact f62_t a0 a1 _ fun _ h => h.trans (congrFun f62_fn.symm _)
end Go.Proofs.Ytglijnhkdnhofaa
end

section
namespace Go.Proofs.Ytglijnhkdnhofaa
open Go Go.Pi Go.RowKit
set_option maxRecDepth 100000
set_option linter.unusedVariables false
set_option linter.unusedSimpArgs false

def f92 (l : List Int) : List Int := l
def f92_pre (l : List Int) : Prop := 0 < l.length ∧ l.length ≤ 1073741824
def f92_e : Entry := { doms := [(false, (.sl (.int .i64)))], cods := [(false, (.sl (.int .i64)))], pre := f92_pre, fn := f92, uq := true, total := false }
def f92_E : Env := []
def f92_A : Anns := { loops := [], own := [1051648] }
theorem f92_run (a0 : List Int) (K : (List Int) → Prop) : runU Try.prog f92_E f92_A 6 Try.f92 f92_e.doms f92_e.cods a0 K =
    (br (decide (0 < (a0.length)))
    (br (roomOk (0 + (a0.length)) 8)
    (K (([] : List Int) ++ a0))
    False)
    False) := by kernel_rfl
theorem f92_t (a0 : List Int) (hpre : f92_pre a0) (K : (List Int) → Prop) (hK : ∀ y : List Int, y = f92 a0 → K y) : RunU Try.prog f92_E f92_A 6 Try.f92 f92_e.doms f92_e.cods a0 K := by
  refine ⟨?_⟩
  rw [f92_run a0 K]
  simp only [br_false_, decide_eq_true_eq, roomOk_iff]
  exact ⟨hpre.1, by have := hpre.2; omega, hK _ (by simp [f92])⟩
theorem f92_fn : f92_e.fn = f92 := rfl
theorem f92_ok : EntryOK Try.prog 92 f92_e := by
  refine entryFU progOK (EnvOK.nil) (A := f92_A) (d := 6) Try.func92 rfl rfl rfl (fun h => by cases h) fun x hpre => ?_
  exact f92_t x hpre _ fun _ h => h.trans (congrFun f92_fn.symm _)
end Go.Proofs.Ytglijnhkdnhofaa
end

section
namespace Go.Proofs.Ytglijnhkdnhofaa
open Go Go.Pi Go.RowKit
set_option maxRecDepth 100000
set_option linter.unusedVariables false
set_option linter.unusedSimpArgs false

def f93 (x : Int × Int) : Bool := !(decide (x.1 ≤ 0 ∧ 0 ≤ x.2))
def f93_e : Entry := { doms := [(true, (.pair (.int .i64) (.int .i64)))], cods := [(false, .bool)], pre := fun _ => True, fn := f93, uq := false, total := true }
def f93_E : Env := [(61, f61_e)]
def f93_A : Anns := { loops := [], own := [] }
theorem f93_run (a0 : Int × Int) (K : Bool → Prop) : runF Try.prog f93_E f93_A 6 Try.f93 f93_e.doms f93_e.cods a0 K =
    (K (!(f61 (0, a0)))) := by kernel_rfl
theorem f93_t (a0 : Int × Int) (K : Bool → Prop) (hK : ∀ y : Bool, y = f93 a0 → K y) : RunF Try.prog f93_E f93_A 6 Try.f93 f93_e.doms f93_e.cods a0 K := by
  refine ⟨?_⟩
  rw [f93_run a0 K]
  exact hK _ (by rw [f93, ← f61_eq])
theorem f93_fn : f93_e.fn = f93 := rfl
theorem f93_ok : EntryOK Try.prog 93 f93_e := by
  refine entryF progOK (EnvOK.cons f61_ok (EnvOK.nil)) (A := f93_A) (d := 6) Try.func93 rfl rfl rfl rfl (fun _ _ => trivial) fun x hpre => ?_
  exact f93_t x _ fun _ h => h.trans (congrFun f93_fn.symm _)
end Go.Proofs.Ytglijnhkdnhofaa
end

section
namespace Go.Proofs.Ytglijnhkdnhofaa
open Go Go.Pi Go.RowKit
set_option maxRecDepth 100000
set_option linter.unusedVariables false
set_option linter.unusedSimpArgs false

def f133 (l : List Int) : List Int := l
def f133_e : Entry := { doms := [(false, (.sl (.int .i64)))], cods := [(false, (.sl (.int .i64)))], pre := fun _ => True, fn := f133, uq := false, total := true, ex := true }
def f133_E : Env := []
def f133_A : Anns := { loops := [], own := [] }
theorem f133_run (a0 : List Int) (K : (List Int) → Prop) : runX Try.prog f133_E f133_A 6 Try.f133 f133_e.doms f133_e.cods a0 K =
    (br (lenOk (a0.length))
    (br (lenOk (a0.length))
    (br (decide (((a0.length) : Int) = ((a0.length) : Int) ∧ ((a0.length) : Int) = ((a0.length) : Int)))
    (K a0)
    False)
    True)
    True) := by kernel_rfl
theorem f133_t (a0 : List Int) (K : (List Int) → Prop) (hK : ∀ y : List Int, y = f133 a0 → K y) : RunX Try.prog f133_E f133_A 6 Try.f133 f133_e.doms f133_e.cods a0 K := by
  refine ⟨?_⟩
  rw [f133_run a0 K]
  simp only [br_true_, br_false_, decide_eq_true_eq, and_self, true_and]
  exact fun _ _ => hK _ rfl
theorem f133_fn : f133_e.fn = f133 := rfl
theorem f133_ok : EntryOK Try.prog 133 f133_e := by
  refine entryFX progOK (EnvOK.nil) (A := f133_A) (d := 6) Try.func133 rfl rfl rfl (fun _ _ => trivial) fun x hpre => ?_
  exact f133_t x _ fun _ h => h.trans (congrFun f133_fn.symm _)
end Go.Proofs.Ytglijnhkdnhofaa
end
