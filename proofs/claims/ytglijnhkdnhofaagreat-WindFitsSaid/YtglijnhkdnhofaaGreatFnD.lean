/- What functions of the program compute, each proved once, part 4. -/
import Derived.Test.YtglijnhkdnhofaaGreatPiD
import Derived.Test.YtglijnhkdnhofaaGreatFnA
import Derived.Test.YtglijnhkdnhofaaGreatFnB
import Derived.Test.YtglijnhkdnhofaaGreatFnC

namespace Go.Proofs.YtglijnhkdnhofaaGreat
open Go Go.Pi Go.RowKit
set_option maxRecDepth 100000
set_option linter.unusedVariables false
set_option linter.unusedSimpArgs false

def f12 (x : List ((Int × Int × Int) × Int × Int) × Int × Int × Int) : ((Int × Int) × Int × Int) × Int := rangeW x.1 x.2
def f12_tail (a0 : List ((Int × Int × Int) × Int × Int)) (a1 : Int × Int × Int) (K : ((Int × Int) × Int × Int) × Int → Prop) (j1_0 : Int) : Prop :=
  br (j1_0 != 0)
  (K (((0, 0), (0, 0)), j1_0))
  (JoinQ (V := List (Int × Int) × Unit) (fun J => (fun (join3 : List (Int × Int) → Prop) =>
  f59_pre ((f60 a0).1) ∧
  br (lenOk ((f59 ((f60 a0).1)).length))
  (LoopP (V := Int × List (Int × Int) × Unit) (fun again v => (fun (again2 : Int → List (Int × Int) → Prop) (v2_0 : Int) (v2_1 : List (Int × Int)) =>
  br (decide (v2_0 < (((f59 ((f60 a0).1)).length) : Int)))
  (br (decide (0 ≤ v2_0) && decide (v2_0 < (((f59 ((f60 a0).1)).length) : Int)))
  (f64_pre ((f66 (((f65 (((f59 ((f60 a0).1)).getD v2_0.toNat (0, (0, (0, 0)))).1, ((((f59 ((f60 a0).1)).getD v2_0.toNat (0, (0, (0, 0)))).2).1, ((((f59 ((f60 a0).1)).getD v2_0.toNat (0, (0, (0, 0)))).2).2)))).1, ((f65 (((f59 ((f60 a0).1)).getD v2_0.toNat (0, (0, (0, 0)))).1, ((((f59 ((f60 a0).1)).getD v2_0.toNat (0, (0, (0, 0)))).2).1, ((((f59 ((f60 a0).1)).getD v2_0.toNat (0, (0, (0, 0)))).2).2)))).2)), a1)), ((((f59 ((f60 a0).1)).getD v2_0.toNat (0, (0, (0, 0)))).2).2).2) ∧
  br (roomOk ((v2_1.length) + 1) 16)
  (again2 (IntKind.i64.wrap (v2_0 + 1)) (v2_1 ++ ([(f64 ((f66 (((f65 (((f59 ((f60 a0).1)).getD v2_0.toNat (0, (0, (0, 0)))).1, ((((f59 ((f60 a0).1)).getD v2_0.toNat (0, (0, (0, 0)))).2).1, ((((f59 ((f60 a0).1)).getD v2_0.toNat (0, (0, (0, 0)))).2).2)))).1, ((f65 (((f59 ((f60 a0).1)).getD v2_0.toNat (0, (0, (0, 0)))).1, ((((f59 ((f60 a0).1)).getD v2_0.toNat (0, (0, (0, 0)))).2).1, ((((f59 ((f60 a0).1)).getD v2_0.toNat (0, (0, (0, 0)))).2).2)))).2)), a1)), ((((f59 ((f60 a0).1)).getD v2_0.toNat (0, (0, (0, 0)))).2).2).2))] : List (Int × Int))))
  False)
  False)
  (join3 v2_1))
  (fun v2_0 v2_1 => again (v2_0, v2_1, ())) v.1 v.2.1) (0, ([] : List (Int × Int)), ()))
  True) (fun j3_0 => J (j3_0, ()))) (fun v => (fun (j3_0 : List (Int × Int)) =>
  br (lenOk (j3_0.length))
  (br (((j3_0.length) : Int) == 0)
  (K (((0, 0), (0, 0)), 12))
  (br (lenOk (j3_0.length))
  (br (decide (((j3_0.length) : Int) < 1))
  (False)
  (br (decide (0 ≤ 0) && decide (0 < ((j3_0.length) : Int)))
  (LoopP (V := Int × Int × Int × Unit) (fun again v => (fun (again4 : Int → Int → Int → Prop) (v4_0 : Int) (v4_1 : Int) (v4_2 : Int) =>
  br (lenOk (j3_0.length))
  (br (decide (v4_0 < ((j3_0.length) : Int)))
  (br (decide (0 ≤ v4_0) && decide (v4_0 < ((j3_0.length) : Int)))
  (br (decide ((f68 ((j3_0.getD v4_0.toNat (0, 0)), (v4_1, v4_2))) < 0))
  (br (decide (0 ≤ v4_0) && decide (v4_0 < ((j3_0.length) : Int)))
  (again4 (IntKind.i64.wrap (v4_0 + 1)) ((j3_0.getD v4_0.toNat (0, 0)).1) ((j3_0.getD v4_0.toNat (0, 0)).2))
  False)
  (again4 (IntKind.i64.wrap (v4_0 + 1)) v4_1 v4_2))
  False)
  (br (lenOk (j3_0.length))
  (br (decide (((j3_0.length) : Int) < 1))
  (False)
  (br (decide (0 ≤ 0) && decide (0 < ((j3_0.length) : Int)))
  (LoopP (V := Int × Int × Int × Unit) (fun again v => (fun (again5 : Int → Int → Int → Prop) (v5_0 : Int) (v5_1 : Int) (v5_2 : Int) =>
  br (lenOk (j3_0.length))
  (br (decide (v5_0 < ((j3_0.length) : Int)))
  (br (decide (0 ≤ v5_0) && decide (v5_0 < ((j3_0.length) : Int)))
  (br (decide ((f68 ((j3_0.getD v5_0.toNat (0, 0)), (v5_1, v5_2))) > 0))
  (br (decide (0 ≤ v5_0) && decide (v5_0 < ((j3_0.length) : Int)))
  (again5 (IntKind.i64.wrap (v5_0 + 1)) ((j3_0.getD v5_0.toNat (0, 0)).1) ((j3_0.getD v5_0.toNat (0, 0)).2))
  False)
  (again5 (IntKind.i64.wrap (v5_0 + 1)) v5_1 v5_2))
  False)
  (K (((v4_1, v4_2), (v5_1, v5_2)), 0)))
  True)
  (fun v5_0 v5_1 v5_2 => again (v5_0, v5_1, v5_2, ())) v.1 v.2.1 v.2.2.1) (1, (j3_0.getD 0 (0, 0)).1, (j3_0.getD 0 (0, 0)).2, ()))
  False))
  True))
  True)
  (fun v4_0 v4_1 v4_2 => again (v4_0, v4_1, v4_2, ())) v.1 v.2.1 v.2.2.1) (1, (j3_0.getD 0 (0, 0)).1, (j3_0.getD 0 (0, 0)).2, ()))
  False))
  True))
  True) v.1))
def f12_e : Entry := { doms := [(false, (.sl (.pair (.pair (.int .i64) (.pair (.int .i64) (.int .i64))) (.pair (.int .i64) (.int .i64))))), (true, (.pair (.int .i64) (.pair (.int .i64) (.int .i64))))], cods := [(true, (.pair (.pair (.int .i64) (.int .i64)) (.pair (.int .i64) (.int .i64)))), (false, (.int .i64))], pre := fun _ => True, fn := f12, uq := false, total := true }
def f12_E : Env := [(59, f59_e), (60, f60_e), (61, f61_e), (62, f62_e), (63, f63_e), (64, f64_e), (65, f65_e), (66, f66_e), (68, f68_e)]
def f12_A : Anns := { loops := [(1048576, { tms := [(3, .keep), (4, .keep), (8, .ref 1059849), (30, .keep), (31, .keep), (32, .data false (.int .i64))], obs := [(1048576, .keep), (1048577, .keep), (1059849, .arr (.uniq) (.pair (.int .i64) (.int .i64)))], fz := [] }),
  (1572885, { tms := [(3, .keep), (4, .keep), (6, .keep), (7, .data false (.int .i64))], obs := [(1048576, .keep), (1048577, .keep)], fz := [] }),
  (1572917, { tms := [(4, .keep), (8, .ref 1059849)], obs := [(1048577, .keep), (1059849, .arr (.uniq) (.pair (.int .i64) (.int .i64)))], fz := [] }),
  (1115618803712, { tms := [(0, .keep), (1, .keep), (4, .keep), (5, .keep), (6, .data false (.int .i64))], obs := [(1048577, .keep), (1059849, .keep), (1115618803712, .keep), (1115618806787, .cells [.data (.int .i64), .data (.int .i64)])], fz := [] }),
  (1115620900864, { tms := [(0, .keep), (1, .keep), (4, .keep), (5, .keep), (6, .data false (.int .i64))], obs := [(1048577, .keep), (1059849, .keep), (1115618803712, .keep), (1115618806787, .keep), (1115620900864, .keep), (1115620903939, .cells [.data (.int .i64), .data (.int .i64)])], fz := [] })], own := [] }
theorem f12_run (a0 : List ((Int × Int × Int) × Int × Int)) (a1 : Int × Int × Int) (K : (((Int × Int) × Int × Int) × Int) → Prop) : runF Tryz.prog f12_E f12_A 6 Tryz.f12 f12_e.doms f12_e.cods (a0, a1) K =
    (JoinQ (V := Int × Unit) (fun J => (fun (join1 : Int → Prop) =>
    br ((f61 ([(f60 a0).2, (f62 a1)] : List Int)) == 0)
    (join1 (f63 ((f60 a0).1)))
    (join1 (f61 ([(f60 a0).2, (f62 a1)] : List Int)))) (fun j1_0 => J (j1_0, ()))) (fun v => (fun (j1_0 : Int) =>
    br (j1_0 != 0)
    (K (((0, 0), (0, 0)), j1_0))
    (JoinQ (V := List (Int × Int) × Unit) (fun J => (fun (join3 : List (Int × Int) → Prop) =>
    f59_pre ((f60 a0).1) ∧
    br (lenOk ((f59 ((f60 a0).1)).length))
    (LoopP (V := Int × List (Int × Int) × Unit) (fun again v => (fun (again2 : Int → List (Int × Int) → Prop) (v2_0 : Int) (v2_1 : List (Int × Int)) =>
    br (decide (v2_0 < (((f59 ((f60 a0).1)).length) : Int)))
    (br (decide (0 ≤ v2_0) && decide (v2_0 < (((f59 ((f60 a0).1)).length) : Int)))
    (f64_pre ((f66 (((f65 (((f59 ((f60 a0).1)).getD v2_0.toNat (0, (0, (0, 0)))).1, ((((f59 ((f60 a0).1)).getD v2_0.toNat (0, (0, (0, 0)))).2).1, ((((f59 ((f60 a0).1)).getD v2_0.toNat (0, (0, (0, 0)))).2).2)))).1, ((f65 (((f59 ((f60 a0).1)).getD v2_0.toNat (0, (0, (0, 0)))).1, ((((f59 ((f60 a0).1)).getD v2_0.toNat (0, (0, (0, 0)))).2).1, ((((f59 ((f60 a0).1)).getD v2_0.toNat (0, (0, (0, 0)))).2).2)))).2)), a1)), ((((f59 ((f60 a0).1)).getD v2_0.toNat (0, (0, (0, 0)))).2).2).2) ∧
    br (roomOk ((v2_1.length) + 1) 16)
    (again2 (IntKind.i64.wrap (v2_0 + 1)) (v2_1 ++ ([(f64 ((f66 (((f65 (((f59 ((f60 a0).1)).getD v2_0.toNat (0, (0, (0, 0)))).1, ((((f59 ((f60 a0).1)).getD v2_0.toNat (0, (0, (0, 0)))).2).1, ((((f59 ((f60 a0).1)).getD v2_0.toNat (0, (0, (0, 0)))).2).2)))).1, ((f65 (((f59 ((f60 a0).1)).getD v2_0.toNat (0, (0, (0, 0)))).1, ((((f59 ((f60 a0).1)).getD v2_0.toNat (0, (0, (0, 0)))).2).1, ((((f59 ((f60 a0).1)).getD v2_0.toNat (0, (0, (0, 0)))).2).2)))).2)), a1)), ((((f59 ((f60 a0).1)).getD v2_0.toNat (0, (0, (0, 0)))).2).2).2))] : List (Int × Int))))
    False)
    False)
    (join3 v2_1))
    (fun v2_0 v2_1 => again (v2_0, v2_1, ())) v.1 v.2.1) (0, ([] : List (Int × Int)), ()))
    True) (fun j3_0 => J (j3_0, ()))) (fun v => (fun (j3_0 : List (Int × Int)) =>
    br (lenOk (j3_0.length))
    (br (((j3_0.length) : Int) == 0)
    (K (((0, 0), (0, 0)), 12))
    (br (lenOk (j3_0.length))
    (br (decide (((j3_0.length) : Int) < 1))
    (False)
    (br (decide (0 ≤ 0) && decide (0 < ((j3_0.length) : Int)))
    (LoopP (V := Int × Int × Int × Unit) (fun again v => (fun (again4 : Int → Int → Int → Prop) (v4_0 : Int) (v4_1 : Int) (v4_2 : Int) =>
    br (lenOk (j3_0.length))
    (br (decide (v4_0 < ((j3_0.length) : Int)))
    (br (decide (0 ≤ v4_0) && decide (v4_0 < ((j3_0.length) : Int)))
    (br (decide ((f68 ((j3_0.getD v4_0.toNat (0, 0)), (v4_1, v4_2))) < 0))
    (br (decide (0 ≤ v4_0) && decide (v4_0 < ((j3_0.length) : Int)))
    (again4 (IntKind.i64.wrap (v4_0 + 1)) ((j3_0.getD v4_0.toNat (0, 0)).1) ((j3_0.getD v4_0.toNat (0, 0)).2))
    False)
    (again4 (IntKind.i64.wrap (v4_0 + 1)) v4_1 v4_2))
    False)
    (br (lenOk (j3_0.length))
    (br (decide (((j3_0.length) : Int) < 1))
    (False)
    (br (decide (0 ≤ 0) && decide (0 < ((j3_0.length) : Int)))
    (LoopP (V := Int × Int × Int × Unit) (fun again v => (fun (again5 : Int → Int → Int → Prop) (v5_0 : Int) (v5_1 : Int) (v5_2 : Int) =>
    br (lenOk (j3_0.length))
    (br (decide (v5_0 < ((j3_0.length) : Int)))
    (br (decide (0 ≤ v5_0) && decide (v5_0 < ((j3_0.length) : Int)))
    (br (decide ((f68 ((j3_0.getD v5_0.toNat (0, 0)), (v5_1, v5_2))) > 0))
    (br (decide (0 ≤ v5_0) && decide (v5_0 < ((j3_0.length) : Int)))
    (again5 (IntKind.i64.wrap (v5_0 + 1)) ((j3_0.getD v5_0.toNat (0, 0)).1) ((j3_0.getD v5_0.toNat (0, 0)).2))
    False)
    (again5 (IntKind.i64.wrap (v5_0 + 1)) v5_1 v5_2))
    False)
    (K (((v4_1, v4_2), (v5_1, v5_2)), 0)))
    True)
    (fun v5_0 v5_1 v5_2 => again (v5_0, v5_1, v5_2, ())) v.1 v.2.1 v.2.2.1) (1, (j3_0.getD 0 (0, 0)).1, (j3_0.getD 0 (0, 0)).2, ()))
    False))
    True))
    True)
    (fun v4_0 v4_1 v4_2 => again (v4_0, v4_1, v4_2, ())) v.1 v.2.1 v.2.2.1) (1, (j3_0.getD 0 (0, 0)).1, (j3_0.getD 0 (0, 0)).2, ()))
    False))
    True))
    True) v.1))) v.1)) := by kernel_rfl
theorem f12_t (a0 : List ((Int × Int × Int) × Int × Int)) (a1 : Int × Int × Int) (K : (((Int × Int) × Int × Int) × Int) → Prop) (hK : ∀ y : ((Int × Int) × Int × Int) × Int, y = f12 (a0, a1) → K y) : RunF Tryz.prog f12_E f12_A 6 Tryz.f12 f12_e.doms f12_e.cods (a0, a1) K := by
  refine ⟨?_⟩
  rw [f12_run a0 a1 K]
  have ek : f61 [(f60 a0).2, f62 a1] = if (rdOf a0).2 ≠ 0 then (rdOf a0).2 else dirE a1 := by
    rw [f61_cons, f61_cons, f61_nil]
    show (if (rdOf a0).2 = 0 then if dirE a1 = 0 then 0 else dirE a1 else (rdOf a0).2) = _
    by_cases h1 : (rdOf a0).2 = 0 <;> by_cases h2 : dirE a1 = 0 <;> simp [h1, h2]
  have ef : f63 (f60 a0).1 = if (rkOwn (a0.map (·.1))).length = 3 then 0 else 19 := rfl
  have e0 : f12 (a0, a1) = rangeW a0 a1 := rfl
  rw [ek, ef]
  refine ⟨?_⟩
  dsimp only
  have rest : ∀ e : Int, e = errW a0 a1 → f12_tail a0 a1 K e := fun e he => by
    unfold f12_tail
    refine br_two (fun h => hK _ (by rw [e0, rangeW_err _ _ (by rw [← he]; exact bne_t.1 h), he]; rfl)) fun h => ?_
    obtain ⟨h1, h2, h3⟩ := errW_zero (he.symm.trans (bne_f.1 h))
    have hle := (rdOf_ok h1).rdLe
    have hd := (dirE_zero h2).1
    have hfs := fracs_fs hle hd
    have hlen : (vtx a0).length ≤ 4096 := by
      have h5 : ∀ (l acc : List WV), (l.foldl insW acc).length ≤ acc.length + l.length := by
        intro l
        induction l with
        | nil => intro acc; simp
        | cons v r ih =>
          intro acc
          have h6 : ∀ a : List WV, (insW a v).length ≤ a.length + 1 := fun a => by
            induction a with
            | nil => simp [insW]
            | cons w s ih2 => unfold insW; split <;> (try split) <;> simp <;> omega
          have := ih (insW acc v)
          have := h6 acc
          simp only [List.foldl_cons, List.length_cons]; omega
      have := h5 (cands a0) []
      have := cands_len hle
      simp only [List.length_nil] at *
      show (sortW _).length ≤ _
      unfold sortW
      omega
    -- the two picks
    have pickL : ∀ (t : Int → Bool) (l : List (Int × Int)) (step : (Int × Int × Int × Unit → Prop) → Int × Int × Int × Unit → Prop), l = fracs (vtx a0) a1 → 0 < l.length →
        (∀ again (i : Nat) (m : Int × Int), FS m → (i < l.length → FS (l.getD i (0, 0)) → again ((i : Int) + 1, (pickF t m (l.getD i (0, 0))).1, (pickF t m (l.getD i (0, 0))).2, ())) → (¬ (i : Int) < l.length → m = pick t l) → step again ((i : Int), m.1, m.2, ())) → LoopP step (1, (l.getD 0 (0, 0)).1, (l.getD 0 (0, 0)).2, ()) := fun t l step hl hl0 hstep => by
      subst hl
      refine LoopP.of (fun q => ∃ i : Nat, 1 ≤ i ∧ i ≤ (fracs (vtx a0) a1).length ∧ q = ((i : Int), (pick t ((fracs (vtx a0) a1).take i)).1, (pick t ((fracs (vtx a0) a1).take i)).2, ())) (fun q => ((fracs (vtx a0) a1).length - q.1).toNat) (fun again q hq hag => ?_) ⟨1, by omega, by omega, ?_⟩
      · obtain ⟨i, hi1, hi2, rfl⟩ := hq
        have hfi : FS (pick t ((fracs (vtx a0) a1).take i)) := pick_fs (by rw [List.length_take]; omega) fun x hx => hfs x (List.mem_of_mem_take hx)
        refine hstep again i _ hfi (fun hlt _ => ?_) (fun hge => ?_)
        · refine hag _ ⟨i + 1, by omega, by omega, ?_⟩ (by dsimp only; omega)
          rw [pick_take t _ hi1 hlt]; simp
        · have : i = (fracs (vtx a0) a1).length := by omega
          rw [this, List.take_length]
      · have : (pick t ((fracs (vtx a0) a1).take 1)) = (fracs (vtx a0) a1).getD 0 (0, 0) := by
          unfold pick
          have e9 : ((fracs (vtx a0) a1).take 1).drop 1 = [] := by simp
          rw [e9]
          simp only [List.foldl_nil, List.getD_eq_getElem?_getD, List.getElem?_take]
          rfl
        rw [this]; rfl
    refine ⟨?_⟩
    dsimp only
    refine ⟨hle, br_weak ?_⟩
    have ew : ∀ i : Nat, i < (vtx a0).length → FS (low (dot (wpt ((vtx a0).getD i (0, 0, 0, 0))) a1) ((vtx a0).getD i (0, 0, 0, 0)).2.2.2) := fun i hi => hfs _ (List.mem_map.2 ⟨_, getD_mem hi, rfl⟩)
    have hv : ∀ i : Nat, i < (vtx a0).length → f64_pre (w64 (dot (wpt ((vtx a0).getD i (0, 0, 0, 0))) a1), ((vtx a0).getD i (0, 0, 0, 0)).2.2.2) ∧ w64 (dot (wpt ((vtx a0).getD i (0, 0, 0, 0))) a1) = dot (wpt ((vtx a0).getD i (0, 0, 0, 0))) a1 := fun i hi => by
      obtain ⟨k1, k2, k3⟩ := cands_ok hle _ (vtx_mem.1 (getD_mem (d := ((0, 0, 0, 0) : WV)) hi))
      have k4 := dot_le k3 hd
      have k5 := k1.den
      have k6 : Fit (dot (wpt ((vtx a0).getD i (0, 0, 0, 0))) a1) := ⟨by omega, by omega⟩
      rw [w64_fit k6]
      exact ⟨⟨k6, ⟨by dsimp only; omega, by dsimp only; omega⟩, by dsimp only; omega⟩, rfl⟩
    refine LoopP.of (fun q : Int × List (Int × Int) × Unit => ∃ i : Nat, i ≤ (vtx a0).length ∧ q.1 = (i : Int) ∧ q.2.1 = fracs ((vtx a0).take i) a1) (fun q => (((vtx a0).length : Int) - q.1).toNat) (fun again q hq hag => ?_) ⟨0, by omega, rfl, rfl⟩
    obtain ⟨j, out, u⟩ := q
    obtain ⟨i, hi, e1, e2⟩ := hq
    simp only at e1 e2
    subst e1
    dsimp only
    have hol : out.length = i := by rw [e2]; simp [fracs]; omega
    refine br_if (fun hlt => ?_) fun hlt => ?_
    · have hlt : i < (vtx a0).length := by have : (i : Int) < ((vtx a0).length : Int) := hlt; omega
      have hvi := hv i hlt
      refine br_must (inb (by omega) (show (i : Int) < ((vtx a0).length : Int) by omega)) ⟨?_, br_must (by rw [roomOk_iff]; omega) ?_⟩
      · exact hvi.1
      · rw [wr (n := (i : Int) + 1) (by omega) (by omega)]
        refine hag _ ⟨i + 1, by omega, by simp, ?_⟩ (by dsimp only; omega)
        dsimp only
        have e5 : f64 (w64 (dot (wpt ((vtx a0).getD i (0, 0, 0, 0))) a1), ((vtx a0).getD i (0, 0, 0, 0)).2.2.2) = low (dot (wpt ((vtx a0).getD i (0, 0, 0, 0))) a1) ((vtx a0).getD i (0, 0, 0, 0)).2.2.2 := by rw [hvi.2]; rfl
        show out ++ [f64 (w64 (dot (wpt ((vtx a0).getD i (0, 0, 0, 0))) a1), ((vtx a0).getD i (0, 0, 0, 0)).2.2.2)] = _
        rw [e5, e2]
        unfold fracs
        rw [List.take_add_one, List.getElem?_eq_getElem hlt, getD_lt hlt, List.map_append]
        rfl
    · have : i = (vtx a0).length := by have : ¬ (i : Int) < ((vtx a0).length : Int) := hlt; omega
      subst this
      rw [List.take_length] at e2
      refine br_weak (br_two (fun h => hK _ ?_) fun h => br_weak (br_if (fun hh => ?_) fun hh => ?_))
      · have h := beq_iff_eq.1 h
        rw [e0, rangeW, if_neg (fun hh => hh h1), if_neg (fun hh => hh h2), if_neg (fun hh => hh h3), if_pos (by omega)]; rfl
      · have h := beq_eq_false_iff_ne.1 h
        omega
      · have h := beq_eq_false_iff_ne.1 h
        have hl0 : 0 < out.length := by omega
        have hb0 : (decide ((0 : Int) ≤ 0) && decide ((0 : Int) < (out.length : Int))) = true := by simp; omega
        refine br_must hb0 (pickL (fun n => decide (n < 0)) out _ e2 hl0 fun again i m hm hgo hend => ?_)
        dsimp only
        refine br_weak (br_if (fun hlt => br_must (inb (by omega) hlt) ?_) fun hlt => ?_)
        · have hlt' : i < out.length := by omega
          have hfi : FS (out.getD i (0, 0)) := hfs _ (by rw [← e2]; exact getD_mem hlt')
          have hg := hgo hlt' hfi
          rw [wr (n := (i : Int) + 1) (by omega) (by omega), Int.toNat_natCast]
          have e7 : f68 (out.getD i (0, 0), m.1, m.2) = less2 (out.getD i (0, 0)) m := less2_w hfi hm
          rw [e7]
          unfold pickF at hg
          refine br_if (fun hc => br_must (inb (by omega) hlt) ?_) fun hc => ?_
          · rw [if_pos (by simpa using hc)] at hg; exact hg
          · rw [if_neg (by simpa using hc)] at hg; exact hg
        have hm1 := hend hlt
        refine br_weak (br_if (fun hh => by omega) fun hh => br_must hb0 (pickL (fun n => decide (n > 0)) out _ e2 hl0 fun again i m2 hm hgo hend => ?_))
        dsimp only
        refine br_weak (br_if (fun hlt => br_must (inb (by omega) hlt) ?_) fun hlt => ?_)
        · have hlt' : i < out.length := by omega
          have hfi : FS (out.getD i (0, 0)) := hfs _ (by rw [← e2]; exact getD_mem hlt')
          have hg := hgo hlt' hfi
          rw [wr (n := (i : Int) + 1) (by omega) (by omega), Int.toNat_natCast]
          have e7 : f68 (out.getD i (0, 0), m2.1, m2.2) = less2 (out.getD i (0, 0)) m2 := less2_w hfi hm
          rw [e7]
          unfold pickF at hg
          refine br_if (fun hc => br_must (inb (by omega) hlt) ?_) fun hc => ?_
          · rw [if_pos (by simpa using hc)] at hg; exact hg
          · rw [if_neg (by simpa using hc)] at hg; exact hg
        have hm2 := hend hlt
        refine hK _ ?_
        rw [e0, rangeW, if_neg (fun hh => hh h1), if_neg (fun hh => hh h2), if_neg (fun hh => hh h3), if_neg (by omega), hm1, hm2, e2]
        rfl
  refine br_two (fun h => rest _ ?_) fun h => rest _ ?_
  · have h := beq_iff_eq.1 h
    unfold errW
    by_cases h1 : (rdOf a0).2 ≠ 0
    · rw [if_pos h1] at h; exact absurd h h1
    · rw [if_neg h1] at h
      have h2 : ¬ dirE a1 ≠ 0 := fun hh => hh h
      rw [if_neg h1, if_neg h2]
  · have h := beq_eq_false_iff_ne.1 h
    unfold errW
    by_cases h1 : (rdOf a0).2 ≠ 0
    · rw [if_pos h1, if_pos h1]
    · rw [if_neg h1] at h ⊢
      rw [if_neg h1, if_pos h]
theorem f12_fn : f12_e.fn = f12 := rfl
theorem f12_ok : EntryOK Tryz.prog 12 f12_e := by
  refine entryF progOK (EnvOK.cons f59_ok (EnvOK.cons f60_ok (EnvOK.cons f61_ok (EnvOK.cons f62_ok (EnvOK.cons f63_ok (EnvOK.cons f64_ok (EnvOK.cons f65_ok (EnvOK.cons f66_ok (EnvOK.cons f68_ok (EnvOK.nil)))))))))) (A := f12_A) (d := 6) Tryz.func12 rfl rfl rfl rfl (fun _ _ => trivial) fun x hpre => ?_
  obtain ⟨a0, a1⟩ := x
  exact f12_t a0 a1 _ fun _ h => h.trans (congrFun f12_fn.symm _)
end Go.Proofs.YtglijnhkdnhofaaGreat
