/- What functions of the program compute, each proved once, part 13. -/
import Derived.Test.YtglijnhkdnhofaaGreatPiD
import Derived.Test.YtglijnhkdnhofaaGreatFnA
import Derived.Test.YtglijnhkdnhofaaGreatFnL
import Derived.Test.YtglijnhkdnhofaaGreatFnJ

namespace Go.Proofs.YtglijnhkdnhofaaGreat
open Go Go.Pi Go.RowKit
set_option maxRecDepth 100000
set_option linter.unusedVariables false
set_option linter.unusedSimpArgs false

def f16 (x : List (Int × Int × Int × Int) × Int × Int × Int) : (Int × Int) × Int × Int := if x.1.length = 0 then no4 else spanW x.1 x.2
def f16_pre (x : List (Int × Int × Int × Int) × Int × Int × Int) : Prop := x.1.length ≤ 1048576 ∧ (∀ v ∈ x.1, 0 < v.2.2.2 ∧ v.2.2.2 ≤ 4374 ∧ V3.le (wpt v) 4860000) ∧ V3.le x.2 9
theorem pick_one (t : Int → Bool) {l : List R2} (h : 0 < l.length) : pick t (l.take 1) = l.getD 0 (0, 0) := by
  cases l with
  | nil => simp at h
  | cons a r => rfl
theorem pick_to (t : Int → Bool) (l : List R2) {i : Nat} (h : i < l.length) : pick t (l.take (i + 1)) = if i = 0 then l.getD i (0, 0) else pickF t (pick t (l.take i)) (l.getD i (0, 0)) := by
  by_cases h0 : i = 0
  · subst h0; rw [if_pos rfl]; exact pick_one t h
  · rw [if_neg h0]; exact pick_take t l (by omega) h
def f16_e : Entry := { doms := [(false, (.sl (.pair (.int .i64) (.pair (.int .i64) (.pair (.int .i64) (.int .i64)))))), (true, (.pair (.int .i64) (.pair (.int .i64) (.int .i64))))], cods := [(true, (.pair (.pair (.int .i64) (.int .i64)) (.pair (.int .i64) (.int .i64))))], pre := f16_pre, fn := f16, uq := false, total := false }
def f16_E : Env := [(35, f35_e), (36, f36_e), (37, f37_e), (38, f38_e)]
def f16_A : Anns := { loops := [(1048576, { tms := [(0, .keep), (3, .keep), (4, .keep), (5, .keep), (6, .data false (.int .i64))], obs := [(1048576, .keep), (1048577, .keep), (1049600, .cells [.data (.int .i64), .data (.int .i64), .data (.int .i64), .data (.int .i64)])], fz := [] }),
  (1572897, { tms := [(0, .keep), (3, .keep), (4, .keep), (5, .keep), (6, .keep), (7, .keep)], obs := [(1048576, .keep), (1048577, .keep), (1049600, .cells [.data (.int .i64), .data (.int .i64), .data (.int .i64), .data (.int .i64)]), (1053709, .keep)], fz := [] })], own := [] }
theorem f16_run (a0 : List (Int × Int × Int × Int)) (a1 : Int × Int × Int) (K : ((Int × Int) × Int × Int) → Prop) : runF Tryz.prog f16_E f16_A 6 Tryz.f16 f16_e.doms f16_e.cods (a0, a1) K =
    (LoopP (V := Int × Int × Int × Int × Int × Unit) (fun again v => (fun (again1 : Int → Int → Int → Int → Int → Prop) (v1_0 : Int) (v1_1 : Int) (v1_2 : Int) (v1_3 : Int) (v1_4 : Int) =>
    br (lenOk (a0.length))
    (br (decide (v1_0 < ((a0.length) : Int)))
    (br (decide (0 ≤ v1_0) && decide (v1_0 < ((a0.length) : Int)))
    (br (decide (0 ≤ v1_0) && decide (v1_0 < ((a0.length) : Int)))
    (f35_pre ((f36 (a1, ((f37 ((a0.getD v1_0.toNat (0, (0, (0, 0)))).1, (((a0.getD v1_0.toNat (0, (0, (0, 0)))).2).1, (((a0.getD v1_0.toNat (0, (0, (0, 0)))).2).2)))).1, ((f37 ((a0.getD v1_0.toNat (0, (0, (0, 0)))).1, (((a0.getD v1_0.toNat (0, (0, (0, 0)))).2).1, (((a0.getD v1_0.toNat (0, (0, (0, 0)))).2).2)))).2)))), (((a0.getD v1_0.toNat (0, (0, (0, 0)))).2).2).2) ∧
    JoinQ (V := Int × Int × Int × Int × Unit) (fun J => (fun (join2 : Int → Int → Int → Int → Prop) =>
    br (v1_0 == 0)
    (join2 ((f35 ((f36 (a1, ((f37 ((a0.getD v1_0.toNat (0, (0, (0, 0)))).1, (((a0.getD v1_0.toNat (0, (0, (0, 0)))).2).1, (((a0.getD v1_0.toNat (0, (0, (0, 0)))).2).2)))).1, ((f37 ((a0.getD v1_0.toNat (0, (0, (0, 0)))).1, (((a0.getD v1_0.toNat (0, (0, (0, 0)))).2).1, (((a0.getD v1_0.toNat (0, (0, (0, 0)))).2).2)))).2)))), (((a0.getD v1_0.toNat (0, (0, (0, 0)))).2).2).2)).1) ((f35 ((f36 (a1, ((f37 ((a0.getD v1_0.toNat (0, (0, (0, 0)))).1, (((a0.getD v1_0.toNat (0, (0, (0, 0)))).2).1, (((a0.getD v1_0.toNat (0, (0, (0, 0)))).2).2)))).1, ((f37 ((a0.getD v1_0.toNat (0, (0, (0, 0)))).1, (((a0.getD v1_0.toNat (0, (0, (0, 0)))).2).1, (((a0.getD v1_0.toNat (0, (0, (0, 0)))).2).2)))).2)))), (((a0.getD v1_0.toNat (0, (0, (0, 0)))).2).2).2)).2) v1_3 v1_4)
    (f38_pre ((f35 ((f36 (a1, ((f37 ((a0.getD v1_0.toNat (0, (0, (0, 0)))).1, (((a0.getD v1_0.toNat (0, (0, (0, 0)))).2).1, (((a0.getD v1_0.toNat (0, (0, (0, 0)))).2).2)))).1, ((f37 ((a0.getD v1_0.toNat (0, (0, (0, 0)))).1, (((a0.getD v1_0.toNat (0, (0, (0, 0)))).2).1, (((a0.getD v1_0.toNat (0, (0, (0, 0)))).2).2)))).2)))), (((a0.getD v1_0.toNat (0, (0, (0, 0)))).2).2).2)).1, ((f35 ((f36 (a1, ((f37 ((a0.getD v1_0.toNat (0, (0, (0, 0)))).1, (((a0.getD v1_0.toNat (0, (0, (0, 0)))).2).1, (((a0.getD v1_0.toNat (0, (0, (0, 0)))).2).2)))).1, ((f37 ((a0.getD v1_0.toNat (0, (0, (0, 0)))).1, (((a0.getD v1_0.toNat (0, (0, (0, 0)))).2).1, (((a0.getD v1_0.toNat (0, (0, (0, 0)))).2).2)))).2)))), (((a0.getD v1_0.toNat (0, (0, (0, 0)))).2).2).2)).2, (v1_1, v1_2))) ∧
    br (decide ((f38 ((f35 ((f36 (a1, ((f37 ((a0.getD v1_0.toNat (0, (0, (0, 0)))).1, (((a0.getD v1_0.toNat (0, (0, (0, 0)))).2).1, (((a0.getD v1_0.toNat (0, (0, (0, 0)))).2).2)))).1, ((f37 ((a0.getD v1_0.toNat (0, (0, (0, 0)))).1, (((a0.getD v1_0.toNat (0, (0, (0, 0)))).2).1, (((a0.getD v1_0.toNat (0, (0, (0, 0)))).2).2)))).2)))), (((a0.getD v1_0.toNat (0, (0, (0, 0)))).2).2).2)).1, ((f35 ((f36 (a1, ((f37 ((a0.getD v1_0.toNat (0, (0, (0, 0)))).1, (((a0.getD v1_0.toNat (0, (0, (0, 0)))).2).1, (((a0.getD v1_0.toNat (0, (0, (0, 0)))).2).2)))).1, ((f37 ((a0.getD v1_0.toNat (0, (0, (0, 0)))).1, (((a0.getD v1_0.toNat (0, (0, (0, 0)))).2).1, (((a0.getD v1_0.toNat (0, (0, (0, 0)))).2).2)))).2)))), (((a0.getD v1_0.toNat (0, (0, (0, 0)))).2).2).2)).2, (v1_1, v1_2)))) < 0))
    (join2 ((f35 ((f36 (a1, ((f37 ((a0.getD v1_0.toNat (0, (0, (0, 0)))).1, (((a0.getD v1_0.toNat (0, (0, (0, 0)))).2).1, (((a0.getD v1_0.toNat (0, (0, (0, 0)))).2).2)))).1, ((f37 ((a0.getD v1_0.toNat (0, (0, (0, 0)))).1, (((a0.getD v1_0.toNat (0, (0, (0, 0)))).2).1, (((a0.getD v1_0.toNat (0, (0, (0, 0)))).2).2)))).2)))), (((a0.getD v1_0.toNat (0, (0, (0, 0)))).2).2).2)).1) ((f35 ((f36 (a1, ((f37 ((a0.getD v1_0.toNat (0, (0, (0, 0)))).1, (((a0.getD v1_0.toNat (0, (0, (0, 0)))).2).1, (((a0.getD v1_0.toNat (0, (0, (0, 0)))).2).2)))).1, ((f37 ((a0.getD v1_0.toNat (0, (0, (0, 0)))).1, (((a0.getD v1_0.toNat (0, (0, (0, 0)))).2).1, (((a0.getD v1_0.toNat (0, (0, (0, 0)))).2).2)))).2)))), (((a0.getD v1_0.toNat (0, (0, (0, 0)))).2).2).2)).2) v1_3 v1_4)
    (join2 v1_1 v1_2 v1_3 v1_4))) (fun j2_0 j2_1 j2_2 j2_3 => J (j2_0, j2_1, j2_2, j2_3, ()))) (fun v => (fun (j2_0 : Int) (j2_1 : Int) (j2_2 : Int) (j2_3 : Int) =>
    br (v1_0 == 0)
    (again1 (IntKind.i64.wrap (v1_0 + 1)) j2_0 j2_1 ((f35 ((f36 (a1, ((f37 ((a0.getD v1_0.toNat (0, (0, (0, 0)))).1, (((a0.getD v1_0.toNat (0, (0, (0, 0)))).2).1, (((a0.getD v1_0.toNat (0, (0, (0, 0)))).2).2)))).1, ((f37 ((a0.getD v1_0.toNat (0, (0, (0, 0)))).1, (((a0.getD v1_0.toNat (0, (0, (0, 0)))).2).1, (((a0.getD v1_0.toNat (0, (0, (0, 0)))).2).2)))).2)))), (((a0.getD v1_0.toNat (0, (0, (0, 0)))).2).2).2)).1) ((f35 ((f36 (a1, ((f37 ((a0.getD v1_0.toNat (0, (0, (0, 0)))).1, (((a0.getD v1_0.toNat (0, (0, (0, 0)))).2).1, (((a0.getD v1_0.toNat (0, (0, (0, 0)))).2).2)))).1, ((f37 ((a0.getD v1_0.toNat (0, (0, (0, 0)))).1, (((a0.getD v1_0.toNat (0, (0, (0, 0)))).2).1, (((a0.getD v1_0.toNat (0, (0, (0, 0)))).2).2)))).2)))), (((a0.getD v1_0.toNat (0, (0, (0, 0)))).2).2).2)).2))
    (f38_pre ((f35 ((f36 (a1, ((f37 ((a0.getD v1_0.toNat (0, (0, (0, 0)))).1, (((a0.getD v1_0.toNat (0, (0, (0, 0)))).2).1, (((a0.getD v1_0.toNat (0, (0, (0, 0)))).2).2)))).1, ((f37 ((a0.getD v1_0.toNat (0, (0, (0, 0)))).1, (((a0.getD v1_0.toNat (0, (0, (0, 0)))).2).1, (((a0.getD v1_0.toNat (0, (0, (0, 0)))).2).2)))).2)))), (((a0.getD v1_0.toNat (0, (0, (0, 0)))).2).2).2)).1, ((f35 ((f36 (a1, ((f37 ((a0.getD v1_0.toNat (0, (0, (0, 0)))).1, (((a0.getD v1_0.toNat (0, (0, (0, 0)))).2).1, (((a0.getD v1_0.toNat (0, (0, (0, 0)))).2).2)))).1, ((f37 ((a0.getD v1_0.toNat (0, (0, (0, 0)))).1, (((a0.getD v1_0.toNat (0, (0, (0, 0)))).2).1, (((a0.getD v1_0.toNat (0, (0, (0, 0)))).2).2)))).2)))), (((a0.getD v1_0.toNat (0, (0, (0, 0)))).2).2).2)).2, (j2_2, j2_3))) ∧
    br (decide ((f38 ((f35 ((f36 (a1, ((f37 ((a0.getD v1_0.toNat (0, (0, (0, 0)))).1, (((a0.getD v1_0.toNat (0, (0, (0, 0)))).2).1, (((a0.getD v1_0.toNat (0, (0, (0, 0)))).2).2)))).1, ((f37 ((a0.getD v1_0.toNat (0, (0, (0, 0)))).1, (((a0.getD v1_0.toNat (0, (0, (0, 0)))).2).1, (((a0.getD v1_0.toNat (0, (0, (0, 0)))).2).2)))).2)))), (((a0.getD v1_0.toNat (0, (0, (0, 0)))).2).2).2)).1, ((f35 ((f36 (a1, ((f37 ((a0.getD v1_0.toNat (0, (0, (0, 0)))).1, (((a0.getD v1_0.toNat (0, (0, (0, 0)))).2).1, (((a0.getD v1_0.toNat (0, (0, (0, 0)))).2).2)))).1, ((f37 ((a0.getD v1_0.toNat (0, (0, (0, 0)))).1, (((a0.getD v1_0.toNat (0, (0, (0, 0)))).2).1, (((a0.getD v1_0.toNat (0, (0, (0, 0)))).2).2)))).2)))), (((a0.getD v1_0.toNat (0, (0, (0, 0)))).2).2).2)).2, (j2_2, j2_3)))) > 0))
    (again1 (IntKind.i64.wrap (v1_0 + 1)) j2_0 j2_1 ((f35 ((f36 (a1, ((f37 ((a0.getD v1_0.toNat (0, (0, (0, 0)))).1, (((a0.getD v1_0.toNat (0, (0, (0, 0)))).2).1, (((a0.getD v1_0.toNat (0, (0, (0, 0)))).2).2)))).1, ((f37 ((a0.getD v1_0.toNat (0, (0, (0, 0)))).1, (((a0.getD v1_0.toNat (0, (0, (0, 0)))).2).1, (((a0.getD v1_0.toNat (0, (0, (0, 0)))).2).2)))).2)))), (((a0.getD v1_0.toNat (0, (0, (0, 0)))).2).2).2)).1) ((f35 ((f36 (a1, ((f37 ((a0.getD v1_0.toNat (0, (0, (0, 0)))).1, (((a0.getD v1_0.toNat (0, (0, (0, 0)))).2).1, (((a0.getD v1_0.toNat (0, (0, (0, 0)))).2).2)))).1, ((f37 ((a0.getD v1_0.toNat (0, (0, (0, 0)))).1, (((a0.getD v1_0.toNat (0, (0, (0, 0)))).2).1, (((a0.getD v1_0.toNat (0, (0, (0, 0)))).2).2)))).2)))), (((a0.getD v1_0.toNat (0, (0, (0, 0)))).2).2).2)).2))
    (again1 (IntKind.i64.wrap (v1_0 + 1)) j2_0 j2_1 j2_2 j2_3))) v.1 v.2.1 v.2.2.1 v.2.2.2.1))
    False)
    False)
    (K ((v1_1, v1_2), (v1_3, v1_4))))
    True)
    (fun v1_0 v1_1 v1_2 v1_3 v1_4 => again (v1_0, v1_1, v1_2, v1_3, v1_4, ())) v.1 v.2.1 v.2.2.1 v.2.2.2.1 v.2.2.2.2.1) (0, 0, 0, 0, 0, ())) := by kernel_rfl
theorem f16_t (a0 : List (Int × Int × Int × Int)) (a1 : Int × Int × Int) (hpre : f16_pre (a0, a1)) (K : ((Int × Int) × Int × Int) → Prop) (hK : ∀ y : (Int × Int) × Int × Int, y = f16 (a0, a1) → K y) : RunF Tryz.prog f16_E f16_A 6 Tryz.f16 f16_e.doms f16_e.cods (a0, a1) K := by
  refine ⟨?_⟩
  rw [f16_run a0 a1 K]
  obtain ⟨hl, hv, hd⟩ := hpre
  dsimp only at hl hv hd
  have hfl : (fracs a0 a1).length = a0.length := by simp [fracs]
  have hfs : ∀ x ∈ fracs a0 a1, FS x := fun x hx => by
    obtain ⟨v, hv', rfl⟩ := List.mem_map.1 hx
    obtain ⟨h1, h2, h3⟩ := hv v hv'
    have h4 := dot_le h3 hd
    have h5 := low_pos (n := dot (wpt v) a1) h1
    have h6 := low_le (d := v.2.2.2) (m := 200000000) (show -200000000 ≤ dot (wpt v) a1 ∧ dot (wpt v) a1 ≤ 200000000 from ⟨by omega, by omega⟩)
    exact ⟨h6, h5.1, by omega⟩
  have e0 : f16 (a0, a1) = if a0.length = 0 then no4 else spanW a0 a1 := rfl
  refine LoopP.of (fun q : Int × Int × Int × Int × Int × Unit => ∃ (i : Nat) (lo hi : R2), i ≤ a0.length ∧ q = ((i : Int), lo.1, lo.2, hi.1, hi.2, ()) ∧ (i = 0 ∧ lo = (0, 0) ∧ hi = (0, 0) ∨ 1 ≤ i ∧ lo = minF ((fracs a0 a1).take i) ∧ hi = maxF ((fracs a0 a1).take i))) (fun q => ((a0.length : Int) - q.1).toNat) (fun again q hq hag => ?_) ⟨0, (0, 0), (0, 0), by omega, rfl, .inl ⟨rfl, rfl, rfl⟩⟩
  obtain ⟨i, lo, hi, hi0, rfl, hI⟩ := hq
  dsimp only
  refine br_weak (br_if (fun hlt => ?_) fun hge => hK _ ?_)
  rotate_left
  · have : i = a0.length := by omega
    subst this
    rw [e0]
    rcases hI with ⟨h1, h2, h3⟩ | ⟨h1, h2, h3⟩
    · rw [if_pos h1, h2, h3]; rfl
    · rw [if_neg (by omega), h2, h3, List.take_of_length_le (by omega)]; rfl
  have hlt' : i < a0.length := by omega
  have hb := inb (show (0 : Int) ≤ i by omega) hlt
  have hq : (fracs a0 a1).getD i (0, 0) = low (dot (wpt (a0.getD i (0, 0, 0, 0))) a1) (a0.getD i (0, 0, 0, 0)).2.2.2 := by
    rw [getD_lt (by omega), getD_lt hlt']; simp [fracs]
  have hfm := hfs _ (getD_mem (d := (0, 0)) (show i < (fracs a0 a1).length by omega))
  have hvm := hv _ (getD_mem (d := (0, 0, 0, 0)) hlt')
  have pm : ∀ t, pick t ((fracs a0 a1).take (i + 1)) = if i = 0 then (fracs a0 a1).getD i (0, 0) else pickF t (pick t ((fracs a0 a1).take i)) ((fracs a0 a1).getD i (0, 0)) := fun t => pick_to t _ (by omega)
  have hfsp : ∀ t, 1 ≤ i → FS (pick t ((fracs a0 a1).take i)) := fun t h1 => pick_fs (by rw [List.length_take]; omega) fun x hx => hfs x (List.mem_of_mem_take hx)
  rw [Int.toNat_natCast, wr (n := (i : Int) + 1) (by omega) (by omega)]
  rw [hq] at pm hfm
  generalize a0.getD i (0, 0, 0, 0) = v at *
  obtain ⟨x, y, z, den⟩ := v
  dsimp only at hvm
  have hdt := dot_le hvm.2.2 hd
  have e37 : f37 (x, y, z, den) = (x, y, z) := rfl
  have e36 : f36 (a1, x, y, z) = dot (x, y, z) a1 := by
    have h1 : dot a1 (x, y, z) = dot (x, y, z) a1 := by simp only [dot]; grind
    have hdt : -(3 * (4860000 * 9)) ≤ dot (x, y, z) a1 ∧ dot (x, y, z) a1 ≤ 3 * (4860000 * 9) := hdt
    show w64 (dot a1 (x, y, z)) = _
    rw [h1]
    exact w64_fit ⟨by omega, by omega⟩
  have e35 : f35 (dot (x, y, z) a1, den) = low (dot (x, y, z) a1) den := rfl
  have hdt : -(3 * (4860000 * 9)) ≤ dot (x, y, z) a1 ∧ dot (x, y, z) a1 ≤ 3 * (4860000 * 9) := hdt
  have pm : ∀ t, pick t ((fracs a0 a1).take (i + 1)) = if i = 0 then low (dot (x, y, z) a1) den else pickF t (pick t ((fracs a0 a1).take i)) (low (dot (x, y, z) a1) den) := pm
  have hfm : FS (low (dot (x, y, z) a1) den) := hfm
  simp only [e37, e36, e35]
  refine br_must hb (br_must hb ⟨⟨⟨by dsimp only; omega, by dsimp only; omega⟩, fit_le (b := 4374) ⟨by dsimp only; omega, hvm.2.1⟩ (by omega), by dsimp only; omega⟩, ?_⟩)
  generalize low (dot (x, y, z) a1) den = f at *
  have fp : ∀ g : R2, FS g → f38_pre (f.1, f.2, g.1, g.2) := fun g hg => ⟨fit_le hfm.1 (by omega), fit_le (b := 100000) ⟨by dsimp only; have := hfm.2.1; omega, hfm.2.2⟩ (by omega), fit_le hg.1 (by omega), fit_le (b := 100000) ⟨by dsimp only; have := hg.2.1; omega, hg.2.2⟩ (by omega), hfm.2.1, hg.2.1⟩
  have ec : ∀ g : R2, f38 (f.1, f.2, g.1, g.2) = sgn (less2 f g) := fun _ => rfl
  have hpos : ∀ {n : Int}, sgn n > 0 ↔ n > 0 := fun {n} => by
    unfold sgn
    split
    · omega
    · split <;> omega
  refine JoinQ.use (fun q => ∃ lo' : R2, q = (lo'.1, lo'.2, hi.1, hi.2, ()) ∧ lo' = minF ((fracs a0 a1).take (i + 1))) (fun G hG => ?_) fun q hq => ?_
  · refine br_two (fun h => hG _ ⟨f, rfl, ?_⟩) fun h => ?_
    · have h := beq_iff_eq.1 h
      rw [minF, pm, if_pos (by omega)]
    · have h := beq_eq_false_iff_ne.1 h
      rcases hI with ⟨h1, _, _⟩ | ⟨h1, h2, h3⟩
      · omega
      · have hg : FS lo := by rw [h2]; exact hfsp _ h1
        refine ⟨fp lo hg, br_if (fun hc => hG _ ⟨f, rfl, ?_⟩) fun hc => hG _ ⟨lo, rfl, ?_⟩⟩
        · rw [ec, sgn_neg] at hc
          rw [minF, pm, if_neg (by omega), pickF]
          unfold minF at h2
          rw [← h2, if_pos (decide_eq_true hc)]
        · rw [ec, sgn_neg] at hc
          rw [minF, pm, if_neg (by omega), pickF]
          unfold minF at h2
          rw [← h2, if_neg (by simpa using hc)]
  obtain ⟨lo', rfl, hlo⟩ := hq
  dsimp only
  refine br_two (fun h => hag _ ⟨i + 1, lo', f, by omega, rfl, .inr ⟨by omega, hlo, ?_⟩⟩ (by dsimp only; omega)) fun h => ?_
  · have h := beq_iff_eq.1 h
    rw [maxF, pm, if_pos (by omega)]
  · have h := beq_eq_false_iff_ne.1 h
    rcases hI with ⟨h1, _, _⟩ | ⟨h1, h2, h3⟩
    · omega
    · have hg : FS hi := by rw [h3]; exact hfsp _ h1
      refine ⟨fp hi hg, br_if (fun hc => hag _ ⟨i + 1, lo', f, by omega, rfl, .inr ⟨by omega, hlo, ?_⟩⟩ (by dsimp only; omega)) fun hc => hag _ ⟨i + 1, lo', hi, by omega, rfl, .inr ⟨by omega, hlo, ?_⟩⟩ (by dsimp only; omega)⟩
      · rw [ec] at hc
        have hc := hpos.1 hc
        rw [maxF, pm, if_neg (by omega), pickF]
        unfold maxF at h3
        rw [← h3, if_pos (decide_eq_true hc)]
      · rw [ec] at hc
        have hc : ¬ less2 f hi > 0 := fun hh => hc (hpos.2 hh)
        rw [maxF, pm, if_neg (by omega), pickF]
        unfold maxF at h3
        rw [← h3, if_neg (by simpa using hc)]
theorem f16_fn : f16_e.fn = f16 := rfl
theorem f16_ok : EntryOK Tryz.prog 16 f16_e := by
  refine entryF progOK (EnvOK.cons f35_ok (EnvOK.cons f36_ok (EnvOK.cons f37_ok (EnvOK.cons f38_ok (EnvOK.nil))))) (A := f16_A) (d := 6) Tryz.func16 rfl rfl rfl rfl (fun h => by cases h) fun x hpre => ?_
  obtain ⟨a0, a1⟩ := x
  exact f16_t a0 a1 hpre _ fun _ h => h.trans (congrFun f16_fn.symm _)
end Go.Proofs.YtglijnhkdnhofaaGreat
