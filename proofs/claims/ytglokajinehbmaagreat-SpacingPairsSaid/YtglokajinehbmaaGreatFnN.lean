/- What functions of the program compute, each proved once, part 14. -/
import Derived.Test.YtglokajinehbmaaGreatPiD
import Derived.Test.YtglokajinehbmaaGreatFnA
import Derived.Test.YtglokajinehbmaaGreatFnK
import Derived.Test.YtglokajinehbmaaGreatFnL
import Derived.Test.YtglokajinehbmaaGreatFnI
import Derived.Test.YtglokajinehbmaaGreatFnG
import Derived.Test.YtglokajinehbmaaGreatFnH
import Derived.Test.YtglokajinehbmaaGreatFnF

section
namespace Go.Proofs.YtglokajinehbmaaGreat
open Go Go.Pi Go.RowKit
set_option maxRecDepth 100000
set_option linter.unusedVariables false
set_option linter.unusedSimpArgs false

def f14 (p : (List (List Int) × List (List Int)) × List (ByteArray × Int × Int × Int × Int) × List Int) : Bool := decide (costsOk p)
def f14_pre (p : (List (List Int) × List (List Int)) × List (ByteArray × Int × Int × Int × Int) × List Int) : Prop := okP p
def f14_e : Entry := { doms := [(true, (.pair (.pair (.sl (.sl (.int .i64))) (.sl (.sl (.int .i64)))) (.pair (.sl (.pair .str (.pair (.int .i64) (.pair (.int .i64) (.pair (.int .i64) (.int .i64)))))) (.sl (.int .i64)))))], cods := [(false, .bool)], pre := f14_pre, fn := f14, uq := false, total := false }
def f14_E : Env := [(51, f51_e), (13, f13_e), (7, f7_e)]
def f14_A : Anns := { loops := [(1048576, { tms := [(1, .keep), (3, .data false (.int .i64))], obs := [(1048576, .keep)], fz := [] }),
  (1048578, { tms := [(1, .keep), (3, .keep), (4, .data false (.int .i64))], obs := [(1048576, .keep)], fz := [] })], own := [] }
theorem f14_run (a0 : (List (List Int) × List (List Int)) × List (ByteArray × Int × Int × Int × Int) × List Int) (K : Bool → Prop) : runF Tryz.prog f14_E f14_A 6 Tryz.f14 f14_e.doms f14_e.cods a0 K =
    (LoopP (V := Int × Unit) (fun again v => (fun (again1 : Int → Prop) (v1_0 : Int) =>
    br (lenOk (a0.2.1.length))
    (br (decide (v1_0 < ((a0.2.1.length) : Int)))
    (LoopP (V := Int × Unit) (fun again v => (fun (again2 : Int → Prop) (v2_0 : Int) =>
    br (decide (v2_0 < v1_0))
    (f51_pre (a0, (v2_0, v1_0)) ∧
    br (!(f51 (a0, (v2_0, v1_0))).2)
    (K false)
    (again2 (IntKind.i64.wrap (v2_0 + 1))))
    (again1 (IntKind.i64.wrap (v1_0 + 1))))
    (fun v2_0 => again (v2_0, ())) v.1) (0, ()))
    (K true))
    True)
    (fun v1_0 => again (v1_0, ())) v.1) (0, ())) := by kernel_rfl
theorem f14_t (a0 : (List (List Int) × List (List Int)) × List (ByteArray × Int × Int × Int × Int) × List Int) (hpre : f14_pre a0) (K : Bool → Prop) (hK : ∀ y : Bool, y = f14 a0 → K y) : RunF Tryz.prog f14_E f14_A 6 Tryz.f14 f14_e.doms f14_e.cods a0 K := by
  refine ⟨?_⟩
  rw [f14_run a0 K]
  have hok : okP a0 := hpre
  have h6 := hok.v.six
  have ef : f14 a0 = decide (costsOk a0) := rfl
  rw [ef] at hK
  refine LoopP.of (fun q : Int × Unit => ∃ i : Nat, i ≤ a0.2.1.length ∧ q.1 = (i : Int) ∧ ∀ b, b < i → ∀ a, a < b → (pairB a0 (a : Nat) (b : Nat)).isSome = true) (fun q => ((a0.2.1.length : Int) - q.1).toNat) (fun again q hq hag => ?_) ⟨0, by omega, rfl, fun b hb => by omega⟩
  obtain ⟨ii, u⟩ := q
  obtain ⟨i, hi, e1, e2⟩ := hq
  simp only at e1
  subst e1
  dsimp only
  rw [br_true_]
  intro _
  rw [br_dec]
  refine ⟨fun hlt => ?_, fun hlt => ?_⟩
  · have hlt : i < a0.2.1.length := by omega
    rw [wr (n := (i : Int) + 1) (by omega) (by omega)]
    refine LoopP.of (fun q : Int × Unit => ∃ k : Nat, k ≤ i ∧ q.1 = (k : Int) ∧ ∀ a, a < k → (pairB a0 (a : Nat) (i : Nat)).isSome = true) (fun q => ((i : Int) - q.1).toNat) (fun again2 q hq hag2 => ?_) ⟨0, by omega, rfl, fun b hb => by omega⟩
    obtain ⟨kk, u⟩ := q
    obtain ⟨k, hk, e1, e3⟩ := hq
    simp only at e1
    subst e1
    dsimp only
    rw [br_dec]
    refine ⟨fun hlt2 => ?_, fun hlt2 => ?_⟩
    · have hlt2 : k < i := by omega
      refine ⟨⟨hok, ⟨by simp only; omega, by simp only; omega⟩, ⟨by simp only; omega, by simp only; omega⟩⟩, ?_⟩
      rw [f51_2, wr (n := (k : Int) + 1) (by omega) (by omega), br_both]
      refine ⟨fun h => hK _ (decide_eq_false fun hc => ?_).symm, fun h => hag2 _ ⟨k + 1, by omega, by simp only; omega, fun a ha => ?_⟩ (by simp only; omega)⟩
      · have := hc i hlt k hlt2
        rw [this] at h
        cases h
      · rcases Nat.lt_or_ge a k with hh | hh
        · exact e3 a hh
        · rw [show a = k by omega]
          exact not_false_.1 h
    · have : k = i := by omega
      subst this
      refine hag _ ⟨k + 1, by omega, by simp only; omega, fun b hb a ha => ?_⟩ (by simp only; omega)
      rcases Nat.lt_or_ge b k with hh | hh
      · exact e2 b hh a ha
      · rw [show b = k by omega] at ha ⊢
        exact e3 a ha
  · have : i = a0.2.1.length := by omega
    subst this
    exact hK _ (decide_eq_true (fun b hb a ha => e2 b hb a ha)).symm
theorem f14_fn : f14_e.fn = f14 := rfl
theorem f14_ok : EntryOK Tryz.prog 14 f14_e := by
  refine entryF progOK (EnvOK.cons f51_ok (EnvOK.cons f13_ok (EnvOK.cons f7_ok (EnvOK.nil)))) (A := f14_A) (d := 6) Tryz.func14 rfl rfl rfl rfl (fun h => by cases h) fun x hpre => ?_
  exact f14_t x hpre _ fun _ h => h.trans (congrFun f14_fn.symm _)
end Go.Proofs.YtglokajinehbmaaGreat
end

section
namespace Go.Proofs.YtglokajinehbmaaGreat
open Go Go.Pi Go.RowKit
set_option maxRecDepth 100000
set_option linter.unusedVariables false
set_option linter.unusedSimpArgs false

theorem matchL_fuel {count : Nat} : ∀ (f g from_ : Nat) (begun : Prs), count ≤ f + from_ → count ≤ g + from_ → matchL count f from_ begun = matchL count g from_ begun
  | 0, g, from_, begun, h, h2 => by rw [matchL_end _ _ _ _ (by omega), matchL_end _ _ _ _ (by omega)]
  | f + 1, g, from_, begun, h, h2 => by
    rcases Nat.lt_or_ge from_ count with hlt | hge
    · obtain ⟨g', rfl⟩ : ∃ g', g = g' + 1 := ⟨g - 1, by omega⟩
      have : ∀ i, colTo count f from_ begun i = colTo count g' from_ begun i := fun i => by
        unfold colTo
        congr 1
        funext a
        split
        · rfl
        · unfold rowTo
          congr 1
          funext b
          split
          · exact matchL_fuel f g' (a + 1) _ (by omega) (by omega)
          · rfl
      rw [matchL_succ, matchL_succ, this]
    · rw [matchL_end _ _ _ _ hge, matchL_end _ _ _ _ hge]
def mb : Nat → Nat
  | 0 => 1
  | n + 1 => 1 + 36 * mb n
theorem flatMap_len {α β : Type} (f : α → List β) (k : Nat) : ∀ (l : List α), (∀ x ∈ l, (f x).length ≤ k) → (l.flatMap f).length ≤ l.length * k
  | [], _ => by simp
  | x :: r, h => by
    have := flatMap_len f k r fun y hy => h y (.tail _ hy)
    have := h x (.head _)
    rw [List.flatMap_cons, List.length_append, List.length_cons, Nat.add_mul]
    omega
theorem matchL_len {count : Nat} (hc : count ≤ 6) : ∀ (f from_ : Nat) (begun : Prs), (matchL count f from_ begun).length ≤ mb f
  | 0, _, _ => by simp [matchL, mb]
  | f + 1, from_, begun => by
    simp only [matchL, List.length_cons]
    have h1 := flatMap_len (fun a => if a < from_ then [] else (List.range count).flatMap fun b => if a < b ∧ freeB begun a b = true then matchL count f (a + 1) (begun ++ [((a : Int), (b : Int))]) else []) (6 * mb f) (List.range count) (fun a _ => by
      split
      · simp
      · have := flatMap_len (fun b => if a < b ∧ freeB begun a b = true then matchL count f (a + 1) (begun ++ [((a : Int), (b : Int))]) else []) (mb f) (List.range count) (fun b _ => by
          split
          · exact matchL_len hc f _ _
          · simp)
        rw [List.length_range] at this
        exact Nat.le_trans this (Nat.mul_le_mul_right _ hc))
    rw [List.length_range] at h1
    have : count * (6 * mb f) ≤ 6 * (6 * mb f) := Nat.mul_le_mul_right _ hc
    rw [mb]
    omega
theorem mb_mono : ∀ {a b : Nat}, a ≤ b → mb a ≤ mb b := fun {a b} h => by
  induction b with
  | zero => rw [show a = 0 by omega]; exact Nat.le_refl _
  | succ b ih =>
    rcases Nat.lt_or_ge b a with hh | hh
    · rw [show a = b + 1 by omega]; exact Nat.le_refl _
    · have := ih hh
      rw [show mb (b + 1) = 1 + 36 * mb b from rfl]
      omega
def f52 (x : Int × Int × List (Int × Int)) : List (List (Int × Int)) := matchL x.1.toNat x.1.toNat x.2.1.toNat x.2.2
def f52_preN (n : Nat) (x : Int × Int × List (Int × Int)) : Prop := (∃ count from_ : Nat, x.1 = (count : Int) ∧ x.2.1 = (from_ : Int) ∧ count ≤ 6 ∧ from_ ≤ count ∧ count < n + from_ ∧ PrsV count x.2.2 ∧ ∀ y ∈ x.2.2, y.1 < (from_ : Int)) ∧ n ≤ 9
theorem f52_no {x : Int × Int × List (Int × Int)} (h : f52_preN 0 x) : False := by
  obtain ⟨⟨c, f, _, _, _, _, h, _⟩, _⟩ := h
  omega
def f52_eN (n : Nat) : Entry := { doms := [(false, (.int .i64)), (false, (.int .i64)), (false, (.sl (.pair (.int .i64) (.int .i64))))], cods := [(false, (.sl (.sl (.pair (.int .i64) (.int .i64)))))], pre := f52_preN n, fn := f52, uq := false, total := false }
def f52_E (n : Nat) : Env := [(52, f52_eN n), (10, f10_e)]
def f52_A : Anns := { loops := [(1048576, { tms := [(0, .keep), (2, .keep), (7, .ref 1049601), (8, .data false (.int .i64))], obs := [(1049601, .arr (.uniq) (.sl (.pair (.int .i64) (.int .i64))))], fz := [] }),
  (1048578, { tms := [(0, .keep), (2, .keep), (7, .ref 1049601), (8, .keep), (9, .data false (.int .i64))], obs := [(1049601, .arr (.uniq) (.sl (.pair (.int .i64) (.int .i64))))], fz := [] }),
  (1048580, { tms := [(0, .keep), (2, .keep), (7, .keep), (8, .keep), (9, .keep), (10, .data false .bool), (11, .data false (.int .i64))], obs := [(1049601, .keep)], fz := [] })], own := [1049601, 1062916] }
theorem f52_run (n : Nat) (a0 : Int) (a1 : Int) (a2 : List (Int × Int)) (K : (List (List (Int × Int))) → Prop) : runF Tryz.prog (f52_E n) f52_A 6 Tryz.f52 (f52_eN n).doms (f52_eN n).cods (a0, a1, a2) K =
    (LoopP (V := Int × List (List (Int × Int)) × Unit) (fun again v => (fun (again1 : Int → List (List (Int × Int)) → Prop) (v1_0 : Int) (v1_1 : List (List (Int × Int))) =>
    br (decide (v1_0 < a0))
    (LoopP (V := Int × List (List (Int × Int)) × Unit) (fun again v => (fun (again2 : Int → List (List (Int × Int)) → Prop) (v2_0 : Int) (v2_1 : List (List (Int × Int))) =>
    br (decide (v2_0 < a0))
    (LoopP (V := Bool × Int × Unit) (fun again v => (fun (again3 : Bool → Int → Prop) (v3_0 : Bool) (v3_1 : Int) =>
    br (lenOk (a2.length))
    (br (decide (v3_1 < ((a2.length) : Int)))
    (br v3_0
    (br (decide (0 ≤ v3_1) && decide (v3_1 < ((a2.length) : Int)))
    (br ((a2.getD v3_1.toNat (0, 0)).2 != v1_0)
    (br (decide (0 ≤ v3_1) && decide (v3_1 < ((a2.length) : Int)))
    (br ((a2.getD v3_1.toNat (0, 0)).2 != v2_0)
    (br (decide (0 ≤ v3_1) && decide (v3_1 < ((a2.length) : Int)))
    (again3 ((a2.getD v3_1.toNat (0, 0)).1 != v2_0) (IntKind.i64.wrap (v3_1 + 1)))
    False)
    (again3 false (IntKind.i64.wrap (v3_1 + 1))))
    False)
    (again3 false (IntKind.i64.wrap (v3_1 + 1))))
    False)
    (again3 false (IntKind.i64.wrap (v3_1 + 1))))
    (br v3_0
    (br (roomOk (0 + (a2.length)) 16)
    (br (roomOk (((([] : List (Int × Int)) ++ a2).length) + 1) 16)
    (f52_preN n (a0, ((IntKind.i64.wrap (v1_0 + 1)), ((([] : List (Int × Int)) ++ a2) ++ ([(v1_0, v2_0)] : List (Int × Int))))) ∧
    br (roomOk ((v2_1.length) + ((f52 (a0, ((IntKind.i64.wrap (v1_0 + 1)), ((([] : List (Int × Int)) ++ a2) ++ ([(v1_0, v2_0)] : List (Int × Int)))))).length)) 24)
    (again2 (IntKind.i64.wrap (v2_0 + 1)) (v2_1 ++ (f52 (a0, ((IntKind.i64.wrap (v1_0 + 1)), ((([] : List (Int × Int)) ++ a2) ++ ([(v1_0, v2_0)] : List (Int × Int))))))))
    False)
    False)
    False)
    (again2 (IntKind.i64.wrap (v2_0 + 1)) v2_1)))
    True)
    (fun v3_0 v3_1 => again (v3_0, v3_1, ())) v.1 v.2.1) (true, 0, ()))
    (again1 (IntKind.i64.wrap (v1_0 + 1)) v2_1))
    (fun v2_0 v2_1 => again (v2_0, v2_1, ())) v.1 v.2.1) ((IntKind.i64.wrap (v1_0 + 1)), v1_1, ()))
    (K v1_1))
    (fun v1_0 v1_1 => again (v1_0, v1_1, ())) v.1 v.2.1) (a1, ([a2] : List (List (Int × Int))), ())) := by kernel_rfl
theorem f52_t (n : Nat) (a0 : Int) (a1 : Int) (a2 : List (Int × Int)) (hpre : f52_preN (n + 1) (a0, a1, a2)) (K : (List (List (Int × Int))) → Prop) (hK : ∀ y : List (List (Int × Int)), y = f52 (a0, a1, a2) → K y) : RunF Tryz.prog (f52_E n) f52_A 6 Tryz.f52 (f52_eN n).doms (f52_eN n).cods (a0, a1, a2) K := by
  refine ⟨?_⟩
  rw [f52_run n a0 a1 a2 K]
  obtain ⟨⟨count, from_, hc, hf, hc6, hfc, hn, hV, hlow⟩, hn9⟩ := hpre
  simp only at hc hf hV hlow
  subst hc hf
  have ef : f52 ((count : Int), (from_ : Int), a2) = matchL count count from_ a2 := by simp [f52]
  rw [ef, matchL_cons (by omega)] at hK
  have hlen := hV.len
  have hcol : ∀ i, i ≤ count → (colTo count (count - 1) from_ a2 i).length ≤ 6 * (6 * mb 6) := fun i hi => by
    have := flatMap_len (fun a => if a < from_ then [] else rowTo count (count - 1) a2 a count) (6 * mb 6) (List.range i) (fun a _ => by
      split
      · simp
      · have := flatMap_len (fun b => if a < b ∧ freeB a2 a b = true then matchL count (count - 1) (a + 1) (a2 ++ [((a : Int), (b : Int))]) else []) (mb 6) (List.range count) (fun b _ => by
          split
          · exact Nat.le_trans (matchL_len hc6 _ _ _) (mb_mono (by omega))
          · simp)
        rw [List.length_range] at this
        exact Nat.le_trans this (Nat.mul_le_mul_right _ hc6))
    rw [List.length_range] at this
    exact Nat.le_trans this (Nat.mul_le_mul_right _ (by omega))
  have hrow : ∀ a k, k ≤ count → (rowTo count (count - 1) a2 a k).length ≤ 6 * mb 6 := fun a k hk => by
    have := flatMap_len (fun b => if a < b ∧ freeB a2 a b = true then matchL count (count - 1) (a + 1) (a2 ++ [((a : Int), (b : Int))]) else []) (mb 6) (List.range k) (fun b _ => by
      split
      · exact Nat.le_trans (matchL_len hc6 _ _ _) (mb_mono (by omega))
      · simp)
    rw [List.length_range] at this
    exact Nat.le_trans this (Nat.mul_le_mul_right _ (by omega))
  have hmb : mb 6 = 2238976117 := by decide
  refine LoopP.of (fun q : Int × List Prs × Unit => ∃ i : Nat, (from_ ≤ i ∧ i ≤ count) ∧ q.1 = (i : Int) ∧ q.2.1 = a2 :: colTo count (count - 1) from_ a2 i) (fun q => ((count : Int) - q.1).toNat) (fun again q hq hag => ?_) ⟨from_, ⟨Nat.le_refl _, hfc⟩, rfl, by rw [colTo_low _ _ _ _ _ (Nat.le_refl _)]⟩
  obtain ⟨ii, out, u⟩ := q
  obtain ⟨i, hi, e1, e2⟩ := hq
  simp only at e1 e2
  subst e1 e2
  dsimp only
  rw [br_dec]
  refine ⟨fun hlt => ?_, fun hlt => ?_⟩
  · have hlt : i < count := by omega
    rw [wr (n := (i : Int) + 1) (by omega) (by omega)]
    refine LoopP.of (fun q : Int × List Prs × Unit => ∃ k : Nat, (i + 1 ≤ k ∧ k ≤ count) ∧ q.1 = (k : Int) ∧ q.2.1 = a2 :: (colTo count (count - 1) from_ a2 i ++ rowTo count (count - 1) a2 i k)) (fun q => ((count : Int) - q.1).toNat) (fun again2 q hq hag2 => ?_) ⟨i + 1, ⟨Nat.le_refl _, hlt⟩, by simp only; omega, by rw [rowTo_low _ _ _ _ _ (Nat.le_refl _), List.append_nil]⟩
    obtain ⟨kk, out, u⟩ := q
    obtain ⟨k, hk, e1, e2⟩ := hq
    simp only at e1 e2
    subst e1 e2
    dsimp only
    rw [br_dec]
    refine ⟨fun hlt2 => ?_, fun hlt2 => ?_⟩
    · have hlt2 : k < count := by omega
      have hro := rowTo_succ count (count - 1) a2 i k
      rw [wr (n := (k : Int) + 1) (by omega) (by omega)]
      have hfree : freeB a2 i k = a2.all fun x => x.2 != (i : Int) && x.2 != (k : Int) && x.1 != (k : Int) := by
        rw [Bool.eq_iff_iff, freeB_iff, List.all_eq_true]
        constructor
        · rintro ⟨g1, g2⟩ x hx
          have hm1 : x.1 ∈ comps a2 := List.mem_flatMap.2 ⟨x, hx, by simp⟩
          have hm2 : x.2 ∈ comps a2 := List.mem_flatMap.2 ⟨x, hx, by simp⟩
          simp only [Bool.and_eq_true, bne_iff_ne, ne_eq]
          exact ⟨⟨fun e => g1 (e ▸ hm2), fun e => g2 (e ▸ hm2)⟩, fun e => g2 (e ▸ hm1)⟩
        · intro g
          constructor
          · intro hm
            obtain ⟨x, hx, hh⟩ := List.mem_flatMap.1 hm
            have h1 := g x hx
            simp only [Bool.and_eq_true, bne_iff_ne, ne_eq] at h1
            simp only [List.mem_cons, List.not_mem_nil, or_false] at hh
            rcases hh with hh | hh
            · have := hlow x hx
              omega
            · exact h1.1.1 hh.symm
          · intro hm
            obtain ⟨x, hx, hh⟩ := List.mem_flatMap.1 hm
            have h1 := g x hx
            simp only [Bool.and_eq_true, bne_iff_ne, ne_eq] at h1
            simp only [List.mem_cons, List.not_mem_nil, or_false] at hh
            rcases hh with hh | hh
            · exact h1.2 hh.symm
            · exact h1.1.2 hh.symm
      refine LoopP.of (fun q : Bool × Int × Unit => ∃ j : Nat, j ≤ a2.length ∧ q.2.1 = (j : Int) ∧ q.1 = (a2.take j).all fun x => x.2 != (i : Int) && x.2 != (k : Int) && x.1 != (k : Int)) (fun q => ((a2.length : Int) - q.2.1).toNat) (fun again3 q hq hag3 => ?_) ⟨0, by omega, rfl, rfl⟩
      obtain ⟨fr, jj, u⟩ := q
      obtain ⟨j, hj, e1, e2⟩ := hq
      simp only at e1 e2
      subst e1
      dsimp only
      rw [br_true_]
      intro _
      rw [br_dec]
      refine ⟨fun hlt3 => ?_, fun hlt3 => ?_⟩
      · have hlt3 : j < a2.length := by omega
        have hsn : a2.take (j + 1) = a2.take j ++ [a2.getD j (0, 0)] := by
          rw [List.take_add_one, List.getElem?_eq_getElem hlt3, getD_lt hlt3]
          rfl
        have hall : ((a2.take (j + 1)).all fun x => x.2 != (i : Int) && x.2 != (k : Int) && x.1 != (k : Int)) = (fr && ((a2.getD j (0, 0)).2 != (i : Int) && (a2.getD j (0, 0)).2 != (k : Int) && (a2.getD j (0, 0)).1 != (k : Int))) := by
          rw [hsn, List.all_append, ← e2]
          simp
        rw [wr (n := (j : Int) + 1) (by omega) (by omega), Int.toNat_natCast]
        have hb : (decide (0 ≤ (j : Int)) && decide ((j : Int) < (a2.length : Int))) = true := inb (by omega) (by omega)
        rw [hb]
        simp only [br_t]
        have go : ∀ b, b = (fr && ((a2.getD j (0, 0)).2 != (i : Int) && (a2.getD j (0, 0)).2 != (k : Int) && (a2.getD j (0, 0)).1 != (k : Int))) → again3 (b, (j : Int) + 1, ()) := fun b hb => hag3 _ ⟨j + 1, by omega, by simp only; omega, by simp only; rw [hall]; exact hb⟩ (by simp only; omega)
        cases fr with
        | false =>
          simp only [br_f]
          exact go false (by simp)
        | true =>
          simp only [br_t]
          rw [br_both]
          refine ⟨fun h1 => ?_, fun h1 => go false (by rw [h1]; simp)⟩
          rw [br_both]
          exact ⟨fun h2 => go _ (by rw [h1, h2]; simp), fun h2 => go false (by rw [h2]; simp)⟩
      · have : j = a2.length := by omega
        subst this
        rw [List.take_length, ← hfree] at e2
        subst e2
        rw [br_both]
        refine ⟨fun hfr => ?_, fun hfr => ?_⟩
        · rw [if_pos ⟨by omega, hfr⟩] at hro
          have hsn := hV.snoc (show i < k by omega) hlt2 hfr
          have e52 : f52 ((count : Int), (i : Int) + 1, [] ++ a2 ++ [((i : Int), (k : Int))]) = matchL count (count - 1) (i + 1) (a2 ++ [((i : Int), (k : Int))]) := by
            have : ((i : Int) + 1).toNat = i + 1 := by omega
            simp only [f52, Int.toNat_natCast, this, List.nil_append]
            exact matchL_fuel _ _ _ _ (by omega) (by omega)
          have hm := matchL_len hc6 (count - 1) (i + 1) (a2 ++ [((i : Int), (k : Int))])
          have hm2 : mb (count - 1) ≤ mb 6 := mb_mono (by omega)
          have h1 := hcol i (by omega)
          have h2 := hrow i k (by omega)
          rw [e52, br_false_, br_false_, br_false_, roomOk_iff, roomOk_iff, roomOk_iff]
          refine ⟨by omega, by simp; omega, ⟨⟨count, i + 1, rfl, by simp only; omega, hc6, by omega, by omega, by simpa using hsn, fun y hy => ?_⟩, by omega⟩, ?_, hag2 _ ⟨k + 1, by omega, by simp only; omega, ?_⟩ (by simp only; omega)⟩
          · simp only [List.nil_append] at hy
            rcases List.mem_append.1 hy with hy | hy
            · have := hlow y hy
              omega
            · simp only [List.mem_singleton] at hy
              subst hy
              simp only
              omega
          · rw [List.length_cons, List.length_append]
            omega
          · simp only
            rw [hro, List.cons_append, List.append_assoc]
        · rw [if_neg (fun hh => by rw [hfr] at hh; cases hh.2), List.append_nil] at hro
          exact hag2 _ ⟨k + 1, by omega, by simp only; omega, by simp only; rw [hro]⟩ (by simp only; omega)
    · have : k = count := by omega
      subst this
      have hcs := colTo_succ k (k - 1) from_ a2 i
      rw [if_neg (by omega)] at hcs
      exact hag _ ⟨i + 1, by omega, by simp only; omega, by simp only; rw [hcs]⟩ (by simp only; omega)
  · have : i = count := by omega
    subst this
    exact hK _ rfl
theorem f52_okN : ∀ n, EntryOK Tryz.prog 52 (f52_eN n)
  | 0 => ⟨⟨_, Tryz.func52, rfl⟩, fun h => (by cases h), fun _ _ _ _ _ _ h => (f52_no h).elim⟩
  | n + 1 => by
    refine entryF progOK (EnvOK.cons (f52_okN n) (EnvOK.cons f10_ok (EnvOK.nil))) (A := f52_A) (d := 6) Tryz.func52 rfl rfl rfl rfl (fun h => by cases h) fun x hpre => ?_
    obtain ⟨a0, a1, a2⟩ := x
    exact f52_t n a0 a1 a2 hpre _ fun _ h => h
def f52_pre := f52_preN 9
def f52_e : Entry := f52_eN 9
theorem f52_ok : EntryOK Tryz.prog 52 f52_e := f52_okN 9
end Go.Proofs.YtglokajinehbmaaGreat
end

section
namespace Go.Proofs.YtglokajinehbmaaGreat
set_option linter.unusedVariables false
set_option linter.unusedSimpArgs false
open Go Go.Pi
def cost1 (p : Prob) (s : Int × Int) : Int := (p.2.1.getD s.1.toNat arrD).2.2.2.2 * (s.2 - (p.2.1.getD s.1.toNat arrD).2.2.1)
theorem foldl_shift {α : Type} (f : α → Int) : ∀ (l : List α) (n : Int), l.foldl (fun n x => n + f x) n = n + l.foldl (fun n x => n + f x) 0
  | [], n => by simp
  | x :: r, n => by
    simp only [List.foldl_cons]
    rw [foldl_shift f r (n + f x), foldl_shift f r (0 + f x)]
    omega
theorem costF_cons (p : Prob) (s : Int × Int) (T : List (Int × Int)) : costF p (s :: T) = cost1 p s + costF p T := by
  unfold costF
  have := foldl_shift (cost1 p) T (0 + cost1 p s)
  simp only [List.foldl_cons]
  unfold cost1 at this ⊢
  rw [this]
  omega
theorem boundF_cons (p : Prob) (x : Int × Int) (l : Prs) : boundF p (x :: l) = cst p x.1 x.2 + boundF p l := by
  unfold boundF
  have := foldl_shift (fun x : Int × Int => cst p x.1 x.2) l (0 + cst p x.1 x.2)
  simp only [List.foldl_cons]
  rw [this]
  omega
def costA (p : Prob) : List (Int × Int) → Int → Int
  | [], _ => 0
  | s :: T, a => (if s.1 = a then cost1 p s else 0) + costA p T a
def sumA (f : Int → Int) : List Int → Int
  | [] => 0
  | a :: r => f a + sumA f r
theorem sumA_c (f : Int → Int) (a : Int) (r : List Int) : sumA f (a :: r) = f a + sumA f r := rfl
theorem costA_c (p : Prob) (s : Int × Int) (T : List (Int × Int)) (a : Int) : costA p (s :: T) a = (if s.1 = a then cost1 p s else 0) + costA p T a := rfl
theorem sumA_cons (p : Prob) (s : Int × Int) (T : List (Int × Int)) : ∀ xs : List Int, xs.Nodup → 0 ≤ cost1 p s → sumA (costA p (s :: T)) xs ≤ cost1 p s + sumA (costA p T) xs
  | [], _, h => by simp [sumA]; exact h
  | a :: r, hn, h => by
    obtain ⟨h1, h2⟩ := List.nodup_cons.1 hn
    have ih := sumA_cons p s T r h2 h
    by_cases hs : s.1 = a
    · have hno : ∀ r : List Int, a ∉ r → sumA (costA p (s :: T)) r = sumA (costA p T) r := by
        intro r hr
        induction r with
        | nil => rfl
        | cons b r ih =>
          rw [sumA_c, sumA_c, costA_c, ih fun hh => hr (.tail _ hh), if_neg (fun e => hr (by rw [← hs, e]; exact .head _))]
          omega
      rw [sumA_c, sumA_c, costA_c, hno r h1, if_pos hs]
      omega
    · rw [sumA_c, sumA_c, costA_c, if_neg hs]
      omega
theorem sumA_le (p : Prob) {xs : List Int} (hn : xs.Nodup) : ∀ T : List (Int × Int), (∀ s ∈ T, 0 ≤ cost1 p s) → sumA (costA p T) xs ≤ costF p T
  | [], _ => by
    have : ∀ xs : List Int, sumA (costA p []) xs = 0 := by
      intro xs
      induction xs with
      | nil => rfl
      | cons a r ih => rw [sumA_c, ih]; rfl
    rw [this]
    exact Int.le_refl _
  | s :: T, h => by
    have h1 := sumA_cons p s T xs hn (h s (.head _))
    have h2 := sumA_le p hn T fun x hx => h x (.tail _ hx)
    rw [costF_cons]
    omega
theorem costA_ge (p : Prob) : ∀ (T : List (Int × Int)), (∀ s ∈ T, 0 ≤ cost1 p s) → ∀ s ∈ T, cost1 p s ≤ costA p T s.1
  | [], _, s, hs => by cases hs
  | x :: T, h, s, hs => by
    have hnn : ∀ (T : List (Int × Int)) (a : Int), (∀ s ∈ T, 0 ≤ cost1 p s) → 0 ≤ costA p T a := by
      intro T a
      induction T with
      | nil => intro _; exact Int.le_refl _
      | cons y T ih =>
        intro h
        have := ih fun s hs => h s (.tail _ hs)
        have := h y (.head _)
        simp only [costA]
        split <;> omega
    have hT : ∀ s ∈ T, 0 ≤ cost1 p s := fun s hs => h s (.tail _ hs)
    simp only [costA]
    rcases List.mem_cons.1 hs with rfl | hs
    · rw [if_pos rfl]
      have := hnn T s.1 hT
      omega
    · have := costA_ge p T hT s hs
      have := h x (.head _)
      split <;> omega
theorem Whole.nonneg {p : Prob} {T : List (Int × Int)} (h : Whole p T) : ∀ s ∈ T, 0 ≤ cost1 p s := fun s hs => by
  obtain ⟨i, hi, rfl⟩ := List.getElem_of_mem hs
  have hk := slE_ok.1 (slots_ok.1 h.slots i hi)
  rw [getD_lt hi] at hk
  obtain ⟨⟨⟨s1, s2⟩, _⟩, ⟨h1, _⟩, _⟩ := hk
  obtain ⟨⟨_, a2, _⟩, _⟩ := h.ok.v.arr T[i].1.toNat (by omega)
  have hc : 0 ≤ (p.2.1.getD T[i].1.toNat arrD).2.2.2.2 := a2.2.2.2.1
  exact Int.mul_nonneg hc (by omega)
theorem Whole.has {p : Prob} {T : List (Int × Int)} (h : Whole p T) {a : Int} (ha : inA p a) : ∃ i, i < T.length ∧ (T.getD i (0, 0)).1 = a := by
  have hp := h.perm 0
  rw [List.drop_zero, List.take_zero] at hp
  have : a ∈ T.map (·.1) := hp.symm.subset (rest_mem.2 ⟨ha, rfl⟩)
  obtain ⟨s, hs, e⟩ := List.mem_map.1 this
  obtain ⟨i, hi, rfl⟩ := List.getElem_of_mem hs
  exact ⟨i, hi, by rw [getD_lt hi]; exact e⟩
/-- One before the other, both can be placed alone, and cost no more. -/
theorem Whole.two {p : Prob} {T : List (Int × Int)} (h : Whole p T) {i j : Nat} (hij : i < j) (hj : j < T.length) : ∃ S, contL p [] [(T.getD i (0, 0)).1, (T.getD j (0, 0)).1] = some S ∧ costF p S ≤ cost1 p (T.getD i (0, 0)) + cost1 p (T.getD j (0, 0)) := by
  have hki := slE_ok.1 (slots_ok.1 h.slots i (by omega))
  have hkj := slE_ok.1 (slots_ok.1 h.slots j hj)
  have hni := h.nonneg (T.getD i (0, 0)) (by rw [getD_lt (by omega)]; exact List.getElem_mem _)
  have hsj := soonF_le.1 hkj.2.2
  have hap := hsj.2 (T.getD i (0, 0)) (by rw [getD_lt (show i < T.length by omega)]; exact List.mem_take_iff_getElem.2 ⟨i, by omega, rfl⟩)
  have s1 : soonF p [] (T.getD i (0, 0)).1 = (p.2.1.getD (T.getD i (0, 0)).1.toNat arrD).2.2.1 := rfl
  have hle2 : soonF p [((T.getD i (0, 0)).1, (p.2.1.getD (T.getD i (0, 0)).1.toNat arrD).2.2.1)] (T.getD j (0, 0)).1 ≤ (T.getD j (0, 0)).2 := soonF_le.2 ⟨hsj.1, fun s hs => by
    simp only [List.mem_singleton] at hs
    subst hs
    have := hki.2.1.1
    simp only
    omega⟩
  refine ⟨[((T.getD i (0, 0)).1, (p.2.1.getD (T.getD i (0, 0)).1.toNat arrD).2.2.1), ((T.getD j (0, 0)).1, soonF p [((T.getD i (0, 0)).1, (p.2.1.getD (T.getD i (0, 0)).1.toNat arrD).2.2.1)] (T.getD j (0, 0)).1)], ?_, ?_⟩
  · simp only [contL, s1, List.nil_append]
    rw [if_neg (by have := hki.2.1; omega), if_neg (by have := hkj.2.1; omega)]
    rfl
  · rw [costF_cons, costF_cons]
    have hz : costF p [] = 0 := rfl
    have ha : cost1 p ((T.getD i (0, 0)).1, (p.2.1.getD (T.getD i (0, 0)).1.toNat arrD).2.2.1) = 0 := by simp [cost1]
    obtain ⟨⟨b1, b2⟩, _⟩ := hkj.1
    obtain ⟨⟨_, a2, _⟩, _⟩ := h.ok.v.arr (T.getD j (0, 0)).1.toNat (by omega)
    have hc : 0 ≤ (p.2.1.getD (T.getD j (0, 0)).1.toNat arrD).2.2.2.2 := a2.2.2.2.1
    have hm := Int.mul_le_mul_of_nonneg_left (show soonF p [((T.getD i (0, 0)).1, (p.2.1.getD (T.getD i (0, 0)).1.toNat arrD).2.2.1)] (T.getD j (0, 0)).1 - (p.2.1.getD (T.getD j (0, 0)).1.toNat arrD).2.2.1 ≤ (T.getD j (0, 0)).2 - (p.2.1.getD (T.getD j (0, 0)).1.toNat arrD).2.2.1 by omega) hc
    rw [hz, ha]
    unfold cost1 at hni ⊢
    simp only at hm ⊢
    omega
theorem Whole.pair {p : Prob} {T : List (Int × Int)} (h : Whole p T) {a b : Int} (ha : inA p a) (hb : inA p b) (hab : a ≠ b) : (pairB p a b).isSome = true ∧ cst p a b ≤ costA p T a + costA p T b := by
  obtain ⟨i, hi, ei⟩ := h.has ha
  obtain ⟨j, hj, ej⟩ := h.has hb
  have hgi := costA_ge p T h.nonneg (T.getD i (0, 0)) (by rw [getD_lt hi]; exact List.getElem_mem _)
  have hgj := costA_ge p T h.nonneg (T.getD j (0, 0)) (by rw [getD_lt hj]; exact List.getElem_mem _)
  rw [ei] at hgi
  rw [ej] at hgj
  unfold cst pairB
  rcases Nat.lt_trichotomy i j with hlt | rfl | hlt
  · obtain ⟨S, hS, hc⟩ := h.two hlt hj
    rw [ei, ej] at hS
    rw [hS]
    cases contL p [] [b, a] with
    | none => exact ⟨rfl, by simp only [Option.getD_some]; omega⟩
    | some y => exact ⟨rfl, by simp only [Option.getD_some]; omega⟩
  · exact absurd (ei.symm.trans ej) hab
  · obtain ⟨S, hS, hc⟩ := h.two hlt hi
    rw [ei, ej] at hS
    rw [hS]
    cases contL p [] [a, b] with
    | none => exact ⟨rfl, by simp only [Option.getD_some]; omega⟩
    | some y => exact ⟨rfl, by simp only [Option.getD_some]; omega⟩
theorem Whole.pairs {p : Prob} {T : List (Int × Int)} (h : Whole p T) : ∀ {l : Prs}, (comps l).Nodup → (∀ x ∈ comps l, inA p x) → boundF p l ≤ sumA (costA p T) (comps l)
  | [], _, _ => Int.le_refl _
  | x :: r, hn, hi => by
    have e : comps (x :: r) = x.1 :: x.2 :: comps r := rfl
    rw [e] at hn hi ⊢
    obtain ⟨h1, h2⟩ := List.nodup_cons.1 hn
    obtain ⟨h3, h4⟩ := List.nodup_cons.1 h2
    have ih := h.pairs h4 fun y hy => hi y (.tail _ (.tail _ hy))
    have hp := (h.pair (hi x.1 (.head _)) (hi x.2 (.tail _ (.head _))) (fun e => h1 (by rw [e]; exact .head _))).2
    rw [boundF_cons]
    simp only [sumA]
    omega
theorem Whole.bound {p : Prob} {T : List (Int × Int)} (h : Whole p T) {l : Prs} (hl : PrsV p.2.1.length l) : boundF p l ≤ costF p T := by
  have h1 := h.pairs hl.nd fun x hx => hl.rng x hx
  have h2 := sumA_le p hl.nd T h.nonneg
  omega
theorem Whole.costs {p : Prob} {T : List (Int × Int)} (h : Whole p T) : costsOk p := fun i hi k hk =>
  (h.pair ⟨by omega, by omega⟩ ⟨by omega, by omega⟩ (by omega)).1
/-! ### the best pairs -/
theorem matchL_valid {count : Nat} : ∀ (f from_ : Nat) (begun : Prs), PrsV count begun → ∀ l ∈ matchL count f from_ begun, PrsV count l
  | 0, from_, begun, h, l, hl => by
    simp only [matchL, List.mem_singleton] at hl
    rw [hl]; exact h
  | f + 1, from_, begun, h, l, hl => by
    simp only [matchL] at hl
    rcases List.mem_cons.1 hl with rfl | hl
    · exact h
    · obtain ⟨a, ha, hl⟩ := List.mem_flatMap.1 hl
      split at hl
      · cases hl
      · obtain ⟨b, hb, hl⟩ := List.mem_flatMap.1 hl
        split at hl
        · rename_i hc
          exact matchL_valid f _ _ (h.snoc hc.1 (List.mem_range.1 hb) hc.2) l hl
        · cases hl
theorem mStep_spec (p : Prob) : ∀ (L : List Prs) (s : Prs × Int), s.2 ≤ (L.foldl (mStep p) s).2 ∧ (∀ l ∈ L, boundF p l ≤ (L.foldl (mStep p) s).2) ∧ (L.foldl (mStep p) s = s ∨ ∃ l ∈ L, L.foldl (mStep p) s = (l, boundF p l))
  | [], s => ⟨Int.le_refl _, fun l hl => (by cases hl), .inl rfl⟩
  | x :: L, s => by
    obtain ⟨h1, h2, h3⟩ := mStep_spec p L (mStep p s x)
    simp only [List.foldl_cons]
    by_cases hc : boundF p x > s.2
    · have e : mStep p s x = (x, boundF p x) := if_pos hc
      rw [e] at h1 h2 h3 ⊢
      simp only at h1
      refine ⟨by omega, fun l hl => ?_, .inr ?_⟩
      · rcases List.mem_cons.1 hl with rfl | hl
        · exact h1
        · exact h2 l hl
      · rcases h3 with h3 | ⟨l, hl, h3⟩
        · exact ⟨x, .head _, h3⟩
        · exact ⟨l, .tail _ hl, h3⟩
    · have e : mStep p s x = s := if_neg hc
      rw [e] at h1 h2 h3 ⊢
      refine ⟨h1, fun l hl => ?_, ?_⟩
      · rcases List.mem_cons.1 hl with rfl | hl
        · omega
        · exact h2 l hl
      · rcases h3 with h3 | ⟨l, hl, h3⟩
        · exact .inl h3
        · exact .inr ⟨l, .tail _ hl, h3⟩
def ChainP (count : Nat) : Nat → Prs → Prs → Prop
  | _, _, [] => True
  | from_, begun, x :: r => ∃ a b : Nat, x = ((a : Int), (b : Int)) ∧ from_ ≤ a ∧ a < b ∧ b < count ∧ freeB begun a b = true ∧ ChainP count (a + 1) (begun ++ [((a : Int), (b : Int))]) r
theorem matchL_has {count : Nat} : ∀ (r : Prs) (f from_ : Nat) (begun : Prs), count ≤ f + from_ → ChainP count from_ begun r → begun ++ r ∈ matchL count f from_ begun
  | [], f, from_, begun, hf, _ => by
    rw [matchL_cons hf, List.append_nil]
    exact .head _
  | x :: r, f, from_, begun, hf, ⟨a, b, hx, h1, h2, h3, h4, h5⟩ => by
    obtain ⟨f', rfl⟩ : ∃ f', f = f' + 1 := ⟨f - 1, by omega⟩
    have ih := matchL_has r f' (a + 1) _ (by omega) h5
    simp only [matchL]
    refine .tail _ (List.mem_flatMap.2 ⟨a, List.mem_range.2 (by omega), ?_⟩)
    rw [if_neg (by omega)]
    refine List.mem_flatMap.2 ⟨b, List.mem_range.2 h3, ?_⟩
    rw [if_pos ⟨h2, h4⟩, hx]
    rw [List.append_assoc] at ih
    exact ih
theorem chain_of {p : Prob} {l : Prs} (h : ∀ i, i < l.length → pairE p l i = 0) : ∀ (d i : Nat), i + d = l.length → ChainP p.2.1.length (lastOfP l i + 1).toNat (l.take i) (l.drop i)
  | 0, i, hd => by
    rw [List.drop_eq_nil_of_le (by omega)]
    trivial
  | d + 1, i, hd => by
    have hi : i < l.length := by omega
    obtain ⟨⟨⟨a1, a2⟩, ⟨b1, b2⟩⟩, ⟨c1, c2⟩, hf⟩ := pairE_zero (h i hi)
    have ih := chain_of h d (i + 1) (by omega)
    have e : l.drop i = l.getD i (0, 0) :: l.drop (i + 1) := by
      rw [getD_lt hi]
      exact List.drop_eq_getElem_cons hi
    rw [e]
    have ea : (((l.getD i (0, 0)).1.toNat : Nat) : Int) = (l.getD i (0, 0)).1 := by omega
    have eb : (((l.getD i (0, 0)).2.toNat : Nat) : Int) = (l.getD i (0, 0)).2 := by omega
    refine ⟨(l.getD i (0, 0)).1.toNat, (l.getD i (0, 0)).2.toNat, by rw [ea, eb], by omega, by omega, by omega, by rw [ea, eb]; exact hf, ?_⟩
    have el : lastOfP l (i + 1) = (l.getD i (0, 0)).1 := by rw [lastOfP, if_neg (by omega), show i + 1 - 1 = i by omega]
    rw [el, take_snocP hi] at ih
    rw [ea, eb]
    have : (l.getD i (0, 0)).1.toNat + 1 = ((l.getD i (0, 0)).1 + 1).toNat := by omega
    rw [this]
    exact ih
theorem pairsErr_le {p : Prob} (hok : okP p) {l : Prs} (h : pairsErr p l = 0) : boundF p l ≤ (bestM p).2 := by
  have hz : ∀ i, i < l.length → pairE p l i = 0 := by
    unfold pairsErr at h
    split at h
    · rename_i hh; exact absurd h hh
    · rename_i hh
      exact eachE_zero (Classical.byContradiction hh)
  have hc := chain_of hz l.length 0 (by omega)
  have h6 := hok.v.six
  have hm := matchL_has l 7 0 [] (by omega) hc
  exact (mStep_spec p _ ([], 0)).2.1 l hm
theorem bestM_cases (p : Prob) : (bestM p).2 = 0 ∨ ∃ l, PrsV p.2.1.length l ∧ (bestM p).2 = boundF p l := by
  have h0 : PrsV p.2.1.length [] := ⟨List.nodup_nil, fun x hx => by cases hx⟩
  rcases (mStep_spec p (matchL p.2.1.length 7 0 []) ([], 0)).2.2 with h | ⟨l, hl, h⟩
  · exact .inl (congrArg Prod.snd h)
  · exact .inr ⟨l, matchL_valid 7 0 [] h0 l hl, congrArg Prod.snd h⟩
theorem Whole.bestM {p : Prob} {T : List (Int × Int)} (h : Whole p T) : (bestM p).2 ≤ costF p T := by
  rcases bestM_cases p with e | ⟨l, hl, e⟩
  · rw [e]
    have h0 : PrsV p.2.1.length [] := ⟨List.nodup_nil, fun x hx => by cases hx⟩
    exact h.bound h0
  · rw [e]
    exact h.bound hl
end Go.Proofs.YtglokajinehbmaaGreat
end

section
namespace Go.Proofs.YtglokajinehbmaaGreat
open Go Go.Pi Go.RowKit
set_option maxRecDepth 100000
set_option linter.unusedVariables false
set_option linter.unusedSimpArgs false

theorem mStep_bound (p : Prob) : ∀ (L : List Prs) (s : Prs × Int), s.2 = boundF p s.1 → (L.foldl (mStep p) s).2 = boundF p (L.foldl (mStep p) s).1
  | [], _, h => h
  | l :: r, s, h => by
    rw [List.foldl_cons]
    refine mStep_bound p r _ ?_
    unfold mStep
    split
    · rfl
    · exact h
theorem bestM_bound (p : Prob) : (bestM p).2 = boundF p (bestM p).1 := mStep_bound p _ _ rfl
theorem PrsV.nil (count : Nat) : PrsV count [] := ⟨List.nodup_nil, fun x hx => (by cases hx)⟩
def f15 (p : (List (List Int) × List (List Int)) × List (ByteArray × Int × Int × Int × Int) × List Int) : List (Int × Int) := (bestM p).1
def f15_pre (p : (List (List Int) × List (List Int)) × List (ByteArray × Int × Int × Int × Int) × List Int) : Prop := okP p
theorem bestM_list {p : Prob} (hok : okP p) : ∃ r, matchL p.2.1.length p.2.1.length 0 [] = [] :: r ∧ bestM p = r.foldl (mStep p) ([], 0) := by
  have h6 := hok.v.six
  have e : matchL p.2.1.length p.2.1.length 0 [] = matchL p.2.1.length 7 0 [] := matchL_fuel _ _ _ _ (by omega) (by omega)
  rw [bestM, e]
  obtain ⟨r, hr⟩ : ∃ r, matchL p.2.1.length 7 0 [] = [] :: r := ⟨_, rfl⟩
  refine ⟨r, hr, ?_⟩
  rw [hr, List.foldl_cons]
  congr 1
def f15_e : Entry := { doms := [(true, (.pair (.pair (.sl (.sl (.int .i64))) (.sl (.sl (.int .i64)))) (.pair (.sl (.pair .str (.pair (.int .i64) (.pair (.int .i64) (.pair (.int .i64) (.int .i64)))))) (.sl (.int .i64)))))], cods := [(false, (.sl (.pair (.int .i64) (.int .i64))))], pre := f15_pre, fn := f15, uq := false, total := false }
def f15_E : Env := [(13, f13_e), (52, f52_e), (10, f10_e)]
def f15_A : Anns := { loops := [(1048576, { tms := [(1, .keep), (3, .keep), (4, .data false (.sl (.pair (.int .i64) (.int .i64)))), (5, .data false (.int .i64))], obs := [(1048576, .keep)], fz := [] })], own := [] }
theorem f15_run (a0 : (List (List Int) × List (List Int)) × List (ByteArray × Int × Int × Int × Int) × List Int) (K : (List (Int × Int)) → Prop) : runF Tryz.prog f15_E f15_A 6 Tryz.f15 f15_e.doms f15_e.cods a0 K =
    (br (lenOk (a0.2.1.length))
    (f52_pre (((a0.2.1.length) : Int), (0, ([] : List (Int × Int)))) ∧
    br (decide (0 ≤ 0) && decide (0 < (((f52 (((a0.2.1.length) : Int), (0, ([] : List (Int × Int))))).length) : Int)))
    (LoopP (V := List (Int × Int) × Int × Unit) (fun again v => (fun (again1 : List (Int × Int) → Int → Prop) (v1_0 : List (Int × Int)) (v1_1 : Int) =>
    br (lenOk ((f52 (((a0.2.1.length) : Int), (0, ([] : List (Int × Int))))).length))
    (br (decide (v1_1 < (((f52 (((a0.2.1.length) : Int), (0, ([] : List (Int × Int))))).length) : Int)))
    (br (decide (0 ≤ v1_1) && decide (v1_1 < (((f52 (((a0.2.1.length) : Int), (0, ([] : List (Int × Int))))).length) : Int)))
    (f13_pre (a0, ((f52 (((a0.2.1.length) : Int), (0, ([] : List (Int × Int))))).getD v1_1.toNat [])) ∧
    f13_pre (a0, v1_0) ∧
    br (decide ((f13 (a0, ((f52 (((a0.2.1.length) : Int), (0, ([] : List (Int × Int))))).getD v1_1.toNat []))) > (f13 (a0, v1_0))))
    (br (decide (0 ≤ v1_1) && decide (v1_1 < (((f52 (((a0.2.1.length) : Int), (0, ([] : List (Int × Int))))).length) : Int)))
    (again1 ((f52 (((a0.2.1.length) : Int), (0, ([] : List (Int × Int))))).getD v1_1.toNat []) (IntKind.i64.wrap (v1_1 + 1)))
    False)
    (again1 v1_0 (IntKind.i64.wrap (v1_1 + 1))))
    False)
    (K v1_0))
    True)
    (fun v1_0 v1_1 => again (v1_0, v1_1, ())) v.1 v.2.1) (((f52 (((a0.2.1.length) : Int), (0, ([] : List (Int × Int))))).getD 0 []), 1, ()))
    False)
    True) := by kernel_rfl
theorem f15_t (a0 : (List (List Int) × List (List Int)) × List (ByteArray × Int × Int × Int × Int) × List Int) (hpre : f15_pre a0) (K : (List (Int × Int)) → Prop) (hK : ∀ y : List (Int × Int), y = f15 a0 → K y) : RunF Tryz.prog f15_E f15_A 6 Tryz.f15 f15_e.doms f15_e.cods a0 K := by
  refine ⟨?_⟩
  rw [f15_run a0 K]
  have hok : okP a0 := hpre
  have h6 := hok.v.six
  obtain ⟨r, hr, hb⟩ := bestM_list hok
  have e52 : f52 ((a0.2.1.length : Int), 0, []) = [] :: r := by
    rw [← hr]
    simp [f52]
  have hml := matchL_len h6 a0.2.1.length 0 []
  have hmb : mb 6 = 2238976117 := by decide
  have hmm : mb a0.2.1.length ≤ mb 6 := mb_mono (by omega)
  have hv : ∀ l ∈ ([] :: r : List Prs), PrsV a0.2.1.length l := fun l hl => by
    rw [← hr] at hl
    exact matchL_valid _ _ _ (PrsV.nil _) l hl
  rw [hr, List.length_cons] at hml
  have e13 : ∀ l, f13 (a0, l) = boundF a0 l := fun l => rfl
  have ef : f15 a0 = (bestM a0).1 := rfl
  rw [ef, hb] at hK
  rw [e52, br_true_]
  intro _
  refine ⟨⟨⟨a0.2.1.length, 0, rfl, rfl, h6, by omega, by omega, PrsV.nil _, fun y hy => (by cases hy)⟩, by omega⟩, ?_⟩
  rw [br_false_]
  refine ⟨by simp; try omega, ?_⟩
  have hp13 : ∀ l, PrsV a0.2.1.length l → f13_pre (a0, l) := fun l h => ⟨hok, h.inA, show l.length ≤ 1000 by have := h.len; omega⟩
  refine LoopP.of (fun q : Prs × Int × Unit => ∃ i : Nat, i ≤ r.length ∧ q.2.1 = (i : Int) + 1 ∧ q.1 = ((r.take i).foldl (mStep a0) ([], 0)).1 ∧ PrsV a0.2.1.length q.1) (fun q => ((r.length : Int) + 1 - q.2.1).toNat) (fun again q hq hag => ?_) ⟨0, by omega, rfl, rfl, PrsV.nil _⟩
  obtain ⟨best, ii, u⟩ := q
  obtain ⟨i, hi, e1, e2, e3⟩ := hq
  simp only at e1 e2 e3
  subst e1
  dsimp only
  rw [br_true_]
  intro _
  rw [List.length_cons, br_dec]
  refine ⟨fun hlt => ?_, fun hlt => ?_⟩
  · have hlt : i < r.length := by omega
    rw [br_false_]
    refine ⟨inb (by omega) (by omega), ?_⟩
    have hg : ([] :: r : List Prs).getD ((i : Int) + 1).toNat [] = r.getD i [] := by
      rw [show ((i : Int) + 1).toNat = i + 1 by omega, List.getD_cons_succ]
    have hx : r.getD i [] ∈ r := by rw [getD_lt hlt]; exact List.getElem_mem _
    have hvx := hv _ (.tail _ hx)
    have hsn : (r.take (i + 1)).foldl (mStep a0) ([], 0) = mStep a0 ((r.take i).foldl (mStep a0) ([], 0)) (r.getD i []) := by
      rw [List.take_add_one, List.getElem?_eq_getElem hlt, List.foldl_append, getD_lt hlt]
      rfl
    have hbd := mStep_bound a0 (r.take i) ([], 0) rfl
    rw [hg, e13, e13, wr (n := (i : Int) + 1 + 1) (by omega) (by omega)]
    refine ⟨hp13 _ hvx, hp13 _ e3, ?_⟩
    rw [br_dec]
    refine ⟨fun hgt => ?_, fun hgt => ?_⟩
    · rw [br_false_]
      refine ⟨inb (by omega) (by omega), hag _ ⟨i + 1, by omega, by simp only; omega, ?_, hvx⟩ (by simp only; omega)⟩
      simp only
      rw [hsn, mStep, if_pos (by rw [hbd, ← e2]; exact hgt)]
    · refine hag _ ⟨i + 1, by omega, by simp only; omega, ?_, e3⟩ (by simp only; omega)
      simp only
      rw [hsn, mStep, if_neg (by rw [hbd, ← e2]; exact hgt)]
      exact e2
  · have : i = r.length := by omega
    subst this
    rw [List.take_length] at e2
    rw [e2]
    exact hK _ rfl
theorem f15_fn : f15_e.fn = f15 := rfl
theorem f15_ok : EntryOK Tryz.prog 15 f15_e := by
  refine entryF progOK (EnvOK.cons f13_ok (EnvOK.cons f52_ok (EnvOK.cons f10_ok (EnvOK.nil)))) (A := f15_A) (d := 6) Tryz.func15 rfl rfl rfl rfl (fun h => by cases h) fun x hpre => ?_
  exact f15_t x hpre _ fun _ h => h.trans (congrFun f15_fn.symm _)
end Go.Proofs.YtglokajinehbmaaGreat
end

section
namespace Go.Proofs.YtglokajinehbmaaGreat
set_option linter.unusedVariables false
set_option linter.unusedSimpArgs false
open Go Go.Pi
/-- Two lists are compared item by item. -/
theorem sameW {α : Type} [DecidableEq α] {a b : List α} {d : α} {K : Bool → Prop} (hK : K (decide (a = b))) (hl : a.length = b.length) {step : ((Int × Unit) → Prop) → (Int × Unit) → Prop}
    (h : ∀ (again : (Int × Unit) → Prop) (i : Nat), i ≤ a.length → (i < a.length → a.getD i d = b.getD i d → again ((i : Int) + 1, ())) → (i < a.length → a.getD i d ≠ b.getD i d → K false) → (i = a.length → K true) → step again ((i : Int), ())) :
    LoopP step (0, ()) := by
  refine LoopP.of (fun q : Int × Unit => ∃ i : Nat, i ≤ a.length ∧ q.1 = (i : Int) ∧ a.take i = b.take i) (fun q => ((a.length : Int) - q.1).toNat) (fun again q hq hag => ?_) ⟨0, by omega, rfl, rfl⟩
  obtain ⟨ii, u⟩ := q
  obtain ⟨i, hi, e, ht⟩ := hq
  simp only at e
  subst e
  refine h again i hi (fun hlt heq => hag (_, ()) ⟨i + 1, by omega, by simp only; omega, ?_⟩ (by simp only; omega)) (fun hlt hne => ?_) (fun he => ?_)
  · rw [getD_lt hlt, getD_lt (by omega)] at heq
    rw [List.take_add_one, List.take_add_one, ht, List.getElem?_eq_getElem hlt, List.getElem?_eq_getElem (by omega), heq]
  · have : a ≠ b := fun hh => hne (by rw [hh])
    rw [decide_eq_false this] at hK
    exact hK
  · subst he
    rw [List.take_of_length_le (by omega), List.take_of_length_le (by omega)] at ht
    rw [decide_eq_true ht] at hK
    exact hK
theorem same_len {α : Type} [DecidableEq α] {a b : List α} {K : Bool → Prop} (hK : K (decide (a = b))) (h : a.length ≠ b.length) : K false := by
  have : a ≠ b := fun e => h (by rw [e])
  rw [decide_eq_false this] at hK
  exact hK
end Go.Proofs.YtglokajinehbmaaGreat
end
