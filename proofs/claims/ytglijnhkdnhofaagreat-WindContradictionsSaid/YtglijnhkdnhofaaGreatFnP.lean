/- What functions of the program compute, each proved once, part 16. -/
import Derived.Test.YtglijnhkdnhofaaGreatPiD
import Derived.Test.YtglijnhkdnhofaaGreatFnA
import Derived.Test.YtglijnhkdnhofaaGreatFnO

namespace Go.Proofs.YtglijnhkdnhofaaGreat
open Go Go.Pi Go.RowKit
set_option maxRecDepth 100000
set_option linter.unusedVariables false
set_option linter.unusedSimpArgs false

def f90 (x : List (Int × Int × Int)) : List Int × Bool := facR x
def f90_pre (x : List (Int × Int × Int)) : Prop := 2 ≤ x.length ∧ x.length ≤ 4 ∧ Dirs x
abbrev W (n : Int) : Int := IntKind.i64.wrap n
abbrev dvd (g n : Int) : Int := W (n.tdiv g)
def chkN (b : Bool) : Nat → Prop → Prop
  | 0, X => X
  | n + 1, X => br b (chkN b n X) False
theorem chkN_ok {b : Bool} {X : Prop} (hb : b = true) (h : X) : ∀ n, chkN b n X
  | 0 => h
  | n + 1 => br_must hb (chkN_ok hb h n)
/-- The end: a list divided by its divisor. -/
def finR (K : List Int × Bool → Prop) (l : List Int) (t g : Int) : Prop := br (decide (t < 0))
  (chkN (!(decide (W (0 - g) = 0))) l.length (K (l.map (dvd (W (0 - g))), true)))
  (chkN (!(decide (g = 0))) l.length (K (l.map (dvd g), true)))
theorem finR_ok {K : List Int × Bool → Prop} {l : List Int} {t g : Int} (hf : ∀ n ∈ l, Fit n) (hg : g = (gcdL l : Int)) (h0 : gcdL l ≠ 0) (ht : t = fstN l) (hK : K (nrm l, true)) : finR K l t g := by
  have hle := gcdL_fit hf
  subst hg
  have hn : W (0 - (gcdL l : Int)) = -(gcdL l : Int) := by rw [show W (0 - (gcdL l : Int)) = 0 - (gcdL l : Int) from w64_in (by omega) (by omega)]; omega
  unfold finR
  rw [hn]
  refine br_if (fun h => chkN_ok (by simp; omega) ?_ _) fun h => chkN_ok (by simp; omega) ?_ _
  · have es : sgL l = -(gcdL l : Int) := by unfold sgL; rw [if_pos (by omega)]
    have : (l.map (dvd (-(gcdL l : Int)))) = nrm l := by
      unfold nrm
      rw [es]
      exact List.map_congr_left fun n hn => w64_fit (tdiv_fit (hf n hn))
    rw [this]; exact hK
  · have es : sgL l = (gcdL l : Int) := by unfold sgL; rw [if_neg (by omega)]
    have : (l.map (dvd (gcdL l : Int))) = nrm l := by
      unfold nrm
      rw [es]
      exact List.map_congr_left fun n hn => w64_fit (tdiv_fit (hf n hn))
    rw [this]; exact hK
theorem fst_nz {x : Int} {l : List Int} (h : Nz (x :: l)) : x = fstN (x :: l) := by
  have hx : (x != 0) = true := bne_iff_ne.2 (h x (.head _))
  unfold fstN
  rw [List.find?_cons, hx]
theorem nz_gcd {x : Int} {l : List Int} (h : Nz (x :: l)) : gcdL (x :: l) ≠ 0 := fun hh => h x (.head _) (gcdL_zero.1 hh x (.head _))
theorem g_fit {l : List Int} (h : ∀ n ∈ l, Fit n) : Fit (gcdL l : Int) := fit_nat (gcdL_fit h)
theorem g_snoc (l : List Int) (n : Int) : f94 ((gcdL l : Int), n) = (gcdL (l ++ [n]) : Int) := by
  rw [gcdL_snoc]; simp only [f94, Int.natAbs_natCast]
theorem g_chain {l : List Int} {n : Int} (hl : ∀ m ∈ l, Fit m) (hn : Fit n) {X : Prop} (h : X) : f94_pre ((gcdL l : Int), n) ∧ X := ⟨⟨g_fit hl, hn⟩, h⟩
theorem fin2 {K : List Int × Bool → Prop} {x y : Int} (hf : ∀ n ∈ [x, y], Fit n) (hn : Nz [x, y]) (hK : K (nrm [x, y], true)) :
    f94_pre (0, x) ∧ f94_pre (f94 (0, x), y) ∧ finR K [x, y] x (f94 (f94 (0, x), y)) := by
  have g1 : f94 (0, x) = (gcdL [x] : Int) := g_snoc [] x
  have g2 : f94 ((gcdL [x] : Int), y) = (gcdL [x, y] : Int) := g_snoc [x] y
  rw [g1, g2]
  exact ⟨⟨⟨by omega, by omega⟩, hf x (by simp)⟩, ⟨g_fit fun m hm => hf m (by simp at hm ⊢; simp [hm]), hf y (by simp)⟩, finR_ok hf rfl (nz_gcd hn) (fst_nz hn) hK⟩
theorem fin3 {K : List Int × Bool → Prop} {x y z : Int} (hf : ∀ n ∈ [x, y, z], Fit n) (hn : Nz [x, y, z]) (hK : K (nrm [x, y, z], true)) :
    f94_pre (0, x) ∧ f94_pre (f94 (0, x), y) ∧ f94_pre (f94 (f94 (0, x), y), z) ∧ finR K [x, y, z] x (f94 (f94 (f94 (0, x), y), z)) := by
  have g1 : f94 (0, x) = (gcdL [x] : Int) := g_snoc [] x
  have g2 : f94 ((gcdL [x] : Int), y) = (gcdL [x, y] : Int) := g_snoc [x] y
  have g3 : f94 ((gcdL [x, y] : Int), z) = (gcdL [x, y, z] : Int) := g_snoc [x, y] z
  rw [g1, g2, g3]
  refine ⟨⟨⟨by omega, by omega⟩, hf x (by simp)⟩, ⟨g_fit fun m hm => hf m ?_, hf y (by simp)⟩, ⟨g_fit fun m hm => hf m ?_, hf z (by simp)⟩, finR_ok hf rfl (nz_gcd hn) (fst_nz hn) hK⟩
  · simp at hm ⊢; simp [hm]
  · simp at hm ⊢; rcases hm with h | h <;> simp [h]
theorem fin4 {K : List Int × Bool → Prop} {x y z w : Int} (hf : ∀ n ∈ [x, y, z, w], Fit n) (hn : Nz [x, y, z, w]) (hK : K (nrm [x, y, z, w], true)) :
    f94_pre (0, x) ∧ f94_pre (f94 (0, x), y) ∧ f94_pre (f94 (f94 (0, x), y), z) ∧ f94_pre (f94 (f94 (f94 (0, x), y), z), w) ∧ finR K [x, y, z, w] x (f94 (f94 (f94 (f94 (0, x), y), z), w)) := by
  have g1 : f94 (0, x) = (gcdL [x] : Int) := g_snoc [] x
  have g2 : f94 ((gcdL [x] : Int), y) = (gcdL [x, y] : Int) := g_snoc [x] y
  have g3 : f94 ((gcdL [x, y] : Int), z) = (gcdL [x, y, z] : Int) := g_snoc [x, y] z
  have g4 : f94 ((gcdL [x, y, z] : Int), w) = (gcdL [x, y, z, w] : Int) := g_snoc [x, y, z] w
  rw [g1, g2, g3, g4]
  refine ⟨⟨⟨by omega, by omega⟩, hf x (by simp)⟩, ⟨g_fit fun m hm => hf m ?_, hf y (by simp)⟩, ⟨g_fit fun m hm => hf m ?_, hf z (by simp)⟩, ⟨g_fit fun m hm => hf m ?_, hf w (by simp)⟩, finR_ok hf rfl (nz_gcd hn) (fst_nz hn) hK⟩
  · simp at hm ⊢; simp [hm]
  · simp at hm ⊢; rcases hm with h | h <;> simp [h]
  · simp at hm ⊢; rcases hm with h | h | h <;> simp [h]
theorem v3s {v : V3} {m : Int} (h : V3.le v m) (hm : m ≤ 9223372036854775807) : Fit v.1 ∧ Fit v.2.1 ∧ Fit v.2.2 := ⟨fit_le h.1 hm, fit_le h.2.1 hm, fit_le h.2.2 hm⟩
theorem Wneg {n : Int} (h : Fit n) : W (0 - n) = -n := by rw [show W (0 - n) = 0 - n from w64_in (by have := h.2; omega) (by have := h.1; omega)]; omega
theorem neg_f {n : Int} (h : Fit n) : Fit (-n) := ⟨by have := h.2; omega, by have := h.1; omega⟩
theorem all_2 {P : Int → Prop} {a b : Int} (ha : P a) (hb : P b) : ∀ n ∈ [a, b], P n := fun n hn => by
  simp only [List.mem_cons, List.not_mem_nil, or_false] at hn
  rcases hn with rfl | rfl
  · exact ha
  · exact hb
theorem all_3 {P : Int → Prop} {a b c : Int} (ha : P a) (hb : P b) (hc : P c) : ∀ n ∈ [a, b, c], P n := fun n hn => by
  simp only [List.mem_cons, List.not_mem_nil, or_false] at hn
  rcases hn with rfl | rfl | rfl
  · exact ha
  · exact hb
  · exact hc
theorem all_4 {P : Int → Prop} {a b c d : Int} (ha : P a) (hb : P b) (hc : P c) (hd : P d) : ∀ n ∈ [a, b, c, d], P n := fun n hn => by
  simp only [List.mem_cons, List.not_mem_nil, or_false] at hn
  rcases hn with rfl | rfl | rfl | rfl
  · exact ha
  · exact hb
  · exact hc
  · exact hd
def f90_e : Entry := { doms := [(false, (.sl (.pair (.int .i64) (.pair (.int .i64) (.int .i64)))))], cods := [(false, (.sl (.int .i64))), (false, .bool)], pre := f90_pre, fn := f90, uq := false, total := false }
def f90_E : Env := [(29, f29_e), (36, f36_e), (72, f72_e), (93, f93_e), (94, f94_e)]
def f90_A : Anns := { loops := [(1048576, { tms := [(0, .keep), (4, .data false (.int .i64))], obs := [], fz := [] })], own := [1052672, 1059882, 1069083, 1152921710766343179, 1152921710767391755, 1152921710768440331], unroll := 6 }
theorem f90_run (a0 : List (Int × Int × Int)) (K : (List Int × Bool) → Prop) : runF Tryz.prog f90_E f90_A 6 Tryz.f90 f90_e.doms f90_e.cods a0 K =
    (LoopP (V := Int × Unit) (fun again v => (fun (again1 : Int → Prop) (v1_0 : Int) =>
    br (lenOk (a0.length))
    (br (decide (v1_0 < ((a0.length) : Int)))
    (br (decide ((0 : Int) ≤ 0 ∧ (0 : Int) ≤ v1_0 ∧ (v1_0 : Int) ≤ ((a0.length) : Int)))
    (br (roomOk (0 + (((a0.take v1_0.toNat).drop 0).length)) 24)
    (br (decide ((0 : Int) ≤ (IntKind.i64.wrap (v1_0 + 1)) ∧ ((IntKind.i64.wrap (v1_0 + 1)) : Int) ≤ ((a0.length) : Int) ∧ (((a0.length) : Int) : Int) ≤ ((a0.length) : Int)))
    (br (roomOk (((([] : List (Int × Int × Int)) ++ ((a0.take v1_0.toNat).drop 0)).length) + (((a0.take (((a0.length) : Int).toNat)).drop ((IntKind.i64.wrap (v1_0 + 1)).toNat)).length)) 24)
    (br (lenOk (a0.length))
    (br ((f29 ((([] : List (Int × Int × Int)) ++ ((a0.take v1_0.toNat).drop 0)) ++ ((a0.take (((a0.length) : Int).toNat)).drop ((IntKind.i64.wrap (v1_0 + 1)).toNat)))) != (IntKind.i64.wrap (((a0.length) : Int) - 1)))
    (K (([] : List Int), false))
    (again1 (IntKind.i64.wrap (v1_0 + 1))))
    True)
    False)
    False)
    False)
    False)
    (br (lenOk (a0.length))
    (br ((f29 a0) != (IntKind.i64.wrap (((a0.length) : Int) - 1)))
    (K (([] : List Int), false))
    (br (lenOk (a0.length))
    (br (((a0.length) : Int) == 2)
    (br (decide (0 ≤ 0) && decide (0 < ((a0.length) : Int)))
    (br ((a0.getD 0 (0, (0, 0))).1 != 0)
    (br (decide (0 ≤ 1) && decide (1 < ((a0.length) : Int)))
    (br (decide (0 ≤ 0) && decide (0 < ((a0.length) : Int)))
    (br (decide (0 ≤ 0) && decide (0 < ((a0.length) : Int)))
    (br (((a0.getD 0 (0, (0, 0))).2).1 != 0)
    (br (decide (0 ≤ 1) && decide (1 < ((a0.length) : Int)))
    (br (decide (0 ≤ 0) && decide (0 < ((a0.length) : Int)))
    (br (decide (0 ≤ 0) && decide (0 < ((a0.length) : Int)))
    (br (((a0.getD 0 (0, (0, 0))).2).2 != 0)
    (br (decide (0 ≤ 1) && decide (1 < ((a0.length) : Int)))
    (br (decide (0 ≤ 0) && decide (0 < ((a0.length) : Int)))
    (f94_pre (0, ((a0.getD 1 (0, (0, 0))).2).2) ∧
    f94_pre ((f94 (0, ((a0.getD 1 (0, (0, 0))).2).2)), (IntKind.i64.wrap (0 - ((a0.getD 0 (0, (0, 0))).2).2))) ∧
    br (decide (((a0.getD 1 (0, (0, 0))).2).2 < 0))
    (br (!(decide ((IntKind.i64.wrap (0 - (f94 ((f94 (0, ((a0.getD 1 (0, (0, 0))).2).2)), (IntKind.i64.wrap (0 - ((a0.getD 0 (0, (0, 0))).2).2)))))) = 0)))
    (br (!(decide ((IntKind.i64.wrap (0 - (f94 ((f94 (0, ((a0.getD 1 (0, (0, 0))).2).2)), (IntKind.i64.wrap (0 - ((a0.getD 0 (0, (0, 0))).2).2)))))) = 0)))
    (K (([(IntKind.i64.wrap ((((a0.getD 1 (0, (0, 0))).2).2).tdiv (IntKind.i64.wrap (0 - (f94 ((f94 (0, ((a0.getD 1 (0, (0, 0))).2).2)), (IntKind.i64.wrap (0 - ((a0.getD 0 (0, (0, 0))).2).2)))))))), (IntKind.i64.wrap ((IntKind.i64.wrap (0 - ((a0.getD 0 (0, (0, 0))).2).2)).tdiv (IntKind.i64.wrap (0 - (f94 ((f94 (0, ((a0.getD 1 (0, (0, 0))).2).2)), (IntKind.i64.wrap (0 - ((a0.getD 0 (0, (0, 0))).2).2))))))))] : List Int), true))
    False)
    False)
    (br (!(decide ((f94 ((f94 (0, ((a0.getD 1 (0, (0, 0))).2).2)), (IntKind.i64.wrap (0 - ((a0.getD 0 (0, (0, 0))).2).2)))) = 0)))
    (br (!(decide ((f94 ((f94 (0, ((a0.getD 1 (0, (0, 0))).2).2)), (IntKind.i64.wrap (0 - ((a0.getD 0 (0, (0, 0))).2).2)))) = 0)))
    (K (([(IntKind.i64.wrap ((((a0.getD 1 (0, (0, 0))).2).2).tdiv (f94 ((f94 (0, ((a0.getD 1 (0, (0, 0))).2).2)), (IntKind.i64.wrap (0 - ((a0.getD 0 (0, (0, 0))).2).2)))))), (IntKind.i64.wrap ((IntKind.i64.wrap (0 - ((a0.getD 0 (0, (0, 0))).2).2)).tdiv (f94 ((f94 (0, ((a0.getD 1 (0, (0, 0))).2).2)), (IntKind.i64.wrap (0 - ((a0.getD 0 (0, (0, 0))).2).2))))))] : List Int), true))
    False)
    False))
    False)
    False)
    (f94_pre (0, ((a0.getD 1 (0, (0, 0))).2).1) ∧
    f94_pre ((f94 (0, ((a0.getD 1 (0, (0, 0))).2).1)), (IntKind.i64.wrap (0 - ((a0.getD 0 (0, (0, 0))).2).1))) ∧
    br (decide (((a0.getD 1 (0, (0, 0))).2).1 < 0))
    (br (!(decide ((IntKind.i64.wrap (0 - (f94 ((f94 (0, ((a0.getD 1 (0, (0, 0))).2).1)), (IntKind.i64.wrap (0 - ((a0.getD 0 (0, (0, 0))).2).1)))))) = 0)))
    (br (!(decide ((IntKind.i64.wrap (0 - (f94 ((f94 (0, ((a0.getD 1 (0, (0, 0))).2).1)), (IntKind.i64.wrap (0 - ((a0.getD 0 (0, (0, 0))).2).1)))))) = 0)))
    (K (([(IntKind.i64.wrap ((((a0.getD 1 (0, (0, 0))).2).1).tdiv (IntKind.i64.wrap (0 - (f94 ((f94 (0, ((a0.getD 1 (0, (0, 0))).2).1)), (IntKind.i64.wrap (0 - ((a0.getD 0 (0, (0, 0))).2).1)))))))), (IntKind.i64.wrap ((IntKind.i64.wrap (0 - ((a0.getD 0 (0, (0, 0))).2).1)).tdiv (IntKind.i64.wrap (0 - (f94 ((f94 (0, ((a0.getD 1 (0, (0, 0))).2).1)), (IntKind.i64.wrap (0 - ((a0.getD 0 (0, (0, 0))).2).1))))))))] : List Int), true))
    False)
    False)
    (br (!(decide ((f94 ((f94 (0, ((a0.getD 1 (0, (0, 0))).2).1)), (IntKind.i64.wrap (0 - ((a0.getD 0 (0, (0, 0))).2).1)))) = 0)))
    (br (!(decide ((f94 ((f94 (0, ((a0.getD 1 (0, (0, 0))).2).1)), (IntKind.i64.wrap (0 - ((a0.getD 0 (0, (0, 0))).2).1)))) = 0)))
    (K (([(IntKind.i64.wrap ((((a0.getD 1 (0, (0, 0))).2).1).tdiv (f94 ((f94 (0, ((a0.getD 1 (0, (0, 0))).2).1)), (IntKind.i64.wrap (0 - ((a0.getD 0 (0, (0, 0))).2).1)))))), (IntKind.i64.wrap ((IntKind.i64.wrap (0 - ((a0.getD 0 (0, (0, 0))).2).1)).tdiv (f94 ((f94 (0, ((a0.getD 1 (0, (0, 0))).2).1)), (IntKind.i64.wrap (0 - ((a0.getD 0 (0, (0, 0))).2).1))))))] : List Int), true))
    False)
    False)))
    False)
    False)
    False)
    (br (decide (0 ≤ 0) && decide (0 < ((a0.length) : Int)))
    (br (((a0.getD 0 (0, (0, 0))).2).2 != 0)
    (br (decide (0 ≤ 1) && decide (1 < ((a0.length) : Int)))
    (br (decide (0 ≤ 0) && decide (0 < ((a0.length) : Int)))
    (f94_pre (0, ((a0.getD 1 (0, (0, 0))).2).2) ∧
    f94_pre ((f94 (0, ((a0.getD 1 (0, (0, 0))).2).2)), (IntKind.i64.wrap (0 - ((a0.getD 0 (0, (0, 0))).2).2))) ∧
    br (decide (((a0.getD 1 (0, (0, 0))).2).2 < 0))
    (br (!(decide ((IntKind.i64.wrap (0 - (f94 ((f94 (0, ((a0.getD 1 (0, (0, 0))).2).2)), (IntKind.i64.wrap (0 - ((a0.getD 0 (0, (0, 0))).2).2)))))) = 0)))
    (br (!(decide ((IntKind.i64.wrap (0 - (f94 ((f94 (0, ((a0.getD 1 (0, (0, 0))).2).2)), (IntKind.i64.wrap (0 - ((a0.getD 0 (0, (0, 0))).2).2)))))) = 0)))
    (K (([(IntKind.i64.wrap ((((a0.getD 1 (0, (0, 0))).2).2).tdiv (IntKind.i64.wrap (0 - (f94 ((f94 (0, ((a0.getD 1 (0, (0, 0))).2).2)), (IntKind.i64.wrap (0 - ((a0.getD 0 (0, (0, 0))).2).2)))))))), (IntKind.i64.wrap ((IntKind.i64.wrap (0 - ((a0.getD 0 (0, (0, 0))).2).2)).tdiv (IntKind.i64.wrap (0 - (f94 ((f94 (0, ((a0.getD 1 (0, (0, 0))).2).2)), (IntKind.i64.wrap (0 - ((a0.getD 0 (0, (0, 0))).2).2))))))))] : List Int), true))
    False)
    False)
    (br (!(decide ((f94 ((f94 (0, ((a0.getD 1 (0, (0, 0))).2).2)), (IntKind.i64.wrap (0 - ((a0.getD 0 (0, (0, 0))).2).2)))) = 0)))
    (br (!(decide ((f94 ((f94 (0, ((a0.getD 1 (0, (0, 0))).2).2)), (IntKind.i64.wrap (0 - ((a0.getD 0 (0, (0, 0))).2).2)))) = 0)))
    (K (([(IntKind.i64.wrap ((((a0.getD 1 (0, (0, 0))).2).2).tdiv (f94 ((f94 (0, ((a0.getD 1 (0, (0, 0))).2).2)), (IntKind.i64.wrap (0 - ((a0.getD 0 (0, (0, 0))).2).2)))))), (IntKind.i64.wrap ((IntKind.i64.wrap (0 - ((a0.getD 0 (0, (0, 0))).2).2)).tdiv (f94 ((f94 (0, ((a0.getD 1 (0, (0, 0))).2).2)), (IntKind.i64.wrap (0 - ((a0.getD 0 (0, (0, 0))).2).2))))))] : List Int), true))
    False)
    False))
    False)
    False)
    (f94_pre (0, (a0.getD 1 (0, (0, 0))).1) ∧
    f94_pre ((f94 (0, (a0.getD 1 (0, (0, 0))).1)), (IntKind.i64.wrap (0 - (a0.getD 0 (0, (0, 0))).1))) ∧
    br (decide ((a0.getD 1 (0, (0, 0))).1 < 0))
    (br (!(decide ((IntKind.i64.wrap (0 - (f94 ((f94 (0, (a0.getD 1 (0, (0, 0))).1)), (IntKind.i64.wrap (0 - (a0.getD 0 (0, (0, 0))).1)))))) = 0)))
    (br (!(decide ((IntKind.i64.wrap (0 - (f94 ((f94 (0, (a0.getD 1 (0, (0, 0))).1)), (IntKind.i64.wrap (0 - (a0.getD 0 (0, (0, 0))).1)))))) = 0)))
    (K (([(IntKind.i64.wrap (((a0.getD 1 (0, (0, 0))).1).tdiv (IntKind.i64.wrap (0 - (f94 ((f94 (0, (a0.getD 1 (0, (0, 0))).1)), (IntKind.i64.wrap (0 - (a0.getD 0 (0, (0, 0))).1)))))))), (IntKind.i64.wrap ((IntKind.i64.wrap (0 - (a0.getD 0 (0, (0, 0))).1)).tdiv (IntKind.i64.wrap (0 - (f94 ((f94 (0, (a0.getD 1 (0, (0, 0))).1)), (IntKind.i64.wrap (0 - (a0.getD 0 (0, (0, 0))).1))))))))] : List Int), true))
    False)
    False)
    (br (!(decide ((f94 ((f94 (0, (a0.getD 1 (0, (0, 0))).1)), (IntKind.i64.wrap (0 - (a0.getD 0 (0, (0, 0))).1)))) = 0)))
    (br (!(decide ((f94 ((f94 (0, (a0.getD 1 (0, (0, 0))).1)), (IntKind.i64.wrap (0 - (a0.getD 0 (0, (0, 0))).1)))) = 0)))
    (K (([(IntKind.i64.wrap (((a0.getD 1 (0, (0, 0))).1).tdiv (f94 ((f94 (0, (a0.getD 1 (0, (0, 0))).1)), (IntKind.i64.wrap (0 - (a0.getD 0 (0, (0, 0))).1)))))), (IntKind.i64.wrap ((IntKind.i64.wrap (0 - (a0.getD 0 (0, (0, 0))).1)).tdiv (f94 ((f94 (0, (a0.getD 1 (0, (0, 0))).1)), (IntKind.i64.wrap (0 - (a0.getD 0 (0, (0, 0))).1))))))] : List Int), true))
    False)
    False)))
    False))
    False)
    False)
    False)
    (br (decide (0 ≤ 0) && decide (0 < ((a0.length) : Int)))
    (br (((a0.getD 0 (0, (0, 0))).2).1 != 0)
    (br (decide (0 ≤ 1) && decide (1 < ((a0.length) : Int)))
    (br (decide (0 ≤ 0) && decide (0 < ((a0.length) : Int)))
    (br (decide (0 ≤ 0) && decide (0 < ((a0.length) : Int)))
    (br (((a0.getD 0 (0, (0, 0))).2).2 != 0)
    (br (decide (0 ≤ 1) && decide (1 < ((a0.length) : Int)))
    (br (decide (0 ≤ 0) && decide (0 < ((a0.length) : Int)))
    (f94_pre (0, ((a0.getD 1 (0, (0, 0))).2).2) ∧
    f94_pre ((f94 (0, ((a0.getD 1 (0, (0, 0))).2).2)), (IntKind.i64.wrap (0 - ((a0.getD 0 (0, (0, 0))).2).2))) ∧
    br (decide (((a0.getD 1 (0, (0, 0))).2).2 < 0))
    (br (!(decide ((IntKind.i64.wrap (0 - (f94 ((f94 (0, ((a0.getD 1 (0, (0, 0))).2).2)), (IntKind.i64.wrap (0 - ((a0.getD 0 (0, (0, 0))).2).2)))))) = 0)))
    (br (!(decide ((IntKind.i64.wrap (0 - (f94 ((f94 (0, ((a0.getD 1 (0, (0, 0))).2).2)), (IntKind.i64.wrap (0 - ((a0.getD 0 (0, (0, 0))).2).2)))))) = 0)))
    (K (([(IntKind.i64.wrap ((((a0.getD 1 (0, (0, 0))).2).2).tdiv (IntKind.i64.wrap (0 - (f94 ((f94 (0, ((a0.getD 1 (0, (0, 0))).2).2)), (IntKind.i64.wrap (0 - ((a0.getD 0 (0, (0, 0))).2).2)))))))), (IntKind.i64.wrap ((IntKind.i64.wrap (0 - ((a0.getD 0 (0, (0, 0))).2).2)).tdiv (IntKind.i64.wrap (0 - (f94 ((f94 (0, ((a0.getD 1 (0, (0, 0))).2).2)), (IntKind.i64.wrap (0 - ((a0.getD 0 (0, (0, 0))).2).2))))))))] : List Int), true))
    False)
    False)
    (br (!(decide ((f94 ((f94 (0, ((a0.getD 1 (0, (0, 0))).2).2)), (IntKind.i64.wrap (0 - ((a0.getD 0 (0, (0, 0))).2).2)))) = 0)))
    (br (!(decide ((f94 ((f94 (0, ((a0.getD 1 (0, (0, 0))).2).2)), (IntKind.i64.wrap (0 - ((a0.getD 0 (0, (0, 0))).2).2)))) = 0)))
    (K (([(IntKind.i64.wrap ((((a0.getD 1 (0, (0, 0))).2).2).tdiv (f94 ((f94 (0, ((a0.getD 1 (0, (0, 0))).2).2)), (IntKind.i64.wrap (0 - ((a0.getD 0 (0, (0, 0))).2).2)))))), (IntKind.i64.wrap ((IntKind.i64.wrap (0 - ((a0.getD 0 (0, (0, 0))).2).2)).tdiv (f94 ((f94 (0, ((a0.getD 1 (0, (0, 0))).2).2)), (IntKind.i64.wrap (0 - ((a0.getD 0 (0, (0, 0))).2).2))))))] : List Int), true))
    False)
    False))
    False)
    False)
    (f94_pre (0, ((a0.getD 1 (0, (0, 0))).2).1) ∧
    f94_pre ((f94 (0, ((a0.getD 1 (0, (0, 0))).2).1)), (IntKind.i64.wrap (0 - ((a0.getD 0 (0, (0, 0))).2).1))) ∧
    br (decide (((a0.getD 1 (0, (0, 0))).2).1 < 0))
    (br (!(decide ((IntKind.i64.wrap (0 - (f94 ((f94 (0, ((a0.getD 1 (0, (0, 0))).2).1)), (IntKind.i64.wrap (0 - ((a0.getD 0 (0, (0, 0))).2).1)))))) = 0)))
    (br (!(decide ((IntKind.i64.wrap (0 - (f94 ((f94 (0, ((a0.getD 1 (0, (0, 0))).2).1)), (IntKind.i64.wrap (0 - ((a0.getD 0 (0, (0, 0))).2).1)))))) = 0)))
    (K (([(IntKind.i64.wrap ((((a0.getD 1 (0, (0, 0))).2).1).tdiv (IntKind.i64.wrap (0 - (f94 ((f94 (0, ((a0.getD 1 (0, (0, 0))).2).1)), (IntKind.i64.wrap (0 - ((a0.getD 0 (0, (0, 0))).2).1)))))))), (IntKind.i64.wrap ((IntKind.i64.wrap (0 - ((a0.getD 0 (0, (0, 0))).2).1)).tdiv (IntKind.i64.wrap (0 - (f94 ((f94 (0, ((a0.getD 1 (0, (0, 0))).2).1)), (IntKind.i64.wrap (0 - ((a0.getD 0 (0, (0, 0))).2).1))))))))] : List Int), true))
    False)
    False)
    (br (!(decide ((f94 ((f94 (0, ((a0.getD 1 (0, (0, 0))).2).1)), (IntKind.i64.wrap (0 - ((a0.getD 0 (0, (0, 0))).2).1)))) = 0)))
    (br (!(decide ((f94 ((f94 (0, ((a0.getD 1 (0, (0, 0))).2).1)), (IntKind.i64.wrap (0 - ((a0.getD 0 (0, (0, 0))).2).1)))) = 0)))
    (K (([(IntKind.i64.wrap ((((a0.getD 1 (0, (0, 0))).2).1).tdiv (f94 ((f94 (0, ((a0.getD 1 (0, (0, 0))).2).1)), (IntKind.i64.wrap (0 - ((a0.getD 0 (0, (0, 0))).2).1)))))), (IntKind.i64.wrap ((IntKind.i64.wrap (0 - ((a0.getD 0 (0, (0, 0))).2).1)).tdiv (f94 ((f94 (0, ((a0.getD 1 (0, (0, 0))).2).1)), (IntKind.i64.wrap (0 - ((a0.getD 0 (0, (0, 0))).2).1))))))] : List Int), true))
    False)
    False)))
    False)
    False)
    False)
    (br (decide (0 ≤ 0) && decide (0 < ((a0.length) : Int)))
    (br (((a0.getD 0 (0, (0, 0))).2).2 != 0)
    (br (decide (0 ≤ 1) && decide (1 < ((a0.length) : Int)))
    (br (decide (0 ≤ 0) && decide (0 < ((a0.length) : Int)))
    (f94_pre (0, ((a0.getD 1 (0, (0, 0))).2).2) ∧
    f94_pre ((f94 (0, ((a0.getD 1 (0, (0, 0))).2).2)), (IntKind.i64.wrap (0 - ((a0.getD 0 (0, (0, 0))).2).2))) ∧
    br (decide (((a0.getD 1 (0, (0, 0))).2).2 < 0))
    (br (!(decide ((IntKind.i64.wrap (0 - (f94 ((f94 (0, ((a0.getD 1 (0, (0, 0))).2).2)), (IntKind.i64.wrap (0 - ((a0.getD 0 (0, (0, 0))).2).2)))))) = 0)))
    (br (!(decide ((IntKind.i64.wrap (0 - (f94 ((f94 (0, ((a0.getD 1 (0, (0, 0))).2).2)), (IntKind.i64.wrap (0 - ((a0.getD 0 (0, (0, 0))).2).2)))))) = 0)))
    (K (([(IntKind.i64.wrap ((((a0.getD 1 (0, (0, 0))).2).2).tdiv (IntKind.i64.wrap (0 - (f94 ((f94 (0, ((a0.getD 1 (0, (0, 0))).2).2)), (IntKind.i64.wrap (0 - ((a0.getD 0 (0, (0, 0))).2).2)))))))), (IntKind.i64.wrap ((IntKind.i64.wrap (0 - ((a0.getD 0 (0, (0, 0))).2).2)).tdiv (IntKind.i64.wrap (0 - (f94 ((f94 (0, ((a0.getD 1 (0, (0, 0))).2).2)), (IntKind.i64.wrap (0 - ((a0.getD 0 (0, (0, 0))).2).2))))))))] : List Int), true))
    False)
    False)
    (br (!(decide ((f94 ((f94 (0, ((a0.getD 1 (0, (0, 0))).2).2)), (IntKind.i64.wrap (0 - ((a0.getD 0 (0, (0, 0))).2).2)))) = 0)))
    (br (!(decide ((f94 ((f94 (0, ((a0.getD 1 (0, (0, 0))).2).2)), (IntKind.i64.wrap (0 - ((a0.getD 0 (0, (0, 0))).2).2)))) = 0)))
    (K (([(IntKind.i64.wrap ((((a0.getD 1 (0, (0, 0))).2).2).tdiv (f94 ((f94 (0, ((a0.getD 1 (0, (0, 0))).2).2)), (IntKind.i64.wrap (0 - ((a0.getD 0 (0, (0, 0))).2).2)))))), (IntKind.i64.wrap ((IntKind.i64.wrap (0 - ((a0.getD 0 (0, (0, 0))).2).2)).tdiv (f94 ((f94 (0, ((a0.getD 1 (0, (0, 0))).2).2)), (IntKind.i64.wrap (0 - ((a0.getD 0 (0, (0, 0))).2).2))))))] : List Int), true))
    False)
    False))
    False)
    False)
    (False))
    False))
    False))
    False)
    (br (((a0.length) : Int) == 3)
    (br (decide (0 ≤ 0) && decide (0 < ((a0.length) : Int)))
    (br (decide (0 ≤ 1) && decide (1 < ((a0.length) : Int)))
    (br (decide (0 ≤ 1) && decide (1 < ((a0.length) : Int)))
    (br (decide (0 ≤ 2) && decide (2 < ((a0.length) : Int)))
    (br (decide (0 ≤ 2) && decide (2 < ((a0.length) : Int)))
    (br (decide (0 ≤ 0) && decide (0 < ((a0.length) : Int)))
    (br (decide (0 ≤ 0) && decide (0 < ((a0.length) : Int)))
    (br (decide (0 ≤ 1) && decide (1 < ((a0.length) : Int)))
    (f94_pre (0, (f36 (((f93 (((a0.getD 1 (0, (0, 0))).1, ((a0.getD 1 (0, (0, 0))).2)), ((a0.getD 2 (0, (0, 0))).1, ((a0.getD 2 (0, (0, 0))).2)))).1, ((f93 (((a0.getD 1 (0, (0, 0))).1, ((a0.getD 1 (0, (0, 0))).2)), ((a0.getD 2 (0, (0, 0))).1, ((a0.getD 2 (0, (0, 0))).2)))).2)), ((f93 (((a0.getD 0 (0, (0, 0))).1, ((a0.getD 0 (0, (0, 0))).2)), ((a0.getD 1 (0, (0, 0))).1, ((a0.getD 1 (0, (0, 0))).2)))).1, ((f93 (((a0.getD 0 (0, (0, 0))).1, ((a0.getD 0 (0, (0, 0))).2)), ((a0.getD 1 (0, (0, 0))).1, ((a0.getD 1 (0, (0, 0))).2)))).2))))) ∧
    f94_pre ((f94 (0, (f36 (((f93 (((a0.getD 1 (0, (0, 0))).1, ((a0.getD 1 (0, (0, 0))).2)), ((a0.getD 2 (0, (0, 0))).1, ((a0.getD 2 (0, (0, 0))).2)))).1, ((f93 (((a0.getD 1 (0, (0, 0))).1, ((a0.getD 1 (0, (0, 0))).2)), ((a0.getD 2 (0, (0, 0))).1, ((a0.getD 2 (0, (0, 0))).2)))).2)), ((f93 (((a0.getD 0 (0, (0, 0))).1, ((a0.getD 0 (0, (0, 0))).2)), ((a0.getD 1 (0, (0, 0))).1, ((a0.getD 1 (0, (0, 0))).2)))).1, ((f93 (((a0.getD 0 (0, (0, 0))).1, ((a0.getD 0 (0, (0, 0))).2)), ((a0.getD 1 (0, (0, 0))).1, ((a0.getD 1 (0, (0, 0))).2)))).2)))))), (f36 (((f93 (((a0.getD 2 (0, (0, 0))).1, ((a0.getD 2 (0, (0, 0))).2)), ((a0.getD 0 (0, (0, 0))).1, ((a0.getD 0 (0, (0, 0))).2)))).1, ((f93 (((a0.getD 2 (0, (0, 0))).1, ((a0.getD 2 (0, (0, 0))).2)), ((a0.getD 0 (0, (0, 0))).1, ((a0.getD 0 (0, (0, 0))).2)))).2)), ((f93 (((a0.getD 0 (0, (0, 0))).1, ((a0.getD 0 (0, (0, 0))).2)), ((a0.getD 1 (0, (0, 0))).1, ((a0.getD 1 (0, (0, 0))).2)))).1, ((f93 (((a0.getD 0 (0, (0, 0))).1, ((a0.getD 0 (0, (0, 0))).2)), ((a0.getD 1 (0, (0, 0))).1, ((a0.getD 1 (0, (0, 0))).2)))).2))))) ∧
    f94_pre ((f94 ((f94 (0, (f36 (((f93 (((a0.getD 1 (0, (0, 0))).1, ((a0.getD 1 (0, (0, 0))).2)), ((a0.getD 2 (0, (0, 0))).1, ((a0.getD 2 (0, (0, 0))).2)))).1, ((f93 (((a0.getD 1 (0, (0, 0))).1, ((a0.getD 1 (0, (0, 0))).2)), ((a0.getD 2 (0, (0, 0))).1, ((a0.getD 2 (0, (0, 0))).2)))).2)), ((f93 (((a0.getD 0 (0, (0, 0))).1, ((a0.getD 0 (0, (0, 0))).2)), ((a0.getD 1 (0, (0, 0))).1, ((a0.getD 1 (0, (0, 0))).2)))).1, ((f93 (((a0.getD 0 (0, (0, 0))).1, ((a0.getD 0 (0, (0, 0))).2)), ((a0.getD 1 (0, (0, 0))).1, ((a0.getD 1 (0, (0, 0))).2)))).2)))))), (f36 (((f93 (((a0.getD 2 (0, (0, 0))).1, ((a0.getD 2 (0, (0, 0))).2)), ((a0.getD 0 (0, (0, 0))).1, ((a0.getD 0 (0, (0, 0))).2)))).1, ((f93 (((a0.getD 2 (0, (0, 0))).1, ((a0.getD 2 (0, (0, 0))).2)), ((a0.getD 0 (0, (0, 0))).1, ((a0.getD 0 (0, (0, 0))).2)))).2)), ((f93 (((a0.getD 0 (0, (0, 0))).1, ((a0.getD 0 (0, (0, 0))).2)), ((a0.getD 1 (0, (0, 0))).1, ((a0.getD 1 (0, (0, 0))).2)))).1, ((f93 (((a0.getD 0 (0, (0, 0))).1, ((a0.getD 0 (0, (0, 0))).2)), ((a0.getD 1 (0, (0, 0))).1, ((a0.getD 1 (0, (0, 0))).2)))).2)))))), (f36 (((f93 (((a0.getD 0 (0, (0, 0))).1, ((a0.getD 0 (0, (0, 0))).2)), ((a0.getD 1 (0, (0, 0))).1, ((a0.getD 1 (0, (0, 0))).2)))).1, ((f93 (((a0.getD 0 (0, (0, 0))).1, ((a0.getD 0 (0, (0, 0))).2)), ((a0.getD 1 (0, (0, 0))).1, ((a0.getD 1 (0, (0, 0))).2)))).2)), ((f93 (((a0.getD 0 (0, (0, 0))).1, ((a0.getD 0 (0, (0, 0))).2)), ((a0.getD 1 (0, (0, 0))).1, ((a0.getD 1 (0, (0, 0))).2)))).1, ((f93 (((a0.getD 0 (0, (0, 0))).1, ((a0.getD 0 (0, (0, 0))).2)), ((a0.getD 1 (0, (0, 0))).1, ((a0.getD 1 (0, (0, 0))).2)))).2))))) ∧
    br (decide ((f36 (((f93 (((a0.getD 1 (0, (0, 0))).1, ((a0.getD 1 (0, (0, 0))).2)), ((a0.getD 2 (0, (0, 0))).1, ((a0.getD 2 (0, (0, 0))).2)))).1, ((f93 (((a0.getD 1 (0, (0, 0))).1, ((a0.getD 1 (0, (0, 0))).2)), ((a0.getD 2 (0, (0, 0))).1, ((a0.getD 2 (0, (0, 0))).2)))).2)), ((f93 (((a0.getD 0 (0, (0, 0))).1, ((a0.getD 0 (0, (0, 0))).2)), ((a0.getD 1 (0, (0, 0))).1, ((a0.getD 1 (0, (0, 0))).2)))).1, ((f93 (((a0.getD 0 (0, (0, 0))).1, ((a0.getD 0 (0, (0, 0))).2)), ((a0.getD 1 (0, (0, 0))).1, ((a0.getD 1 (0, (0, 0))).2)))).2)))) < 0))
    (br (!(decide ((IntKind.i64.wrap (0 - (f94 ((f94 ((f94 (0, (f36 (((f93 (((a0.getD 1 (0, (0, 0))).1, ((a0.getD 1 (0, (0, 0))).2)), ((a0.getD 2 (0, (0, 0))).1, ((a0.getD 2 (0, (0, 0))).2)))).1, ((f93 (((a0.getD 1 (0, (0, 0))).1, ((a0.getD 1 (0, (0, 0))).2)), ((a0.getD 2 (0, (0, 0))).1, ((a0.getD 2 (0, (0, 0))).2)))).2)), ((f93 (((a0.getD 0 (0, (0, 0))).1, ((a0.getD 0 (0, (0, 0))).2)), ((a0.getD 1 (0, (0, 0))).1, ((a0.getD 1 (0, (0, 0))).2)))).1, ((f93 (((a0.getD 0 (0, (0, 0))).1, ((a0.getD 0 (0, (0, 0))).2)), ((a0.getD 1 (0, (0, 0))).1, ((a0.getD 1 (0, (0, 0))).2)))).2)))))), (f36 (((f93 (((a0.getD 2 (0, (0, 0))).1, ((a0.getD 2 (0, (0, 0))).2)), ((a0.getD 0 (0, (0, 0))).1, ((a0.getD 0 (0, (0, 0))).2)))).1, ((f93 (((a0.getD 2 (0, (0, 0))).1, ((a0.getD 2 (0, (0, 0))).2)), ((a0.getD 0 (0, (0, 0))).1, ((a0.getD 0 (0, (0, 0))).2)))).2)), ((f93 (((a0.getD 0 (0, (0, 0))).1, ((a0.getD 0 (0, (0, 0))).2)), ((a0.getD 1 (0, (0, 0))).1, ((a0.getD 1 (0, (0, 0))).2)))).1, ((f93 (((a0.getD 0 (0, (0, 0))).1, ((a0.getD 0 (0, (0, 0))).2)), ((a0.getD 1 (0, (0, 0))).1, ((a0.getD 1 (0, (0, 0))).2)))).2)))))), (f36 (((f93 (((a0.getD 0 (0, (0, 0))).1, ((a0.getD 0 (0, (0, 0))).2)), ((a0.getD 1 (0, (0, 0))).1, ((a0.getD 1 (0, (0, 0))).2)))).1, ((f93 (((a0.getD 0 (0, (0, 0))).1, ((a0.getD 0 (0, (0, 0))).2)), ((a0.getD 1 (0, (0, 0))).1, ((a0.getD 1 (0, (0, 0))).2)))).2)), ((f93 (((a0.getD 0 (0, (0, 0))).1, ((a0.getD 0 (0, (0, 0))).2)), ((a0.getD 1 (0, (0, 0))).1, ((a0.getD 1 (0, (0, 0))).2)))).1, ((f93 (((a0.getD 0 (0, (0, 0))).1, ((a0.getD 0 (0, (0, 0))).2)), ((a0.getD 1 (0, (0, 0))).1, ((a0.getD 1 (0, (0, 0))).2)))).2)))))))) = 0)))
    (br (!(decide ((IntKind.i64.wrap (0 - (f94 ((f94 ((f94 (0, (f36 (((f93 (((a0.getD 1 (0, (0, 0))).1, ((a0.getD 1 (0, (0, 0))).2)), ((a0.getD 2 (0, (0, 0))).1, ((a0.getD 2 (0, (0, 0))).2)))).1, ((f93 (((a0.getD 1 (0, (0, 0))).1, ((a0.getD 1 (0, (0, 0))).2)), ((a0.getD 2 (0, (0, 0))).1, ((a0.getD 2 (0, (0, 0))).2)))).2)), ((f93 (((a0.getD 0 (0, (0, 0))).1, ((a0.getD 0 (0, (0, 0))).2)), ((a0.getD 1 (0, (0, 0))).1, ((a0.getD 1 (0, (0, 0))).2)))).1, ((f93 (((a0.getD 0 (0, (0, 0))).1, ((a0.getD 0 (0, (0, 0))).2)), ((a0.getD 1 (0, (0, 0))).1, ((a0.getD 1 (0, (0, 0))).2)))).2)))))), (f36 (((f93 (((a0.getD 2 (0, (0, 0))).1, ((a0.getD 2 (0, (0, 0))).2)), ((a0.getD 0 (0, (0, 0))).1, ((a0.getD 0 (0, (0, 0))).2)))).1, ((f93 (((a0.getD 2 (0, (0, 0))).1, ((a0.getD 2 (0, (0, 0))).2)), ((a0.getD 0 (0, (0, 0))).1, ((a0.getD 0 (0, (0, 0))).2)))).2)), ((f93 (((a0.getD 0 (0, (0, 0))).1, ((a0.getD 0 (0, (0, 0))).2)), ((a0.getD 1 (0, (0, 0))).1, ((a0.getD 1 (0, (0, 0))).2)))).1, ((f93 (((a0.getD 0 (0, (0, 0))).1, ((a0.getD 0 (0, (0, 0))).2)), ((a0.getD 1 (0, (0, 0))).1, ((a0.getD 1 (0, (0, 0))).2)))).2)))))), (f36 (((f93 (((a0.getD 0 (0, (0, 0))).1, ((a0.getD 0 (0, (0, 0))).2)), ((a0.getD 1 (0, (0, 0))).1, ((a0.getD 1 (0, (0, 0))).2)))).1, ((f93 (((a0.getD 0 (0, (0, 0))).1, ((a0.getD 0 (0, (0, 0))).2)), ((a0.getD 1 (0, (0, 0))).1, ((a0.getD 1 (0, (0, 0))).2)))).2)), ((f93 (((a0.getD 0 (0, (0, 0))).1, ((a0.getD 0 (0, (0, 0))).2)), ((a0.getD 1 (0, (0, 0))).1, ((a0.getD 1 (0, (0, 0))).2)))).1, ((f93 (((a0.getD 0 (0, (0, 0))).1, ((a0.getD 0 (0, (0, 0))).2)), ((a0.getD 1 (0, (0, 0))).1, ((a0.getD 1 (0, (0, 0))).2)))).2)))))))) = 0)))
    (br (!(decide ((IntKind.i64.wrap (0 - (f94 ((f94 ((f94 (0, (f36 (((f93 (((a0.getD 1 (0, (0, 0))).1, ((a0.getD 1 (0, (0, 0))).2)), ((a0.getD 2 (0, (0, 0))).1, ((a0.getD 2 (0, (0, 0))).2)))).1, ((f93 (((a0.getD 1 (0, (0, 0))).1, ((a0.getD 1 (0, (0, 0))).2)), ((a0.getD 2 (0, (0, 0))).1, ((a0.getD 2 (0, (0, 0))).2)))).2)), ((f93 (((a0.getD 0 (0, (0, 0))).1, ((a0.getD 0 (0, (0, 0))).2)), ((a0.getD 1 (0, (0, 0))).1, ((a0.getD 1 (0, (0, 0))).2)))).1, ((f93 (((a0.getD 0 (0, (0, 0))).1, ((a0.getD 0 (0, (0, 0))).2)), ((a0.getD 1 (0, (0, 0))).1, ((a0.getD 1 (0, (0, 0))).2)))).2)))))), (f36 (((f93 (((a0.getD 2 (0, (0, 0))).1, ((a0.getD 2 (0, (0, 0))).2)), ((a0.getD 0 (0, (0, 0))).1, ((a0.getD 0 (0, (0, 0))).2)))).1, ((f93 (((a0.getD 2 (0, (0, 0))).1, ((a0.getD 2 (0, (0, 0))).2)), ((a0.getD 0 (0, (0, 0))).1, ((a0.getD 0 (0, (0, 0))).2)))).2)), ((f93 (((a0.getD 0 (0, (0, 0))).1, ((a0.getD 0 (0, (0, 0))).2)), ((a0.getD 1 (0, (0, 0))).1, ((a0.getD 1 (0, (0, 0))).2)))).1, ((f93 (((a0.getD 0 (0, (0, 0))).1, ((a0.getD 0 (0, (0, 0))).2)), ((a0.getD 1 (0, (0, 0))).1, ((a0.getD 1 (0, (0, 0))).2)))).2)))))), (f36 (((f93 (((a0.getD 0 (0, (0, 0))).1, ((a0.getD 0 (0, (0, 0))).2)), ((a0.getD 1 (0, (0, 0))).1, ((a0.getD 1 (0, (0, 0))).2)))).1, ((f93 (((a0.getD 0 (0, (0, 0))).1, ((a0.getD 0 (0, (0, 0))).2)), ((a0.getD 1 (0, (0, 0))).1, ((a0.getD 1 (0, (0, 0))).2)))).2)), ((f93 (((a0.getD 0 (0, (0, 0))).1, ((a0.getD 0 (0, (0, 0))).2)), ((a0.getD 1 (0, (0, 0))).1, ((a0.getD 1 (0, (0, 0))).2)))).1, ((f93 (((a0.getD 0 (0, (0, 0))).1, ((a0.getD 0 (0, (0, 0))).2)), ((a0.getD 1 (0, (0, 0))).1, ((a0.getD 1 (0, (0, 0))).2)))).2)))))))) = 0)))
    (K (([(IntKind.i64.wrap ((f36 (((f93 (((a0.getD 1 (0, (0, 0))).1, ((a0.getD 1 (0, (0, 0))).2)), ((a0.getD 2 (0, (0, 0))).1, ((a0.getD 2 (0, (0, 0))).2)))).1, ((f93 (((a0.getD 1 (0, (0, 0))).1, ((a0.getD 1 (0, (0, 0))).2)), ((a0.getD 2 (0, (0, 0))).1, ((a0.getD 2 (0, (0, 0))).2)))).2)), ((f93 (((a0.getD 0 (0, (0, 0))).1, ((a0.getD 0 (0, (0, 0))).2)), ((a0.getD 1 (0, (0, 0))).1, ((a0.getD 1 (0, (0, 0))).2)))).1, ((f93 (((a0.getD 0 (0, (0, 0))).1, ((a0.getD 0 (0, (0, 0))).2)), ((a0.getD 1 (0, (0, 0))).1, ((a0.getD 1 (0, (0, 0))).2)))).2)))).tdiv (IntKind.i64.wrap (0 - (f94 ((f94 ((f94 (0, (f36 (((f93 (((a0.getD 1 (0, (0, 0))).1, ((a0.getD 1 (0, (0, 0))).2)), ((a0.getD 2 (0, (0, 0))).1, ((a0.getD 2 (0, (0, 0))).2)))).1, ((f93 (((a0.getD 1 (0, (0, 0))).1, ((a0.getD 1 (0, (0, 0))).2)), ((a0.getD 2 (0, (0, 0))).1, ((a0.getD 2 (0, (0, 0))).2)))).2)), ((f93 (((a0.getD 0 (0, (0, 0))).1, ((a0.getD 0 (0, (0, 0))).2)), ((a0.getD 1 (0, (0, 0))).1, ((a0.getD 1 (0, (0, 0))).2)))).1, ((f93 (((a0.getD 0 (0, (0, 0))).1, ((a0.getD 0 (0, (0, 0))).2)), ((a0.getD 1 (0, (0, 0))).1, ((a0.getD 1 (0, (0, 0))).2)))).2)))))), (f36 (((f93 (((a0.getD 2 (0, (0, 0))).1, ((a0.getD 2 (0, (0, 0))).2)), ((a0.getD 0 (0, (0, 0))).1, ((a0.getD 0 (0, (0, 0))).2)))).1, ((f93 (((a0.getD 2 (0, (0, 0))).1, ((a0.getD 2 (0, (0, 0))).2)), ((a0.getD 0 (0, (0, 0))).1, ((a0.getD 0 (0, (0, 0))).2)))).2)), ((f93 (((a0.getD 0 (0, (0, 0))).1, ((a0.getD 0 (0, (0, 0))).2)), ((a0.getD 1 (0, (0, 0))).1, ((a0.getD 1 (0, (0, 0))).2)))).1, ((f93 (((a0.getD 0 (0, (0, 0))).1, ((a0.getD 0 (0, (0, 0))).2)), ((a0.getD 1 (0, (0, 0))).1, ((a0.getD 1 (0, (0, 0))).2)))).2)))))), (f36 (((f93 (((a0.getD 0 (0, (0, 0))).1, ((a0.getD 0 (0, (0, 0))).2)), ((a0.getD 1 (0, (0, 0))).1, ((a0.getD 1 (0, (0, 0))).2)))).1, ((f93 (((a0.getD 0 (0, (0, 0))).1, ((a0.getD 0 (0, (0, 0))).2)), ((a0.getD 1 (0, (0, 0))).1, ((a0.getD 1 (0, (0, 0))).2)))).2)), ((f93 (((a0.getD 0 (0, (0, 0))).1, ((a0.getD 0 (0, (0, 0))).2)), ((a0.getD 1 (0, (0, 0))).1, ((a0.getD 1 (0, (0, 0))).2)))).1, ((f93 (((a0.getD 0 (0, (0, 0))).1, ((a0.getD 0 (0, (0, 0))).2)), ((a0.getD 1 (0, (0, 0))).1, ((a0.getD 1 (0, (0, 0))).2)))).2)))))))))), (IntKind.i64.wrap ((f36 (((f93 (((a0.getD 2 (0, (0, 0))).1, ((a0.getD 2 (0, (0, 0))).2)), ((a0.getD 0 (0, (0, 0))).1, ((a0.getD 0 (0, (0, 0))).2)))).1, ((f93 (((a0.getD 2 (0, (0, 0))).1, ((a0.getD 2 (0, (0, 0))).2)), ((a0.getD 0 (0, (0, 0))).1, ((a0.getD 0 (0, (0, 0))).2)))).2)), ((f93 (((a0.getD 0 (0, (0, 0))).1, ((a0.getD 0 (0, (0, 0))).2)), ((a0.getD 1 (0, (0, 0))).1, ((a0.getD 1 (0, (0, 0))).2)))).1, ((f93 (((a0.getD 0 (0, (0, 0))).1, ((a0.getD 0 (0, (0, 0))).2)), ((a0.getD 1 (0, (0, 0))).1, ((a0.getD 1 (0, (0, 0))).2)))).2)))).tdiv (IntKind.i64.wrap (0 - (f94 ((f94 ((f94 (0, (f36 (((f93 (((a0.getD 1 (0, (0, 0))).1, ((a0.getD 1 (0, (0, 0))).2)), ((a0.getD 2 (0, (0, 0))).1, ((a0.getD 2 (0, (0, 0))).2)))).1, ((f93 (((a0.getD 1 (0, (0, 0))).1, ((a0.getD 1 (0, (0, 0))).2)), ((a0.getD 2 (0, (0, 0))).1, ((a0.getD 2 (0, (0, 0))).2)))).2)), ((f93 (((a0.getD 0 (0, (0, 0))).1, ((a0.getD 0 (0, (0, 0))).2)), ((a0.getD 1 (0, (0, 0))).1, ((a0.getD 1 (0, (0, 0))).2)))).1, ((f93 (((a0.getD 0 (0, (0, 0))).1, ((a0.getD 0 (0, (0, 0))).2)), ((a0.getD 1 (0, (0, 0))).1, ((a0.getD 1 (0, (0, 0))).2)))).2)))))), (f36 (((f93 (((a0.getD 2 (0, (0, 0))).1, ((a0.getD 2 (0, (0, 0))).2)), ((a0.getD 0 (0, (0, 0))).1, ((a0.getD 0 (0, (0, 0))).2)))).1, ((f93 (((a0.getD 2 (0, (0, 0))).1, ((a0.getD 2 (0, (0, 0))).2)), ((a0.getD 0 (0, (0, 0))).1, ((a0.getD 0 (0, (0, 0))).2)))).2)), ((f93 (((a0.getD 0 (0, (0, 0))).1, ((a0.getD 0 (0, (0, 0))).2)), ((a0.getD 1 (0, (0, 0))).1, ((a0.getD 1 (0, (0, 0))).2)))).1, ((f93 (((a0.getD 0 (0, (0, 0))).1, ((a0.getD 0 (0, (0, 0))).2)), ((a0.getD 1 (0, (0, 0))).1, ((a0.getD 1 (0, (0, 0))).2)))).2)))))), (f36 (((f93 (((a0.getD 0 (0, (0, 0))).1, ((a0.getD 0 (0, (0, 0))).2)), ((a0.getD 1 (0, (0, 0))).1, ((a0.getD 1 (0, (0, 0))).2)))).1, ((f93 (((a0.getD 0 (0, (0, 0))).1, ((a0.getD 0 (0, (0, 0))).2)), ((a0.getD 1 (0, (0, 0))).1, ((a0.getD 1 (0, (0, 0))).2)))).2)), ((f93 (((a0.getD 0 (0, (0, 0))).1, ((a0.getD 0 (0, (0, 0))).2)), ((a0.getD 1 (0, (0, 0))).1, ((a0.getD 1 (0, (0, 0))).2)))).1, ((f93 (((a0.getD 0 (0, (0, 0))).1, ((a0.getD 0 (0, (0, 0))).2)), ((a0.getD 1 (0, (0, 0))).1, ((a0.getD 1 (0, (0, 0))).2)))).2)))))))))), (IntKind.i64.wrap ((f36 (((f93 (((a0.getD 0 (0, (0, 0))).1, ((a0.getD 0 (0, (0, 0))).2)), ((a0.getD 1 (0, (0, 0))).1, ((a0.getD 1 (0, (0, 0))).2)))).1, ((f93 (((a0.getD 0 (0, (0, 0))).1, ((a0.getD 0 (0, (0, 0))).2)), ((a0.getD 1 (0, (0, 0))).1, ((a0.getD 1 (0, (0, 0))).2)))).2)), ((f93 (((a0.getD 0 (0, (0, 0))).1, ((a0.getD 0 (0, (0, 0))).2)), ((a0.getD 1 (0, (0, 0))).1, ((a0.getD 1 (0, (0, 0))).2)))).1, ((f93 (((a0.getD 0 (0, (0, 0))).1, ((a0.getD 0 (0, (0, 0))).2)), ((a0.getD 1 (0, (0, 0))).1, ((a0.getD 1 (0, (0, 0))).2)))).2)))).tdiv (IntKind.i64.wrap (0 - (f94 ((f94 ((f94 (0, (f36 (((f93 (((a0.getD 1 (0, (0, 0))).1, ((a0.getD 1 (0, (0, 0))).2)), ((a0.getD 2 (0, (0, 0))).1, ((a0.getD 2 (0, (0, 0))).2)))).1, ((f93 (((a0.getD 1 (0, (0, 0))).1, ((a0.getD 1 (0, (0, 0))).2)), ((a0.getD 2 (0, (0, 0))).1, ((a0.getD 2 (0, (0, 0))).2)))).2)), ((f93 (((a0.getD 0 (0, (0, 0))).1, ((a0.getD 0 (0, (0, 0))).2)), ((a0.getD 1 (0, (0, 0))).1, ((a0.getD 1 (0, (0, 0))).2)))).1, ((f93 (((a0.getD 0 (0, (0, 0))).1, ((a0.getD 0 (0, (0, 0))).2)), ((a0.getD 1 (0, (0, 0))).1, ((a0.getD 1 (0, (0, 0))).2)))).2)))))), (f36 (((f93 (((a0.getD 2 (0, (0, 0))).1, ((a0.getD 2 (0, (0, 0))).2)), ((a0.getD 0 (0, (0, 0))).1, ((a0.getD 0 (0, (0, 0))).2)))).1, ((f93 (((a0.getD 2 (0, (0, 0))).1, ((a0.getD 2 (0, (0, 0))).2)), ((a0.getD 0 (0, (0, 0))).1, ((a0.getD 0 (0, (0, 0))).2)))).2)), ((f93 (((a0.getD 0 (0, (0, 0))).1, ((a0.getD 0 (0, (0, 0))).2)), ((a0.getD 1 (0, (0, 0))).1, ((a0.getD 1 (0, (0, 0))).2)))).1, ((f93 (((a0.getD 0 (0, (0, 0))).1, ((a0.getD 0 (0, (0, 0))).2)), ((a0.getD 1 (0, (0, 0))).1, ((a0.getD 1 (0, (0, 0))).2)))).2)))))), (f36 (((f93 (((a0.getD 0 (0, (0, 0))).1, ((a0.getD 0 (0, (0, 0))).2)), ((a0.getD 1 (0, (0, 0))).1, ((a0.getD 1 (0, (0, 0))).2)))).1, ((f93 (((a0.getD 0 (0, (0, 0))).1, ((a0.getD 0 (0, (0, 0))).2)), ((a0.getD 1 (0, (0, 0))).1, ((a0.getD 1 (0, (0, 0))).2)))).2)), ((f93 (((a0.getD 0 (0, (0, 0))).1, ((a0.getD 0 (0, (0, 0))).2)), ((a0.getD 1 (0, (0, 0))).1, ((a0.getD 1 (0, (0, 0))).2)))).1, ((f93 (((a0.getD 0 (0, (0, 0))).1, ((a0.getD 0 (0, (0, 0))).2)), ((a0.getD 1 (0, (0, 0))).1, ((a0.getD 1 (0, (0, 0))).2)))).2))))))))))] : List Int), true))
    False)
    False)
    False)
    (br (!(decide ((f94 ((f94 ((f94 (0, (f36 (((f93 (((a0.getD 1 (0, (0, 0))).1, ((a0.getD 1 (0, (0, 0))).2)), ((a0.getD 2 (0, (0, 0))).1, ((a0.getD 2 (0, (0, 0))).2)))).1, ((f93 (((a0.getD 1 (0, (0, 0))).1, ((a0.getD 1 (0, (0, 0))).2)), ((a0.getD 2 (0, (0, 0))).1, ((a0.getD 2 (0, (0, 0))).2)))).2)), ((f93 (((a0.getD 0 (0, (0, 0))).1, ((a0.getD 0 (0, (0, 0))).2)), ((a0.getD 1 (0, (0, 0))).1, ((a0.getD 1 (0, (0, 0))).2)))).1, ((f93 (((a0.getD 0 (0, (0, 0))).1, ((a0.getD 0 (0, (0, 0))).2)), ((a0.getD 1 (0, (0, 0))).1, ((a0.getD 1 (0, (0, 0))).2)))).2)))))), (f36 (((f93 (((a0.getD 2 (0, (0, 0))).1, ((a0.getD 2 (0, (0, 0))).2)), ((a0.getD 0 (0, (0, 0))).1, ((a0.getD 0 (0, (0, 0))).2)))).1, ((f93 (((a0.getD 2 (0, (0, 0))).1, ((a0.getD 2 (0, (0, 0))).2)), ((a0.getD 0 (0, (0, 0))).1, ((a0.getD 0 (0, (0, 0))).2)))).2)), ((f93 (((a0.getD 0 (0, (0, 0))).1, ((a0.getD 0 (0, (0, 0))).2)), ((a0.getD 1 (0, (0, 0))).1, ((a0.getD 1 (0, (0, 0))).2)))).1, ((f93 (((a0.getD 0 (0, (0, 0))).1, ((a0.getD 0 (0, (0, 0))).2)), ((a0.getD 1 (0, (0, 0))).1, ((a0.getD 1 (0, (0, 0))).2)))).2)))))), (f36 (((f93 (((a0.getD 0 (0, (0, 0))).1, ((a0.getD 0 (0, (0, 0))).2)), ((a0.getD 1 (0, (0, 0))).1, ((a0.getD 1 (0, (0, 0))).2)))).1, ((f93 (((a0.getD 0 (0, (0, 0))).1, ((a0.getD 0 (0, (0, 0))).2)), ((a0.getD 1 (0, (0, 0))).1, ((a0.getD 1 (0, (0, 0))).2)))).2)), ((f93 (((a0.getD 0 (0, (0, 0))).1, ((a0.getD 0 (0, (0, 0))).2)), ((a0.getD 1 (0, (0, 0))).1, ((a0.getD 1 (0, (0, 0))).2)))).1, ((f93 (((a0.getD 0 (0, (0, 0))).1, ((a0.getD 0 (0, (0, 0))).2)), ((a0.getD 1 (0, (0, 0))).1, ((a0.getD 1 (0, (0, 0))).2)))).2)))))) = 0)))
    (br (!(decide ((f94 ((f94 ((f94 (0, (f36 (((f93 (((a0.getD 1 (0, (0, 0))).1, ((a0.getD 1 (0, (0, 0))).2)), ((a0.getD 2 (0, (0, 0))).1, ((a0.getD 2 (0, (0, 0))).2)))).1, ((f93 (((a0.getD 1 (0, (0, 0))).1, ((a0.getD 1 (0, (0, 0))).2)), ((a0.getD 2 (0, (0, 0))).1, ((a0.getD 2 (0, (0, 0))).2)))).2)), ((f93 (((a0.getD 0 (0, (0, 0))).1, ((a0.getD 0 (0, (0, 0))).2)), ((a0.getD 1 (0, (0, 0))).1, ((a0.getD 1 (0, (0, 0))).2)))).1, ((f93 (((a0.getD 0 (0, (0, 0))).1, ((a0.getD 0 (0, (0, 0))).2)), ((a0.getD 1 (0, (0, 0))).1, ((a0.getD 1 (0, (0, 0))).2)))).2)))))), (f36 (((f93 (((a0.getD 2 (0, (0, 0))).1, ((a0.getD 2 (0, (0, 0))).2)), ((a0.getD 0 (0, (0, 0))).1, ((a0.getD 0 (0, (0, 0))).2)))).1, ((f93 (((a0.getD 2 (0, (0, 0))).1, ((a0.getD 2 (0, (0, 0))).2)), ((a0.getD 0 (0, (0, 0))).1, ((a0.getD 0 (0, (0, 0))).2)))).2)), ((f93 (((a0.getD 0 (0, (0, 0))).1, ((a0.getD 0 (0, (0, 0))).2)), ((a0.getD 1 (0, (0, 0))).1, ((a0.getD 1 (0, (0, 0))).2)))).1, ((f93 (((a0.getD 0 (0, (0, 0))).1, ((a0.getD 0 (0, (0, 0))).2)), ((a0.getD 1 (0, (0, 0))).1, ((a0.getD 1 (0, (0, 0))).2)))).2)))))), (f36 (((f93 (((a0.getD 0 (0, (0, 0))).1, ((a0.getD 0 (0, (0, 0))).2)), ((a0.getD 1 (0, (0, 0))).1, ((a0.getD 1 (0, (0, 0))).2)))).1, ((f93 (((a0.getD 0 (0, (0, 0))).1, ((a0.getD 0 (0, (0, 0))).2)), ((a0.getD 1 (0, (0, 0))).1, ((a0.getD 1 (0, (0, 0))).2)))).2)), ((f93 (((a0.getD 0 (0, (0, 0))).1, ((a0.getD 0 (0, (0, 0))).2)), ((a0.getD 1 (0, (0, 0))).1, ((a0.getD 1 (0, (0, 0))).2)))).1, ((f93 (((a0.getD 0 (0, (0, 0))).1, ((a0.getD 0 (0, (0, 0))).2)), ((a0.getD 1 (0, (0, 0))).1, ((a0.getD 1 (0, (0, 0))).2)))).2)))))) = 0)))
    (br (!(decide ((f94 ((f94 ((f94 (0, (f36 (((f93 (((a0.getD 1 (0, (0, 0))).1, ((a0.getD 1 (0, (0, 0))).2)), ((a0.getD 2 (0, (0, 0))).1, ((a0.getD 2 (0, (0, 0))).2)))).1, ((f93 (((a0.getD 1 (0, (0, 0))).1, ((a0.getD 1 (0, (0, 0))).2)), ((a0.getD 2 (0, (0, 0))).1, ((a0.getD 2 (0, (0, 0))).2)))).2)), ((f93 (((a0.getD 0 (0, (0, 0))).1, ((a0.getD 0 (0, (0, 0))).2)), ((a0.getD 1 (0, (0, 0))).1, ((a0.getD 1 (0, (0, 0))).2)))).1, ((f93 (((a0.getD 0 (0, (0, 0))).1, ((a0.getD 0 (0, (0, 0))).2)), ((a0.getD 1 (0, (0, 0))).1, ((a0.getD 1 (0, (0, 0))).2)))).2)))))), (f36 (((f93 (((a0.getD 2 (0, (0, 0))).1, ((a0.getD 2 (0, (0, 0))).2)), ((a0.getD 0 (0, (0, 0))).1, ((a0.getD 0 (0, (0, 0))).2)))).1, ((f93 (((a0.getD 2 (0, (0, 0))).1, ((a0.getD 2 (0, (0, 0))).2)), ((a0.getD 0 (0, (0, 0))).1, ((a0.getD 0 (0, (0, 0))).2)))).2)), ((f93 (((a0.getD 0 (0, (0, 0))).1, ((a0.getD 0 (0, (0, 0))).2)), ((a0.getD 1 (0, (0, 0))).1, ((a0.getD 1 (0, (0, 0))).2)))).1, ((f93 (((a0.getD 0 (0, (0, 0))).1, ((a0.getD 0 (0, (0, 0))).2)), ((a0.getD 1 (0, (0, 0))).1, ((a0.getD 1 (0, (0, 0))).2)))).2)))))), (f36 (((f93 (((a0.getD 0 (0, (0, 0))).1, ((a0.getD 0 (0, (0, 0))).2)), ((a0.getD 1 (0, (0, 0))).1, ((a0.getD 1 (0, (0, 0))).2)))).1, ((f93 (((a0.getD 0 (0, (0, 0))).1, ((a0.getD 0 (0, (0, 0))).2)), ((a0.getD 1 (0, (0, 0))).1, ((a0.getD 1 (0, (0, 0))).2)))).2)), ((f93 (((a0.getD 0 (0, (0, 0))).1, ((a0.getD 0 (0, (0, 0))).2)), ((a0.getD 1 (0, (0, 0))).1, ((a0.getD 1 (0, (0, 0))).2)))).1, ((f93 (((a0.getD 0 (0, (0, 0))).1, ((a0.getD 0 (0, (0, 0))).2)), ((a0.getD 1 (0, (0, 0))).1, ((a0.getD 1 (0, (0, 0))).2)))).2)))))) = 0)))
    (K (([(IntKind.i64.wrap ((f36 (((f93 (((a0.getD 1 (0, (0, 0))).1, ((a0.getD 1 (0, (0, 0))).2)), ((a0.getD 2 (0, (0, 0))).1, ((a0.getD 2 (0, (0, 0))).2)))).1, ((f93 (((a0.getD 1 (0, (0, 0))).1, ((a0.getD 1 (0, (0, 0))).2)), ((a0.getD 2 (0, (0, 0))).1, ((a0.getD 2 (0, (0, 0))).2)))).2)), ((f93 (((a0.getD 0 (0, (0, 0))).1, ((a0.getD 0 (0, (0, 0))).2)), ((a0.getD 1 (0, (0, 0))).1, ((a0.getD 1 (0, (0, 0))).2)))).1, ((f93 (((a0.getD 0 (0, (0, 0))).1, ((a0.getD 0 (0, (0, 0))).2)), ((a0.getD 1 (0, (0, 0))).1, ((a0.getD 1 (0, (0, 0))).2)))).2)))).tdiv (f94 ((f94 ((f94 (0, (f36 (((f93 (((a0.getD 1 (0, (0, 0))).1, ((a0.getD 1 (0, (0, 0))).2)), ((a0.getD 2 (0, (0, 0))).1, ((a0.getD 2 (0, (0, 0))).2)))).1, ((f93 (((a0.getD 1 (0, (0, 0))).1, ((a0.getD 1 (0, (0, 0))).2)), ((a0.getD 2 (0, (0, 0))).1, ((a0.getD 2 (0, (0, 0))).2)))).2)), ((f93 (((a0.getD 0 (0, (0, 0))).1, ((a0.getD 0 (0, (0, 0))).2)), ((a0.getD 1 (0, (0, 0))).1, ((a0.getD 1 (0, (0, 0))).2)))).1, ((f93 (((a0.getD 0 (0, (0, 0))).1, ((a0.getD 0 (0, (0, 0))).2)), ((a0.getD 1 (0, (0, 0))).1, ((a0.getD 1 (0, (0, 0))).2)))).2)))))), (f36 (((f93 (((a0.getD 2 (0, (0, 0))).1, ((a0.getD 2 (0, (0, 0))).2)), ((a0.getD 0 (0, (0, 0))).1, ((a0.getD 0 (0, (0, 0))).2)))).1, ((f93 (((a0.getD 2 (0, (0, 0))).1, ((a0.getD 2 (0, (0, 0))).2)), ((a0.getD 0 (0, (0, 0))).1, ((a0.getD 0 (0, (0, 0))).2)))).2)), ((f93 (((a0.getD 0 (0, (0, 0))).1, ((a0.getD 0 (0, (0, 0))).2)), ((a0.getD 1 (0, (0, 0))).1, ((a0.getD 1 (0, (0, 0))).2)))).1, ((f93 (((a0.getD 0 (0, (0, 0))).1, ((a0.getD 0 (0, (0, 0))).2)), ((a0.getD 1 (0, (0, 0))).1, ((a0.getD 1 (0, (0, 0))).2)))).2)))))), (f36 (((f93 (((a0.getD 0 (0, (0, 0))).1, ((a0.getD 0 (0, (0, 0))).2)), ((a0.getD 1 (0, (0, 0))).1, ((a0.getD 1 (0, (0, 0))).2)))).1, ((f93 (((a0.getD 0 (0, (0, 0))).1, ((a0.getD 0 (0, (0, 0))).2)), ((a0.getD 1 (0, (0, 0))).1, ((a0.getD 1 (0, (0, 0))).2)))).2)), ((f93 (((a0.getD 0 (0, (0, 0))).1, ((a0.getD 0 (0, (0, 0))).2)), ((a0.getD 1 (0, (0, 0))).1, ((a0.getD 1 (0, (0, 0))).2)))).1, ((f93 (((a0.getD 0 (0, (0, 0))).1, ((a0.getD 0 (0, (0, 0))).2)), ((a0.getD 1 (0, (0, 0))).1, ((a0.getD 1 (0, (0, 0))).2)))).2)))))))), (IntKind.i64.wrap ((f36 (((f93 (((a0.getD 2 (0, (0, 0))).1, ((a0.getD 2 (0, (0, 0))).2)), ((a0.getD 0 (0, (0, 0))).1, ((a0.getD 0 (0, (0, 0))).2)))).1, ((f93 (((a0.getD 2 (0, (0, 0))).1, ((a0.getD 2 (0, (0, 0))).2)), ((a0.getD 0 (0, (0, 0))).1, ((a0.getD 0 (0, (0, 0))).2)))).2)), ((f93 (((a0.getD 0 (0, (0, 0))).1, ((a0.getD 0 (0, (0, 0))).2)), ((a0.getD 1 (0, (0, 0))).1, ((a0.getD 1 (0, (0, 0))).2)))).1, ((f93 (((a0.getD 0 (0, (0, 0))).1, ((a0.getD 0 (0, (0, 0))).2)), ((a0.getD 1 (0, (0, 0))).1, ((a0.getD 1 (0, (0, 0))).2)))).2)))).tdiv (f94 ((f94 ((f94 (0, (f36 (((f93 (((a0.getD 1 (0, (0, 0))).1, ((a0.getD 1 (0, (0, 0))).2)), ((a0.getD 2 (0, (0, 0))).1, ((a0.getD 2 (0, (0, 0))).2)))).1, ((f93 (((a0.getD 1 (0, (0, 0))).1, ((a0.getD 1 (0, (0, 0))).2)), ((a0.getD 2 (0, (0, 0))).1, ((a0.getD 2 (0, (0, 0))).2)))).2)), ((f93 (((a0.getD 0 (0, (0, 0))).1, ((a0.getD 0 (0, (0, 0))).2)), ((a0.getD 1 (0, (0, 0))).1, ((a0.getD 1 (0, (0, 0))).2)))).1, ((f93 (((a0.getD 0 (0, (0, 0))).1, ((a0.getD 0 (0, (0, 0))).2)), ((a0.getD 1 (0, (0, 0))).1, ((a0.getD 1 (0, (0, 0))).2)))).2)))))), (f36 (((f93 (((a0.getD 2 (0, (0, 0))).1, ((a0.getD 2 (0, (0, 0))).2)), ((a0.getD 0 (0, (0, 0))).1, ((a0.getD 0 (0, (0, 0))).2)))).1, ((f93 (((a0.getD 2 (0, (0, 0))).1, ((a0.getD 2 (0, (0, 0))).2)), ((a0.getD 0 (0, (0, 0))).1, ((a0.getD 0 (0, (0, 0))).2)))).2)), ((f93 (((a0.getD 0 (0, (0, 0))).1, ((a0.getD 0 (0, (0, 0))).2)), ((a0.getD 1 (0, (0, 0))).1, ((a0.getD 1 (0, (0, 0))).2)))).1, ((f93 (((a0.getD 0 (0, (0, 0))).1, ((a0.getD 0 (0, (0, 0))).2)), ((a0.getD 1 (0, (0, 0))).1, ((a0.getD 1 (0, (0, 0))).2)))).2)))))), (f36 (((f93 (((a0.getD 0 (0, (0, 0))).1, ((a0.getD 0 (0, (0, 0))).2)), ((a0.getD 1 (0, (0, 0))).1, ((a0.getD 1 (0, (0, 0))).2)))).1, ((f93 (((a0.getD 0 (0, (0, 0))).1, ((a0.getD 0 (0, (0, 0))).2)), ((a0.getD 1 (0, (0, 0))).1, ((a0.getD 1 (0, (0, 0))).2)))).2)), ((f93 (((a0.getD 0 (0, (0, 0))).1, ((a0.getD 0 (0, (0, 0))).2)), ((a0.getD 1 (0, (0, 0))).1, ((a0.getD 1 (0, (0, 0))).2)))).1, ((f93 (((a0.getD 0 (0, (0, 0))).1, ((a0.getD 0 (0, (0, 0))).2)), ((a0.getD 1 (0, (0, 0))).1, ((a0.getD 1 (0, (0, 0))).2)))).2)))))))), (IntKind.i64.wrap ((f36 (((f93 (((a0.getD 0 (0, (0, 0))).1, ((a0.getD 0 (0, (0, 0))).2)), ((a0.getD 1 (0, (0, 0))).1, ((a0.getD 1 (0, (0, 0))).2)))).1, ((f93 (((a0.getD 0 (0, (0, 0))).1, ((a0.getD 0 (0, (0, 0))).2)), ((a0.getD 1 (0, (0, 0))).1, ((a0.getD 1 (0, (0, 0))).2)))).2)), ((f93 (((a0.getD 0 (0, (0, 0))).1, ((a0.getD 0 (0, (0, 0))).2)), ((a0.getD 1 (0, (0, 0))).1, ((a0.getD 1 (0, (0, 0))).2)))).1, ((f93 (((a0.getD 0 (0, (0, 0))).1, ((a0.getD 0 (0, (0, 0))).2)), ((a0.getD 1 (0, (0, 0))).1, ((a0.getD 1 (0, (0, 0))).2)))).2)))).tdiv (f94 ((f94 ((f94 (0, (f36 (((f93 (((a0.getD 1 (0, (0, 0))).1, ((a0.getD 1 (0, (0, 0))).2)), ((a0.getD 2 (0, (0, 0))).1, ((a0.getD 2 (0, (0, 0))).2)))).1, ((f93 (((a0.getD 1 (0, (0, 0))).1, ((a0.getD 1 (0, (0, 0))).2)), ((a0.getD 2 (0, (0, 0))).1, ((a0.getD 2 (0, (0, 0))).2)))).2)), ((f93 (((a0.getD 0 (0, (0, 0))).1, ((a0.getD 0 (0, (0, 0))).2)), ((a0.getD 1 (0, (0, 0))).1, ((a0.getD 1 (0, (0, 0))).2)))).1, ((f93 (((a0.getD 0 (0, (0, 0))).1, ((a0.getD 0 (0, (0, 0))).2)), ((a0.getD 1 (0, (0, 0))).1, ((a0.getD 1 (0, (0, 0))).2)))).2)))))), (f36 (((f93 (((a0.getD 2 (0, (0, 0))).1, ((a0.getD 2 (0, (0, 0))).2)), ((a0.getD 0 (0, (0, 0))).1, ((a0.getD 0 (0, (0, 0))).2)))).1, ((f93 (((a0.getD 2 (0, (0, 0))).1, ((a0.getD 2 (0, (0, 0))).2)), ((a0.getD 0 (0, (0, 0))).1, ((a0.getD 0 (0, (0, 0))).2)))).2)), ((f93 (((a0.getD 0 (0, (0, 0))).1, ((a0.getD 0 (0, (0, 0))).2)), ((a0.getD 1 (0, (0, 0))).1, ((a0.getD 1 (0, (0, 0))).2)))).1, ((f93 (((a0.getD 0 (0, (0, 0))).1, ((a0.getD 0 (0, (0, 0))).2)), ((a0.getD 1 (0, (0, 0))).1, ((a0.getD 1 (0, (0, 0))).2)))).2)))))), (f36 (((f93 (((a0.getD 0 (0, (0, 0))).1, ((a0.getD 0 (0, (0, 0))).2)), ((a0.getD 1 (0, (0, 0))).1, ((a0.getD 1 (0, (0, 0))).2)))).1, ((f93 (((a0.getD 0 (0, (0, 0))).1, ((a0.getD 0 (0, (0, 0))).2)), ((a0.getD 1 (0, (0, 0))).1, ((a0.getD 1 (0, (0, 0))).2)))).2)), ((f93 (((a0.getD 0 (0, (0, 0))).1, ((a0.getD 0 (0, (0, 0))).2)), ((a0.getD 1 (0, (0, 0))).1, ((a0.getD 1 (0, (0, 0))).2)))).1, ((f93 (((a0.getD 0 (0, (0, 0))).1, ((a0.getD 0 (0, (0, 0))).2)), ((a0.getD 1 (0, (0, 0))).1, ((a0.getD 1 (0, (0, 0))).2)))).2))))))))] : List Int), true))
    False)
    False)
    False))
    False)
    False)
    False)
    False)
    False)
    False)
    False)
    False)
    (br (decide (0 ≤ 1) && decide (1 < ((a0.length) : Int)))
    (br (decide (0 ≤ 2) && decide (2 < ((a0.length) : Int)))
    (br (decide (0 ≤ 3) && decide (3 < ((a0.length) : Int)))
    (br (decide (0 ≤ 0) && decide (0 < ((a0.length) : Int)))
    (br (decide (0 ≤ 2) && decide (2 < ((a0.length) : Int)))
    (br (decide (0 ≤ 3) && decide (3 < ((a0.length) : Int)))
    (br (decide (0 ≤ 0) && decide (0 < ((a0.length) : Int)))
    (br (decide (0 ≤ 1) && decide (1 < ((a0.length) : Int)))
    (br (decide (0 ≤ 3) && decide (3 < ((a0.length) : Int)))
    (br (decide (0 ≤ 0) && decide (0 < ((a0.length) : Int)))
    (br (decide (0 ≤ 1) && decide (1 < ((a0.length) : Int)))
    (br (decide (0 ≤ 2) && decide (2 < ((a0.length) : Int)))
    (f94_pre (0, (f72 (((a0.getD 1 (0, (0, 0))).1, ((a0.getD 1 (0, (0, 0))).2)), (((a0.getD 2 (0, (0, 0))).1, ((a0.getD 2 (0, (0, 0))).2)), ((a0.getD 3 (0, (0, 0))).1, ((a0.getD 3 (0, (0, 0))).2)))))) ∧
    f94_pre ((f94 (0, (f72 (((a0.getD 1 (0, (0, 0))).1, ((a0.getD 1 (0, (0, 0))).2)), (((a0.getD 2 (0, (0, 0))).1, ((a0.getD 2 (0, (0, 0))).2)), ((a0.getD 3 (0, (0, 0))).1, ((a0.getD 3 (0, (0, 0))).2))))))), (IntKind.i64.wrap (0 - (f72 (((a0.getD 0 (0, (0, 0))).1, ((a0.getD 0 (0, (0, 0))).2)), (((a0.getD 2 (0, (0, 0))).1, ((a0.getD 2 (0, (0, 0))).2)), ((a0.getD 3 (0, (0, 0))).1, ((a0.getD 3 (0, (0, 0))).2)))))))) ∧
    f94_pre ((f94 ((f94 (0, (f72 (((a0.getD 1 (0, (0, 0))).1, ((a0.getD 1 (0, (0, 0))).2)), (((a0.getD 2 (0, (0, 0))).1, ((a0.getD 2 (0, (0, 0))).2)), ((a0.getD 3 (0, (0, 0))).1, ((a0.getD 3 (0, (0, 0))).2))))))), (IntKind.i64.wrap (0 - (f72 (((a0.getD 0 (0, (0, 0))).1, ((a0.getD 0 (0, (0, 0))).2)), (((a0.getD 2 (0, (0, 0))).1, ((a0.getD 2 (0, (0, 0))).2)), ((a0.getD 3 (0, (0, 0))).1, ((a0.getD 3 (0, (0, 0))).2))))))))), (f72 (((a0.getD 0 (0, (0, 0))).1, ((a0.getD 0 (0, (0, 0))).2)), (((a0.getD 1 (0, (0, 0))).1, ((a0.getD 1 (0, (0, 0))).2)), ((a0.getD 3 (0, (0, 0))).1, ((a0.getD 3 (0, (0, 0))).2)))))) ∧
    f94_pre ((f94 ((f94 ((f94 (0, (f72 (((a0.getD 1 (0, (0, 0))).1, ((a0.getD 1 (0, (0, 0))).2)), (((a0.getD 2 (0, (0, 0))).1, ((a0.getD 2 (0, (0, 0))).2)), ((a0.getD 3 (0, (0, 0))).1, ((a0.getD 3 (0, (0, 0))).2))))))), (IntKind.i64.wrap (0 - (f72 (((a0.getD 0 (0, (0, 0))).1, ((a0.getD 0 (0, (0, 0))).2)), (((a0.getD 2 (0, (0, 0))).1, ((a0.getD 2 (0, (0, 0))).2)), ((a0.getD 3 (0, (0, 0))).1, ((a0.getD 3 (0, (0, 0))).2))))))))), (f72 (((a0.getD 0 (0, (0, 0))).1, ((a0.getD 0 (0, (0, 0))).2)), (((a0.getD 1 (0, (0, 0))).1, ((a0.getD 1 (0, (0, 0))).2)), ((a0.getD 3 (0, (0, 0))).1, ((a0.getD 3 (0, (0, 0))).2))))))), (IntKind.i64.wrap (0 - (f72 (((a0.getD 0 (0, (0, 0))).1, ((a0.getD 0 (0, (0, 0))).2)), (((a0.getD 1 (0, (0, 0))).1, ((a0.getD 1 (0, (0, 0))).2)), ((a0.getD 2 (0, (0, 0))).1, ((a0.getD 2 (0, (0, 0))).2)))))))) ∧
    br (decide ((f72 (((a0.getD 1 (0, (0, 0))).1, ((a0.getD 1 (0, (0, 0))).2)), (((a0.getD 2 (0, (0, 0))).1, ((a0.getD 2 (0, (0, 0))).2)), ((a0.getD 3 (0, (0, 0))).1, ((a0.getD 3 (0, (0, 0))).2))))) < 0))
    (br (!(decide ((IntKind.i64.wrap (0 - (f94 ((f94 ((f94 ((f94 (0, (f72 (((a0.getD 1 (0, (0, 0))).1, ((a0.getD 1 (0, (0, 0))).2)), (((a0.getD 2 (0, (0, 0))).1, ((a0.getD 2 (0, (0, 0))).2)), ((a0.getD 3 (0, (0, 0))).1, ((a0.getD 3 (0, (0, 0))).2))))))), (IntKind.i64.wrap (0 - (f72 (((a0.getD 0 (0, (0, 0))).1, ((a0.getD 0 (0, (0, 0))).2)), (((a0.getD 2 (0, (0, 0))).1, ((a0.getD 2 (0, (0, 0))).2)), ((a0.getD 3 (0, (0, 0))).1, ((a0.getD 3 (0, (0, 0))).2))))))))), (f72 (((a0.getD 0 (0, (0, 0))).1, ((a0.getD 0 (0, (0, 0))).2)), (((a0.getD 1 (0, (0, 0))).1, ((a0.getD 1 (0, (0, 0))).2)), ((a0.getD 3 (0, (0, 0))).1, ((a0.getD 3 (0, (0, 0))).2))))))), (IntKind.i64.wrap (0 - (f72 (((a0.getD 0 (0, (0, 0))).1, ((a0.getD 0 (0, (0, 0))).2)), (((a0.getD 1 (0, (0, 0))).1, ((a0.getD 1 (0, (0, 0))).2)), ((a0.getD 2 (0, (0, 0))).1, ((a0.getD 2 (0, (0, 0))).2))))))))))) = 0)))
    (br (!(decide ((IntKind.i64.wrap (0 - (f94 ((f94 ((f94 ((f94 (0, (f72 (((a0.getD 1 (0, (0, 0))).1, ((a0.getD 1 (0, (0, 0))).2)), (((a0.getD 2 (0, (0, 0))).1, ((a0.getD 2 (0, (0, 0))).2)), ((a0.getD 3 (0, (0, 0))).1, ((a0.getD 3 (0, (0, 0))).2))))))), (IntKind.i64.wrap (0 - (f72 (((a0.getD 0 (0, (0, 0))).1, ((a0.getD 0 (0, (0, 0))).2)), (((a0.getD 2 (0, (0, 0))).1, ((a0.getD 2 (0, (0, 0))).2)), ((a0.getD 3 (0, (0, 0))).1, ((a0.getD 3 (0, (0, 0))).2))))))))), (f72 (((a0.getD 0 (0, (0, 0))).1, ((a0.getD 0 (0, (0, 0))).2)), (((a0.getD 1 (0, (0, 0))).1, ((a0.getD 1 (0, (0, 0))).2)), ((a0.getD 3 (0, (0, 0))).1, ((a0.getD 3 (0, (0, 0))).2))))))), (IntKind.i64.wrap (0 - (f72 (((a0.getD 0 (0, (0, 0))).1, ((a0.getD 0 (0, (0, 0))).2)), (((a0.getD 1 (0, (0, 0))).1, ((a0.getD 1 (0, (0, 0))).2)), ((a0.getD 2 (0, (0, 0))).1, ((a0.getD 2 (0, (0, 0))).2))))))))))) = 0)))
    (br (!(decide ((IntKind.i64.wrap (0 - (f94 ((f94 ((f94 ((f94 (0, (f72 (((a0.getD 1 (0, (0, 0))).1, ((a0.getD 1 (0, (0, 0))).2)), (((a0.getD 2 (0, (0, 0))).1, ((a0.getD 2 (0, (0, 0))).2)), ((a0.getD 3 (0, (0, 0))).1, ((a0.getD 3 (0, (0, 0))).2))))))), (IntKind.i64.wrap (0 - (f72 (((a0.getD 0 (0, (0, 0))).1, ((a0.getD 0 (0, (0, 0))).2)), (((a0.getD 2 (0, (0, 0))).1, ((a0.getD 2 (0, (0, 0))).2)), ((a0.getD 3 (0, (0, 0))).1, ((a0.getD 3 (0, (0, 0))).2))))))))), (f72 (((a0.getD 0 (0, (0, 0))).1, ((a0.getD 0 (0, (0, 0))).2)), (((a0.getD 1 (0, (0, 0))).1, ((a0.getD 1 (0, (0, 0))).2)), ((a0.getD 3 (0, (0, 0))).1, ((a0.getD 3 (0, (0, 0))).2))))))), (IntKind.i64.wrap (0 - (f72 (((a0.getD 0 (0, (0, 0))).1, ((a0.getD 0 (0, (0, 0))).2)), (((a0.getD 1 (0, (0, 0))).1, ((a0.getD 1 (0, (0, 0))).2)), ((a0.getD 2 (0, (0, 0))).1, ((a0.getD 2 (0, (0, 0))).2))))))))))) = 0)))
    (br (!(decide ((IntKind.i64.wrap (0 - (f94 ((f94 ((f94 ((f94 (0, (f72 (((a0.getD 1 (0, (0, 0))).1, ((a0.getD 1 (0, (0, 0))).2)), (((a0.getD 2 (0, (0, 0))).1, ((a0.getD 2 (0, (0, 0))).2)), ((a0.getD 3 (0, (0, 0))).1, ((a0.getD 3 (0, (0, 0))).2))))))), (IntKind.i64.wrap (0 - (f72 (((a0.getD 0 (0, (0, 0))).1, ((a0.getD 0 (0, (0, 0))).2)), (((a0.getD 2 (0, (0, 0))).1, ((a0.getD 2 (0, (0, 0))).2)), ((a0.getD 3 (0, (0, 0))).1, ((a0.getD 3 (0, (0, 0))).2))))))))), (f72 (((a0.getD 0 (0, (0, 0))).1, ((a0.getD 0 (0, (0, 0))).2)), (((a0.getD 1 (0, (0, 0))).1, ((a0.getD 1 (0, (0, 0))).2)), ((a0.getD 3 (0, (0, 0))).1, ((a0.getD 3 (0, (0, 0))).2))))))), (IntKind.i64.wrap (0 - (f72 (((a0.getD 0 (0, (0, 0))).1, ((a0.getD 0 (0, (0, 0))).2)), (((a0.getD 1 (0, (0, 0))).1, ((a0.getD 1 (0, (0, 0))).2)), ((a0.getD 2 (0, (0, 0))).1, ((a0.getD 2 (0, (0, 0))).2))))))))))) = 0)))
    (K (([(IntKind.i64.wrap ((f72 (((a0.getD 1 (0, (0, 0))).1, ((a0.getD 1 (0, (0, 0))).2)), (((a0.getD 2 (0, (0, 0))).1, ((a0.getD 2 (0, (0, 0))).2)), ((a0.getD 3 (0, (0, 0))).1, ((a0.getD 3 (0, (0, 0))).2))))).tdiv (IntKind.i64.wrap (0 - (f94 ((f94 ((f94 ((f94 (0, (f72 (((a0.getD 1 (0, (0, 0))).1, ((a0.getD 1 (0, (0, 0))).2)), (((a0.getD 2 (0, (0, 0))).1, ((a0.getD 2 (0, (0, 0))).2)), ((a0.getD 3 (0, (0, 0))).1, ((a0.getD 3 (0, (0, 0))).2))))))), (IntKind.i64.wrap (0 - (f72 (((a0.getD 0 (0, (0, 0))).1, ((a0.getD 0 (0, (0, 0))).2)), (((a0.getD 2 (0, (0, 0))).1, ((a0.getD 2 (0, (0, 0))).2)), ((a0.getD 3 (0, (0, 0))).1, ((a0.getD 3 (0, (0, 0))).2))))))))), (f72 (((a0.getD 0 (0, (0, 0))).1, ((a0.getD 0 (0, (0, 0))).2)), (((a0.getD 1 (0, (0, 0))).1, ((a0.getD 1 (0, (0, 0))).2)), ((a0.getD 3 (0, (0, 0))).1, ((a0.getD 3 (0, (0, 0))).2))))))), (IntKind.i64.wrap (0 - (f72 (((a0.getD 0 (0, (0, 0))).1, ((a0.getD 0 (0, (0, 0))).2)), (((a0.getD 1 (0, (0, 0))).1, ((a0.getD 1 (0, (0, 0))).2)), ((a0.getD 2 (0, (0, 0))).1, ((a0.getD 2 (0, (0, 0))).2))))))))))))), (IntKind.i64.wrap ((IntKind.i64.wrap (0 - (f72 (((a0.getD 0 (0, (0, 0))).1, ((a0.getD 0 (0, (0, 0))).2)), (((a0.getD 2 (0, (0, 0))).1, ((a0.getD 2 (0, (0, 0))).2)), ((a0.getD 3 (0, (0, 0))).1, ((a0.getD 3 (0, (0, 0))).2))))))).tdiv (IntKind.i64.wrap (0 - (f94 ((f94 ((f94 ((f94 (0, (f72 (((a0.getD 1 (0, (0, 0))).1, ((a0.getD 1 (0, (0, 0))).2)), (((a0.getD 2 (0, (0, 0))).1, ((a0.getD 2 (0, (0, 0))).2)), ((a0.getD 3 (0, (0, 0))).1, ((a0.getD 3 (0, (0, 0))).2))))))), (IntKind.i64.wrap (0 - (f72 (((a0.getD 0 (0, (0, 0))).1, ((a0.getD 0 (0, (0, 0))).2)), (((a0.getD 2 (0, (0, 0))).1, ((a0.getD 2 (0, (0, 0))).2)), ((a0.getD 3 (0, (0, 0))).1, ((a0.getD 3 (0, (0, 0))).2))))))))), (f72 (((a0.getD 0 (0, (0, 0))).1, ((a0.getD 0 (0, (0, 0))).2)), (((a0.getD 1 (0, (0, 0))).1, ((a0.getD 1 (0, (0, 0))).2)), ((a0.getD 3 (0, (0, 0))).1, ((a0.getD 3 (0, (0, 0))).2))))))), (IntKind.i64.wrap (0 - (f72 (((a0.getD 0 (0, (0, 0))).1, ((a0.getD 0 (0, (0, 0))).2)), (((a0.getD 1 (0, (0, 0))).1, ((a0.getD 1 (0, (0, 0))).2)), ((a0.getD 2 (0, (0, 0))).1, ((a0.getD 2 (0, (0, 0))).2))))))))))))), (IntKind.i64.wrap ((f72 (((a0.getD 0 (0, (0, 0))).1, ((a0.getD 0 (0, (0, 0))).2)), (((a0.getD 1 (0, (0, 0))).1, ((a0.getD 1 (0, (0, 0))).2)), ((a0.getD 3 (0, (0, 0))).1, ((a0.getD 3 (0, (0, 0))).2))))).tdiv (IntKind.i64.wrap (0 - (f94 ((f94 ((f94 ((f94 (0, (f72 (((a0.getD 1 (0, (0, 0))).1, ((a0.getD 1 (0, (0, 0))).2)), (((a0.getD 2 (0, (0, 0))).1, ((a0.getD 2 (0, (0, 0))).2)), ((a0.getD 3 (0, (0, 0))).1, ((a0.getD 3 (0, (0, 0))).2))))))), (IntKind.i64.wrap (0 - (f72 (((a0.getD 0 (0, (0, 0))).1, ((a0.getD 0 (0, (0, 0))).2)), (((a0.getD 2 (0, (0, 0))).1, ((a0.getD 2 (0, (0, 0))).2)), ((a0.getD 3 (0, (0, 0))).1, ((a0.getD 3 (0, (0, 0))).2))))))))), (f72 (((a0.getD 0 (0, (0, 0))).1, ((a0.getD 0 (0, (0, 0))).2)), (((a0.getD 1 (0, (0, 0))).1, ((a0.getD 1 (0, (0, 0))).2)), ((a0.getD 3 (0, (0, 0))).1, ((a0.getD 3 (0, (0, 0))).2))))))), (IntKind.i64.wrap (0 - (f72 (((a0.getD 0 (0, (0, 0))).1, ((a0.getD 0 (0, (0, 0))).2)), (((a0.getD 1 (0, (0, 0))).1, ((a0.getD 1 (0, (0, 0))).2)), ((a0.getD 2 (0, (0, 0))).1, ((a0.getD 2 (0, (0, 0))).2))))))))))))), (IntKind.i64.wrap ((IntKind.i64.wrap (0 - (f72 (((a0.getD 0 (0, (0, 0))).1, ((a0.getD 0 (0, (0, 0))).2)), (((a0.getD 1 (0, (0, 0))).1, ((a0.getD 1 (0, (0, 0))).2)), ((a0.getD 2 (0, (0, 0))).1, ((a0.getD 2 (0, (0, 0))).2))))))).tdiv (IntKind.i64.wrap (0 - (f94 ((f94 ((f94 ((f94 (0, (f72 (((a0.getD 1 (0, (0, 0))).1, ((a0.getD 1 (0, (0, 0))).2)), (((a0.getD 2 (0, (0, 0))).1, ((a0.getD 2 (0, (0, 0))).2)), ((a0.getD 3 (0, (0, 0))).1, ((a0.getD 3 (0, (0, 0))).2))))))), (IntKind.i64.wrap (0 - (f72 (((a0.getD 0 (0, (0, 0))).1, ((a0.getD 0 (0, (0, 0))).2)), (((a0.getD 2 (0, (0, 0))).1, ((a0.getD 2 (0, (0, 0))).2)), ((a0.getD 3 (0, (0, 0))).1, ((a0.getD 3 (0, (0, 0))).2))))))))), (f72 (((a0.getD 0 (0, (0, 0))).1, ((a0.getD 0 (0, (0, 0))).2)), (((a0.getD 1 (0, (0, 0))).1, ((a0.getD 1 (0, (0, 0))).2)), ((a0.getD 3 (0, (0, 0))).1, ((a0.getD 3 (0, (0, 0))).2))))))), (IntKind.i64.wrap (0 - (f72 (((a0.getD 0 (0, (0, 0))).1, ((a0.getD 0 (0, (0, 0))).2)), (((a0.getD 1 (0, (0, 0))).1, ((a0.getD 1 (0, (0, 0))).2)), ((a0.getD 2 (0, (0, 0))).1, ((a0.getD 2 (0, (0, 0))).2)))))))))))))] : List Int), true))
    False)
    False)
    False)
    False)
    (br (!(decide ((f94 ((f94 ((f94 ((f94 (0, (f72 (((a0.getD 1 (0, (0, 0))).1, ((a0.getD 1 (0, (0, 0))).2)), (((a0.getD 2 (0, (0, 0))).1, ((a0.getD 2 (0, (0, 0))).2)), ((a0.getD 3 (0, (0, 0))).1, ((a0.getD 3 (0, (0, 0))).2))))))), (IntKind.i64.wrap (0 - (f72 (((a0.getD 0 (0, (0, 0))).1, ((a0.getD 0 (0, (0, 0))).2)), (((a0.getD 2 (0, (0, 0))).1, ((a0.getD 2 (0, (0, 0))).2)), ((a0.getD 3 (0, (0, 0))).1, ((a0.getD 3 (0, (0, 0))).2))))))))), (f72 (((a0.getD 0 (0, (0, 0))).1, ((a0.getD 0 (0, (0, 0))).2)), (((a0.getD 1 (0, (0, 0))).1, ((a0.getD 1 (0, (0, 0))).2)), ((a0.getD 3 (0, (0, 0))).1, ((a0.getD 3 (0, (0, 0))).2))))))), (IntKind.i64.wrap (0 - (f72 (((a0.getD 0 (0, (0, 0))).1, ((a0.getD 0 (0, (0, 0))).2)), (((a0.getD 1 (0, (0, 0))).1, ((a0.getD 1 (0, (0, 0))).2)), ((a0.getD 2 (0, (0, 0))).1, ((a0.getD 2 (0, (0, 0))).2))))))))) = 0)))
    (br (!(decide ((f94 ((f94 ((f94 ((f94 (0, (f72 (((a0.getD 1 (0, (0, 0))).1, ((a0.getD 1 (0, (0, 0))).2)), (((a0.getD 2 (0, (0, 0))).1, ((a0.getD 2 (0, (0, 0))).2)), ((a0.getD 3 (0, (0, 0))).1, ((a0.getD 3 (0, (0, 0))).2))))))), (IntKind.i64.wrap (0 - (f72 (((a0.getD 0 (0, (0, 0))).1, ((a0.getD 0 (0, (0, 0))).2)), (((a0.getD 2 (0, (0, 0))).1, ((a0.getD 2 (0, (0, 0))).2)), ((a0.getD 3 (0, (0, 0))).1, ((a0.getD 3 (0, (0, 0))).2))))))))), (f72 (((a0.getD 0 (0, (0, 0))).1, ((a0.getD 0 (0, (0, 0))).2)), (((a0.getD 1 (0, (0, 0))).1, ((a0.getD 1 (0, (0, 0))).2)), ((a0.getD 3 (0, (0, 0))).1, ((a0.getD 3 (0, (0, 0))).2))))))), (IntKind.i64.wrap (0 - (f72 (((a0.getD 0 (0, (0, 0))).1, ((a0.getD 0 (0, (0, 0))).2)), (((a0.getD 1 (0, (0, 0))).1, ((a0.getD 1 (0, (0, 0))).2)), ((a0.getD 2 (0, (0, 0))).1, ((a0.getD 2 (0, (0, 0))).2))))))))) = 0)))
    (br (!(decide ((f94 ((f94 ((f94 ((f94 (0, (f72 (((a0.getD 1 (0, (0, 0))).1, ((a0.getD 1 (0, (0, 0))).2)), (((a0.getD 2 (0, (0, 0))).1, ((a0.getD 2 (0, (0, 0))).2)), ((a0.getD 3 (0, (0, 0))).1, ((a0.getD 3 (0, (0, 0))).2))))))), (IntKind.i64.wrap (0 - (f72 (((a0.getD 0 (0, (0, 0))).1, ((a0.getD 0 (0, (0, 0))).2)), (((a0.getD 2 (0, (0, 0))).1, ((a0.getD 2 (0, (0, 0))).2)), ((a0.getD 3 (0, (0, 0))).1, ((a0.getD 3 (0, (0, 0))).2))))))))), (f72 (((a0.getD 0 (0, (0, 0))).1, ((a0.getD 0 (0, (0, 0))).2)), (((a0.getD 1 (0, (0, 0))).1, ((a0.getD 1 (0, (0, 0))).2)), ((a0.getD 3 (0, (0, 0))).1, ((a0.getD 3 (0, (0, 0))).2))))))), (IntKind.i64.wrap (0 - (f72 (((a0.getD 0 (0, (0, 0))).1, ((a0.getD 0 (0, (0, 0))).2)), (((a0.getD 1 (0, (0, 0))).1, ((a0.getD 1 (0, (0, 0))).2)), ((a0.getD 2 (0, (0, 0))).1, ((a0.getD 2 (0, (0, 0))).2))))))))) = 0)))
    (br (!(decide ((f94 ((f94 ((f94 ((f94 (0, (f72 (((a0.getD 1 (0, (0, 0))).1, ((a0.getD 1 (0, (0, 0))).2)), (((a0.getD 2 (0, (0, 0))).1, ((a0.getD 2 (0, (0, 0))).2)), ((a0.getD 3 (0, (0, 0))).1, ((a0.getD 3 (0, (0, 0))).2))))))), (IntKind.i64.wrap (0 - (f72 (((a0.getD 0 (0, (0, 0))).1, ((a0.getD 0 (0, (0, 0))).2)), (((a0.getD 2 (0, (0, 0))).1, ((a0.getD 2 (0, (0, 0))).2)), ((a0.getD 3 (0, (0, 0))).1, ((a0.getD 3 (0, (0, 0))).2))))))))), (f72 (((a0.getD 0 (0, (0, 0))).1, ((a0.getD 0 (0, (0, 0))).2)), (((a0.getD 1 (0, (0, 0))).1, ((a0.getD 1 (0, (0, 0))).2)), ((a0.getD 3 (0, (0, 0))).1, ((a0.getD 3 (0, (0, 0))).2))))))), (IntKind.i64.wrap (0 - (f72 (((a0.getD 0 (0, (0, 0))).1, ((a0.getD 0 (0, (0, 0))).2)), (((a0.getD 1 (0, (0, 0))).1, ((a0.getD 1 (0, (0, 0))).2)), ((a0.getD 2 (0, (0, 0))).1, ((a0.getD 2 (0, (0, 0))).2))))))))) = 0)))
    (K (([(IntKind.i64.wrap ((f72 (((a0.getD 1 (0, (0, 0))).1, ((a0.getD 1 (0, (0, 0))).2)), (((a0.getD 2 (0, (0, 0))).1, ((a0.getD 2 (0, (0, 0))).2)), ((a0.getD 3 (0, (0, 0))).1, ((a0.getD 3 (0, (0, 0))).2))))).tdiv (f94 ((f94 ((f94 ((f94 (0, (f72 (((a0.getD 1 (0, (0, 0))).1, ((a0.getD 1 (0, (0, 0))).2)), (((a0.getD 2 (0, (0, 0))).1, ((a0.getD 2 (0, (0, 0))).2)), ((a0.getD 3 (0, (0, 0))).1, ((a0.getD 3 (0, (0, 0))).2))))))), (IntKind.i64.wrap (0 - (f72 (((a0.getD 0 (0, (0, 0))).1, ((a0.getD 0 (0, (0, 0))).2)), (((a0.getD 2 (0, (0, 0))).1, ((a0.getD 2 (0, (0, 0))).2)), ((a0.getD 3 (0, (0, 0))).1, ((a0.getD 3 (0, (0, 0))).2))))))))), (f72 (((a0.getD 0 (0, (0, 0))).1, ((a0.getD 0 (0, (0, 0))).2)), (((a0.getD 1 (0, (0, 0))).1, ((a0.getD 1 (0, (0, 0))).2)), ((a0.getD 3 (0, (0, 0))).1, ((a0.getD 3 (0, (0, 0))).2))))))), (IntKind.i64.wrap (0 - (f72 (((a0.getD 0 (0, (0, 0))).1, ((a0.getD 0 (0, (0, 0))).2)), (((a0.getD 1 (0, (0, 0))).1, ((a0.getD 1 (0, (0, 0))).2)), ((a0.getD 2 (0, (0, 0))).1, ((a0.getD 2 (0, (0, 0))).2))))))))))), (IntKind.i64.wrap ((IntKind.i64.wrap (0 - (f72 (((a0.getD 0 (0, (0, 0))).1, ((a0.getD 0 (0, (0, 0))).2)), (((a0.getD 2 (0, (0, 0))).1, ((a0.getD 2 (0, (0, 0))).2)), ((a0.getD 3 (0, (0, 0))).1, ((a0.getD 3 (0, (0, 0))).2))))))).tdiv (f94 ((f94 ((f94 ((f94 (0, (f72 (((a0.getD 1 (0, (0, 0))).1, ((a0.getD 1 (0, (0, 0))).2)), (((a0.getD 2 (0, (0, 0))).1, ((a0.getD 2 (0, (0, 0))).2)), ((a0.getD 3 (0, (0, 0))).1, ((a0.getD 3 (0, (0, 0))).2))))))), (IntKind.i64.wrap (0 - (f72 (((a0.getD 0 (0, (0, 0))).1, ((a0.getD 0 (0, (0, 0))).2)), (((a0.getD 2 (0, (0, 0))).1, ((a0.getD 2 (0, (0, 0))).2)), ((a0.getD 3 (0, (0, 0))).1, ((a0.getD 3 (0, (0, 0))).2))))))))), (f72 (((a0.getD 0 (0, (0, 0))).1, ((a0.getD 0 (0, (0, 0))).2)), (((a0.getD 1 (0, (0, 0))).1, ((a0.getD 1 (0, (0, 0))).2)), ((a0.getD 3 (0, (0, 0))).1, ((a0.getD 3 (0, (0, 0))).2))))))), (IntKind.i64.wrap (0 - (f72 (((a0.getD 0 (0, (0, 0))).1, ((a0.getD 0 (0, (0, 0))).2)), (((a0.getD 1 (0, (0, 0))).1, ((a0.getD 1 (0, (0, 0))).2)), ((a0.getD 2 (0, (0, 0))).1, ((a0.getD 2 (0, (0, 0))).2))))))))))), (IntKind.i64.wrap ((f72 (((a0.getD 0 (0, (0, 0))).1, ((a0.getD 0 (0, (0, 0))).2)), (((a0.getD 1 (0, (0, 0))).1, ((a0.getD 1 (0, (0, 0))).2)), ((a0.getD 3 (0, (0, 0))).1, ((a0.getD 3 (0, (0, 0))).2))))).tdiv (f94 ((f94 ((f94 ((f94 (0, (f72 (((a0.getD 1 (0, (0, 0))).1, ((a0.getD 1 (0, (0, 0))).2)), (((a0.getD 2 (0, (0, 0))).1, ((a0.getD 2 (0, (0, 0))).2)), ((a0.getD 3 (0, (0, 0))).1, ((a0.getD 3 (0, (0, 0))).2))))))), (IntKind.i64.wrap (0 - (f72 (((a0.getD 0 (0, (0, 0))).1, ((a0.getD 0 (0, (0, 0))).2)), (((a0.getD 2 (0, (0, 0))).1, ((a0.getD 2 (0, (0, 0))).2)), ((a0.getD 3 (0, (0, 0))).1, ((a0.getD 3 (0, (0, 0))).2))))))))), (f72 (((a0.getD 0 (0, (0, 0))).1, ((a0.getD 0 (0, (0, 0))).2)), (((a0.getD 1 (0, (0, 0))).1, ((a0.getD 1 (0, (0, 0))).2)), ((a0.getD 3 (0, (0, 0))).1, ((a0.getD 3 (0, (0, 0))).2))))))), (IntKind.i64.wrap (0 - (f72 (((a0.getD 0 (0, (0, 0))).1, ((a0.getD 0 (0, (0, 0))).2)), (((a0.getD 1 (0, (0, 0))).1, ((a0.getD 1 (0, (0, 0))).2)), ((a0.getD 2 (0, (0, 0))).1, ((a0.getD 2 (0, (0, 0))).2))))))))))), (IntKind.i64.wrap ((IntKind.i64.wrap (0 - (f72 (((a0.getD 0 (0, (0, 0))).1, ((a0.getD 0 (0, (0, 0))).2)), (((a0.getD 1 (0, (0, 0))).1, ((a0.getD 1 (0, (0, 0))).2)), ((a0.getD 2 (0, (0, 0))).1, ((a0.getD 2 (0, (0, 0))).2))))))).tdiv (f94 ((f94 ((f94 ((f94 (0, (f72 (((a0.getD 1 (0, (0, 0))).1, ((a0.getD 1 (0, (0, 0))).2)), (((a0.getD 2 (0, (0, 0))).1, ((a0.getD 2 (0, (0, 0))).2)), ((a0.getD 3 (0, (0, 0))).1, ((a0.getD 3 (0, (0, 0))).2))))))), (IntKind.i64.wrap (0 - (f72 (((a0.getD 0 (0, (0, 0))).1, ((a0.getD 0 (0, (0, 0))).2)), (((a0.getD 2 (0, (0, 0))).1, ((a0.getD 2 (0, (0, 0))).2)), ((a0.getD 3 (0, (0, 0))).1, ((a0.getD 3 (0, (0, 0))).2))))))))), (f72 (((a0.getD 0 (0, (0, 0))).1, ((a0.getD 0 (0, (0, 0))).2)), (((a0.getD 1 (0, (0, 0))).1, ((a0.getD 1 (0, (0, 0))).2)), ((a0.getD 3 (0, (0, 0))).1, ((a0.getD 3 (0, (0, 0))).2))))))), (IntKind.i64.wrap (0 - (f72 (((a0.getD 0 (0, (0, 0))).1, ((a0.getD 0 (0, (0, 0))).2)), (((a0.getD 1 (0, (0, 0))).1, ((a0.getD 1 (0, (0, 0))).2)), ((a0.getD 2 (0, (0, 0))).1, ((a0.getD 2 (0, (0, 0))).2)))))))))))] : List Int), true))
    False)
    False)
    False)
    False))
    False)
    False)
    False)
    False)
    False)
    False)
    False)
    False)
    False)
    False)
    False)
    False)))
    True))
    True))
    True)
    (fun v1_0 => again (v1_0, ())) v.1) (0, ())) := by kernel_rfl
theorem f90_t (a0 : List (Int × Int × Int)) (hpre : f90_pre a0) (K : (List Int × Bool) → Prop) (hK : ∀ y : List Int × Bool, y = f90 a0 → K y) : RunF Tryz.prog f90_E f90_A 6 Tryz.f90 f90_e.doms f90_e.cods a0 K := by
  refine ⟨?_⟩
  rw [f90_run a0 K]
  obtain ⟨h2, h4, hD⟩ := hpre
  have e0 : f90 a0 = facR a0 := rfl
  have e29 : ∀ l, f29 l = rkR l := fun _ => rfl
  obtain ⟨yes, no⟩ := fac_is hD h2 h4
  have wl : IntKind.i64.wrap ((a0.length : Int) - 1) = (a0.length : Int) - 1 := wr (by omega) (by omega)
  simp only [e29]
  rw [wl]
  refine LoopP.up (a0.length : Int) (fun i _ => ∀ j, j < i.toNat → rkR (a0.eraseIdx j) = (a0.length : Int) - 1) (fun again i v hi0 hin hI hag => ?_) (by omega) (fun j hj => by simp at hj)
  obtain ⟨k, rfl⟩ := Int.eq_ofNat_of_zero_le hi0
  rw [Int.toNat_natCast] at hI
  dsimp only
  refine br_weak (br_if (fun hlt => ?_) fun hge => ?_)
  · have hk : k < a0.length := by omega
    have wk : IntKind.i64.wrap ((k : Int) + 1) = ((k + 1 : Nat) : Int) := by rw [wr (by omega) (by omega)]; omega
    simp only [wk, Int.toNat_natCast]
    have ee : [] ++ (a0.take k).drop 0 ++ (a0.take a0.length).drop (k + 1) = a0.eraseIdx k := by
      rw [List.take_of_length_le (Nat.le_refl _), List.eraseIdx_eq_take_drop_succ]; simp
    have l1 : ((a0.take k).drop 0).length = k := by simp; omega
    have l2 : ((a0.take a0.length).drop (k + 1)).length = a0.length - (k + 1) := by simp
    refine br_must (by simp; omega) (br_must (roomOk_iff.2 (by rw [l1]; omega)) (br_must (by simp; omega) (br_must (roomOk_iff.2 ?_) (br_weak ?_))))
    · rw [List.length_append, l1, l2]; simp; omega
    · rw [ee]
      refine br_two (fun q => hK _ ?_) fun q => ?_
      · rw [e0, no fun h => bne_iff_ne.1 q (h.1 k hk)]
      · have hh := hag () hlt fun j hj => by
          by_cases e : j = k
          · rw [e]; exact bne_f.1 q
          · exact hI j (by omega)
        exact hh
  have hk : k = a0.length := by omega
  subst hk
  refine br_weak (br_two (fun q => hK _ ?_) fun q => ?_)
  · rw [e0, no fun h => bne_iff_ne.1 q h.2]
  obtain ⟨ey, hnz⟩ := yes ⟨hI, bne_f.1 q⟩
  rw [← e0] at ey
  clear yes no hI q hag
  have fin : K (nrm (rawR a0), true) := hK _ ey.symm
  clear ey hK e0
  have e93 : ∀ x y : V3, V3.le x 9 → V3.le y 9 → f93 (x, y) = cross x y := fun x y hx hy => cr_w hx hy
  have e72 : ∀ x y z : V3, V3.le x 9 → V3.le y 9 → V3.le z 9 → f72 (x, y, z) = det x y z := fun x y z hx hy hz => det_w hx hy hz
  refine br_weak ?_
  match a0, h2, h4, hD, hnz, fin with
  | [a, b], _, _, hD, hnz, fin =>
    have ha := hD.1 a (by simp)
    have hb := hD.1 b (by simp)
    have hz := hD.2 a (by simp)
    obtain ⟨a1, a2, a3⟩ := v3s ha (by omega)
    obtain ⟨b1, b2, b3⟩ := v3s hb (by omega)
    simp only [List.getD_cons_zero, List.getD_cons_succ]
    have w1 : IntKind.i64.wrap (0 - a.1) = -a.1 := Wneg a1
    have w2 : IntKind.i64.wrap (0 - a.2.1) = -a.2.1 := Wneg a2
    have w3 : IntKind.i64.wrap (0 - a.2.2) = -a.2.2 := Wneg a3
    rw [w1, w2, w3]
    have e3 : a.2.2 ≠ 0 → rawR [a, b] = [b.2.2, -a.2.2] := fun h => by show rr2 a b = _; unfold rr2; rw [if_pos h]
    have e2 : ¬ a.2.2 ≠ 0 → a.2.1 ≠ 0 → rawR [a, b] = [b.2.1, -a.2.1] := fun h h' => by show rr2 a b = _; unfold rr2; rw [if_neg h, if_pos h']
    have e1 : ¬ a.2.2 ≠ 0 → ¬ a.2.1 ≠ 0 → rawR [a, b] = [b.1, -a.1] := fun h h' => by show rr2 a b = _; unfold rr2; rw [if_neg h, if_neg h']
    have i0 : (decide ((0 : Int) ≤ 0) && decide ((0 : Int) < (([a, b].length : Nat) : Int))) = true := rfl
    have i1 : (decide ((0 : Int) ≤ 1) && decide ((1 : Int) < (([a, b].length : Nat) : Int))) = true := rfl
    have go3 : a.2.2 ≠ 0 → f94_pre (0, b.2.2) ∧ f94_pre (f94 (0, b.2.2), -a.2.2) ∧ finR K [b.2.2, -a.2.2] b.2.2 (f94 (f94 (0, b.2.2), -a.2.2)) := fun h => by
      rw [e3 h] at fin hnz
      exact fin2 (all_2 b3 (neg_f a3)) hnz fin
    have go2 : ¬ a.2.2 ≠ 0 → a.2.1 ≠ 0 → f94_pre (0, b.2.1) ∧ f94_pre (f94 (0, b.2.1), -a.2.1) ∧ finR K [b.2.1, -a.2.1] b.2.1 (f94 (f94 (0, b.2.1), -a.2.1)) := fun h h' => by
      rw [e2 h h'] at fin hnz
      exact fin2 (all_2 b2 (neg_f a2)) hnz fin
    have go1 : ¬ a.2.2 ≠ 0 → ¬ a.2.1 ≠ 0 → f94_pre (0, b.1) ∧ f94_pre (f94 (0, b.1), -a.1) ∧ finR K [b.1, -a.1] b.1 (f94 (f94 (0, b.1), -a.1)) := fun h h' => by
      rw [e1 h h'] at fin hnz
      exact fin2 (all_2 b1 (neg_f a1)) hnz fin
    refine br_two (fun _ => ?_) fun q => by cases q
    refine br_must i0 (br_two (fun c1 => br_must i1 (br_must i0 (br_must i0 ?_))) fun c1 => br_must i0 ?_)
    · refine br_two (fun c2 => br_must i1 (br_must i0 (br_must i0 ?_))) fun c2 => br_must i0 ?_
      · exact br_two (fun c3 => br_must i1 (br_must i0 (go3 (bne_iff_ne.1 c3)))) fun c3 => go2 (fun hh => hh (bne_f.1 c3)) (bne_iff_ne.1 c2)
      · exact br_two (fun c3 => br_must i1 (br_must i0 (go3 (bne_iff_ne.1 c3)))) fun c3 => go1 (fun hh => hh (bne_f.1 c3)) (fun hh => hh (bne_f.1 c2))
    · refine br_two (fun c2 => br_must i1 (br_must i0 (br_must i0 ?_))) fun c2 => br_must i0 ?_
      · exact br_two (fun c3 => br_must i1 (br_must i0 (go3 (bne_iff_ne.1 c3)))) fun c3 => go2 (fun hh => hh (bne_f.1 c3)) (bne_iff_ne.1 c2)
      · exact br_two (fun c3 => br_must i1 (br_must i0 (go3 (bne_iff_ne.1 c3)))) fun c3 => by
          rcases v3_ne hz with k | k | k
          · exact absurd (bne_f.1 c1) k
          · exact absurd (bne_f.1 c2) k
          · exact absurd (bne_f.1 c3) k
  | [a, b, c], _, _, hD, hnz, fin =>
    have ha := hD.1 a (by simp)
    have hb := hD.1 b (by simp)
    have hc := hD.1 c (by simp)
    simp only [List.getD_cons_zero, List.getD_cons_succ]
    rw [show f93 (b, c) = cross b c from e93 b c hb hc, show f93 (c, a) = cross c a from e93 c a hc ha, show f93 (a, b) = cross a b from e93 a b ha hb]
    have e36 : ∀ x y : V3, V3.le x 162 → V3.le y 162 → f36 (x, y) = dot x y ∧ Fit (dot x y) := fun x y hx hy => by
      have := dot_le hx hy
      have hf : Fit (dot x y) := fit_le this (by omega)
      exact ⟨w64_fit hf, hf⟩
    obtain ⟨q1, r1⟩ := e36 (cross b c) (cross a b) (cross_le hb hc) (cross_le ha hb)
    obtain ⟨q2, r2⟩ := e36 (cross c a) (cross a b) (cross_le hc ha) (cross_le ha hb)
    obtain ⟨q3, r3⟩ := e36 (cross a b) (cross a b) (cross_le ha hb) (cross_le ha hb)
    rw [show f36 (((cross b c).1, (cross b c).2), ((cross a b).1, (cross a b).2)) = _ from q1, show f36 (((cross c a).1, (cross c a).2), ((cross a b).1, (cross a b).2)) = _ from q2, show f36 (((cross a b).1, (cross a b).2), ((cross a b).1, (cross a b).2)) = _ from q3]
    have i0 : (decide ((0 : Int) ≤ 0) && decide ((0 : Int) < (([a, b, c].length : Nat) : Int))) = true := rfl
    have i1 : (decide ((0 : Int) ≤ 1) && decide ((1 : Int) < (([a, b, c].length : Nat) : Int))) = true := rfl
    have i2 : (decide ((0 : Int) ≤ 2) && decide ((2 : Int) < (([a, b, c].length : Nat) : Int))) = true := rfl
    refine br_two (fun q => by cases q) fun _ => br_two (fun _ => ?_) fun q => by cases q
    refine br_must i0 (br_must i1 (br_must i1 (br_must i2 (br_must i2 (br_must i0 (br_must i0 (br_must i1 ?_)))))))
    exact fin3 (all_3 r1 r2 r3) hnz fin
  | [a, b, c, d], _, _, hD, hnz, fin =>
    have ha := hD.1 a (by simp)
    have hb := hD.1 b (by simp)
    have hc := hD.1 c (by simp)
    have hd := hD.1 d (by simp)
    have f1 : Fit (det b c d) := fit_le (det_le hb hc hd) (by omega)
    have f2 : Fit (det a c d) := fit_le (det_le ha hc hd) (by omega)
    have f3 : Fit (det a b d) := fit_le (det_le ha hb hd) (by omega)
    have f4 : Fit (det a b c) := fit_le (det_le ha hb hc) (by omega)
    simp only [List.getD_cons_zero, List.getD_cons_succ]
    rw [show f72 (b, c, d) = det b c d from e72 b c d hb hc hd, show f72 (a, c, d) = det a c d from e72 a c d ha hc hd, show f72 (a, b, d) = det a b d from e72 a b d ha hb hd, show f72 (a, b, c) = det a b c from e72 a b c ha hb hc, show IntKind.i64.wrap (0 - det a c d) = _ from Wneg f2, show IntKind.i64.wrap (0 - det a b c) = _ from Wneg f4]
    have i0 : (decide ((0 : Int) ≤ 0) && decide ((0 : Int) < (([a, b, c, d].length : Nat) : Int))) = true := rfl
    have i1 : (decide ((0 : Int) ≤ 1) && decide ((1 : Int) < (([a, b, c, d].length : Nat) : Int))) = true := rfl
    have i2 : (decide ((0 : Int) ≤ 2) && decide ((2 : Int) < (([a, b, c, d].length : Nat) : Int))) = true := rfl
    have i3 : (decide ((0 : Int) ≤ 3) && decide ((3 : Int) < (([a, b, c, d].length : Nat) : Int))) = true := rfl
    refine br_two (fun q => by cases q) fun _ => br_two (fun q => by cases q) fun _ => ?_
    refine br_must i1 (br_must i2 (br_must i3 (br_must i0 (br_must i2 (br_must i3 (br_must i0 (br_must i1 (br_must i3 (br_must i0 (br_must i1 (br_must i2 ?_)))))))))))
    exact fin4 (all_4 f1 (neg_f f2) f3 (neg_f f4)) hnz fin
theorem f90_fn : f90_e.fn = f90 := rfl
theorem f90_ok : EntryOK Tryz.prog 90 f90_e := by
  refine entryF progOK (EnvOK.cons f29_ok (EnvOK.cons f36_ok (EnvOK.cons f72_ok (EnvOK.cons f93_ok (EnvOK.cons f94_ok (EnvOK.nil)))))) (A := f90_A) (d := 6) Tryz.func90 rfl rfl rfl rfl (fun h => by cases h) fun x hpre => ?_
  exact f90_t x hpre _ fun _ h => h.trans (congrFun f90_fn.symm _)
end Go.Proofs.YtglijnhkdnhofaaGreat
