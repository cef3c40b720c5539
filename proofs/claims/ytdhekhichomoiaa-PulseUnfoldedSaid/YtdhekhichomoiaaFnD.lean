/- What functions of the program compute, each proved once, part 4. -/
import Derived.Test.YtdhekhichomoiaaPiC
import Derived.Test.YtdhekhichomoiaaFnA
import Derived.Test.YtdhekhichomoiaaFnC
import Derived.Test.YtdhekhichomoiaaFnB

section
namespace Go.Proofs.Ytdhekhichomoiaa
open Go Go.Pi Go.RowKit
set_option maxRecDepth 100000
set_option linter.unusedVariables false
set_option linter.unusedSimpArgs false

def ownS (n set : Nat) : List Int := ((List.range n).filter fun i => set.testBit i).map fun i : Nat => (i : Int)
def foldS (l : List (Int × Int × Int)) (n set : Nat) : List (Int × Int × Int) := ((List.range n).filter fun i => set.testBit i).map fun i : Nat => l.getD i (0, 0, 0)
theorem ownS_step (n set : Nat) : ownS (n + 1) set = if set.testBit n then ownS n set ++ [(n : Int)] else ownS n set := by
  unfold ownS
  rw [List.range_succ, List.filter_append, List.map_append]
  by_cases h : set.testBit n = true
  · rw [if_pos h, List.filter_cons_of_pos (by simpa using h)]; rfl
  · rw [if_neg h, List.filter_cons_of_neg (by simpa using h)]; simp
theorem foldS_step (l : List (Int × Int × Int)) (n set : Nat) : foldS l (n + 1) set = if set.testBit n then foldS l n set ++ [l.getD n (0, 0, 0)] else foldS l n set := by
  unfold foldS
  rw [List.range_succ, List.filter_append, List.map_append]
  by_cases h : set.testBit n = true
  · rw [if_pos h, List.filter_cons_of_pos (by simpa using h)]; rfl
  · rw [if_neg h, List.filter_cons_of_neg (by simpa using h)]; simp
theorem ownS_len (n set : Nat) : (ownS n set).length ≤ n := by
  unfold ownS
  rw [List.length_map]
  exact Nat.le_trans (List.length_filter_le _ _) (by simp)
theorem foldS_len (l : List (Int × Int × Int)) (n set : Nat) : (foldS l n set).length ≤ n := by
  unfold foldS
  rw [List.length_map]
  exact Nat.le_trans (List.length_filter_le _ _) (by simp)
theorem mem_foldS {l : List (Int × Int × Int)} {n set : Nat} {f : Int × Int × Int} : f ∈ foldS l n set ↔ ∃ i, i < n ∧ set.testBit i = true ∧ f = l.getD i (0, 0, 0) := by
  unfold foldS
  simp only [List.mem_map, List.mem_filter, List.mem_range]
  constructor
  · rintro ⟨i, ⟨h1, h2⟩, h3⟩; exact ⟨i, h1, h2, h3.symm⟩
  · rintro ⟨i, h1, h2, h3⟩; exact ⟨i, ⟨h1, h2⟩, h3.symm⟩
def betterS (own best : List Int) : Bool := decide (best.length = 0) || (decide (own.length < best.length) || (decide (own.length = best.length) && lexB own best))
def bestStep (l : List (Int × Int × Int)) (limit : Int) (b : List Int) (set : Nat) : List Int :=
  if betterS (ownS l.length set) b && (unf (foldS l l.length set) limit).isEmpty then ownS l.length set else b
def bestTo (l : List (Int × Int × Int)) (limit : Int) (k : Nat) : List Int := (List.range' 1 k).foldl (bestStep l limit) []
theorem bestTo_step (l : List (Int × Int × Int)) (limit : Int) (k : Nat) : bestTo l limit (k + 1) = bestStep l limit (bestTo l limit k) (k + 1) := by
  unfold bestTo
  rw [List.range'_1_concat, List.foldl_append]
  simp only [List.foldl_cons, List.foldl_nil]
  rw [Nat.add_comm 1 k]
theorem bestTo_len (l : List (Int × Int × Int)) (limit : Int) : ∀ k, (bestTo l limit k).length ≤ l.length
  | 0 => by simp [bestTo]
  | k + 1 => by
    rw [bestTo_step]
    unfold bestStep
    split
    · exact ownS_len _ _
    · exact bestTo_len l limit k
def bestS (l : List (Int × Int × Int)) (limit : Int) : List Int := bestTo l limit (2 ^ l.length - 1)
/-- A set's bit, as the program looks at it. -/
theorem bit_at (s i : Nat) (hs : s < 9223372036854775808) (hi : i < 64) : ((IntKind.i64.wrap (((BitVec.ofInt IntKind.i64.bits ((s : Int).fdiv (2 ^ (min (i : Int).toNat IntKind.i64.bits))) &&& BitVec.ofInt IntKind.i64.bits 1).toNat : Nat))) == 1) = s.testBit i := by
  have h1 : (s : Int).fdiv (2 ^ (min (i : Int).toNat IntKind.i64.bits)) = ((s / 2 ^ i : Nat) : Int) := by
    have : min (i : Int).toNat IntKind.i64.bits = i := by
      show min (i : Int).toNat 64 = i
      omega
    rw [this, Int.fdiv_eq_ediv_of_nonneg _ (Int.le_of_lt (Int.pow_pos (by omega)))]
    push_cast
    rfl
  have hb : IntKind.i64.bits = 64 := rfl
  rw [h1, hb, Nat.testBit_eq_decide_div_mod_eq]
  have hz : s / 2 ^ i < 9223372036854775808 := Nat.lt_of_le_of_lt (Nat.div_le_self _ _) hs
  generalize s / 2 ^ i = z at hz
  have h2 : BitVec.ofInt 64 (z : Int) &&& BitVec.ofInt 64 1 = BitVec.ofNat 64 (z % 2) := by
    apply BitVec.eq_of_toNat_eq
    rw [BitVec.toNat_and, BitVec.toNat_ofInt, BitVec.toNat_ofInt, BitVec.toNat_ofNat]
    have e1 : ((z : Int) % ((2 ^ 64 : Nat) : Int)).toNat = z := by omega
    have e2 : ((1 : Int) % ((2 ^ 64 : Nat) : Int)).toNat = 1 := by decide
    rw [e1, e2, Nat.and_one_is_mod]
    omega
  rw [h2, BitVec.toNat_ofNat]
  have h3 : z % 2 = 0 ∨ z % 2 = 1 := by omega
  rcases h3 with h | h <;> rw [h] <;> decide
theorem shl_at (n : Nat) (hn : n ≤ 8) : IntKind.i64.wrap (1 * 2 ^ (min (n : Int).toNat IntKind.i64.bits)) = ((2 ^ n : Nat) : Int) := by
  have : n = 0 ∨ n = 1 ∨ n = 2 ∨ n = 3 ∨ n = 4 ∨ n = 5 ∨ n = 6 ∨ n = 7 ∨ n = 8 := by omega
  rcases this with rfl | rfl | rfl | rfl | rfl | rfl | rfl | rfl | rfl <;> decide
theorem pow_small {n : Nat} (hn : n ≤ 8) : 2 ^ n ≤ 256 := Nat.pow_le_pow_right (n := 2) (by omega) hn
def f88 (x : List (Int × Int × Int) × Int) : List Int × Bool := if (unf x.1 x.2).isEmpty then (bestS x.1 x.2, true) else ([], false)
def f88_pre (x : List (Int × Int × Int) × Int) : Prop := x.1.length ≤ 8 ∧ (∀ f ∈ x.1, inF f = true) ∧ 0 ≤ x.2 ∧ x.2 ≤ 20000
def f88_e : Entry := { doms := [(false, (.sl (.pair (.int .i64) (.pair (.int .i64) (.int .i64))))), (false, (.int .i64))], cods := [(false, (.sl (.int .i64))), (false, .bool)], pre := f88_pre, fn := f88, uq := false, total := false }
def f88_E : Env := [(87, f87_e), (137, f137_e)]
def f88_A : Anns := { loops := [(1048576, { tms := [(0, .keep), (1, .keep), (6, .data false (.sl (.int .i64))), (7, .data false (.int .i64))], obs := [], fz := [] }),
  (1048578, { tms := [(0, .keep), (1, .keep), (6, .keep), (7, .keep), (8, .ref 1061891), (9, .ref 1061898), (10, .data false (.int .i64))], obs := [(1061891, .arr (.uniq) (.int .i64)), (1061898, .arr (.uniq) (.pair (.int .i64) (.pair (.int .i64) (.int .i64))))], fz := [] })], own := [] }
theorem f88_run (a0 : List (Int × Int × Int)) (a1 : Int) (K : (List Int × Bool) → Prop) : runF Try.prog f88_E f88_A 6 Try.f88 f88_e.doms f88_e.cods (a0, a1) K =
    (f87_pre (a0, a1) ∧
    br (lenOk ((f87 (a0, a1)).length))
    (br (decide ((((f87 (a0, a1)).length) : Int) > 0))
    (K (([] : List Int), false))
    (LoopP (V := List Int × Int × Unit) (fun again v => (fun (again1 : List Int → Int → Prop) (v1_0 : List Int) (v1_1 : Int) =>
    br (lenOk (a0.length))
    (br (!(decide (((a0.length) : Int) < 0)))
    (br (decide (v1_1 < (IntKind.i64.wrap (1 * 2 ^ (min ((a0.length) : Int).toNat IntKind.i64.bits)))))
    (LoopP (V := Int × List Int × List (Int × Int × Int) × Unit) (fun again v => (fun (again2 : Int → List Int → List (Int × Int × Int) → Prop) (v2_0 : Int) (v2_1 : List Int) (v2_2 : List (Int × Int × Int)) =>
    br (lenOk (a0.length))
    (br (decide (v2_0 < ((a0.length) : Int)))
    (br (!(decide (v2_0 < 0)))
    (br ((IntKind.i64.wrap (((BitVec.ofInt IntKind.i64.bits (v1_1.fdiv (2 ^ (min v2_0.toNat IntKind.i64.bits))) &&& BitVec.ofInt IntKind.i64.bits 1).toNat : Nat))) == 1)
    (br (roomOk ((v2_1.length) + 1) 8)
    (br (decide (0 ≤ v2_0) && decide (v2_0 < ((a0.length) : Int)))
    (br (roomOk ((v2_2.length) + 1) 24)
    (again2 (IntKind.i64.wrap (v2_0 + 1)) (v2_1 ++ ([v2_0] : List Int)) (v2_2 ++ ([((a0.getD v2_0.toNat (0, (0, 0))).1, ((a0.getD v2_0.toNat (0, (0, 0))).2))] : List (Int × Int × Int))))
    False)
    False)
    False)
    (again2 (IntKind.i64.wrap (v2_0 + 1)) v2_1 v2_2))
    False)
    (br (lenOk (v1_0.length))
    (br (((v1_0.length) : Int) == 0)
    (f87_pre (v2_2, a1) ∧
    br (lenOk ((f87 (v2_2, a1)).length))
    (br ((((f87 (v2_2, a1)).length) : Int) == 0)
    (again1 v2_1 (IntKind.i64.wrap (v1_1 + 1)))
    (again1 v1_0 (IntKind.i64.wrap (v1_1 + 1))))
    True)
    (br (lenOk (v2_1.length))
    (br (lenOk (v1_0.length))
    (br (decide (((v2_1.length) : Int) < ((v1_0.length) : Int)))
    (f87_pre (v2_2, a1) ∧
    br (lenOk ((f87 (v2_2, a1)).length))
    (br ((((f87 (v2_2, a1)).length) : Int) == 0)
    (again1 v2_1 (IntKind.i64.wrap (v1_1 + 1)))
    (again1 v1_0 (IntKind.i64.wrap (v1_1 + 1))))
    True)
    (br (lenOk (v2_1.length))
    (br (lenOk (v1_0.length))
    (br (((v2_1.length) : Int) == ((v1_0.length) : Int))
    (br (f137 (v2_1, v1_0))
    (f87_pre (v2_2, a1) ∧
    br (lenOk ((f87 (v2_2, a1)).length))
    (br ((((f87 (v2_2, a1)).length) : Int) == 0)
    (again1 v2_1 (IntKind.i64.wrap (v1_1 + 1)))
    (again1 v1_0 (IntKind.i64.wrap (v1_1 + 1))))
    True)
    (again1 v1_0 (IntKind.i64.wrap (v1_1 + 1))))
    (again1 v1_0 (IntKind.i64.wrap (v1_1 + 1))))
    True)
    True))
    True)
    True))
    True))
    True)
    (fun v2_0 v2_1 v2_2 => again (v2_0, v2_1, v2_2, ())) v.1 v.2.1 v.2.2.1) (0, ([] : List Int), ([] : List (Int × Int × Int)), ()))
    (K (v1_0, true)))
    False)
    True)
    (fun v1_0 v1_1 => again (v1_0, v1_1, ())) v.1 v.2.1) (([] : List Int), 1, ())))
    True) := by kernel_rfl
theorem f88_t (a0 : List (Int × Int × Int)) (a1 : Int) (hpre : f88_pre (a0, a1)) (K : (List Int × Bool) → Prop) (hK : ∀ y : List Int × Bool, y = f88 (a0, a1) → K y) : RunF Try.prog f88_E f88_A 6 Try.f88 f88_e.doms f88_e.cods (a0, a1) K := by
  refine ⟨?_⟩
  rw [f88_run a0 a1 K]
  obtain ⟨h8, hin, hl0, hl1⟩ := hpre
  simp only at h8 hin hl0 hl1
  refine ⟨⟨hin, hl0, hl1⟩, ?_⟩
  have e87 : ∀ x, f87 x = unf x.1 x.2 := fun _ => rfl
  have e137 : ∀ x, f137 x = lexB x.1 x.2 := fun _ => rfl
  simp only [e87, e137]
  rw [br_true_]
  intro _
  rw [br_dec]
  refine ⟨fun h => hK _ ?_, fun h => ?_⟩
  · have : (unf a0 a1).isEmpty = false := by
      cases hu : unf a0 a1 with
      | nil => rw [hu] at h; simp at h
      | cons _ _ => rfl
    rw [f88, this]
    rfl
  have hemp : (unf a0 a1).isEmpty = true := by
    cases hu : unf a0 a1 with
    | nil => rfl
    | cons _ _ => rw [hu] at h; simp at h
  have hp := pow_small h8
  have hp0 : 0 < 2 ^ a0.length := Nat.pow_pos (by omega)
  refine LoopP.of (fun q : List Int × Int × Unit => ∃ k : Nat, k < 2 ^ a0.length ∧ q.2.1 = ((k + 1 : Nat) : Int) ∧ q.1 = bestTo a0 a1 k) (fun q => (((2 ^ a0.length : Nat) : Int) - q.2.1).toNat) (fun again q hq hag => ?_) ⟨0, hp0, rfl, rfl⟩
  obtain ⟨b, s, u⟩ := q
  obtain ⟨k, hk, hs, hb⟩ := hq
  simp only at hs hb
  subst hs hb
  dsimp only
  rw [br_true_]
  intro _
  rw [br_false_]
  refine ⟨by simp, ?_⟩
  rw [shl_at _ h8, br_dec]
  refine ⟨fun hks => ?_, fun hks => hK _ ?_⟩
  · have hks : k + 1 < 2 ^ a0.length := by omega
    refine LoopP.up a0.length (fun i v => v = (ownS i.toNat (k + 1), foldS a0 i.toNat (k + 1), ())) (fun again2 i v hi0 hi1 hI hag2 => ?_) (by omega) rfl
    subst hI
    dsimp only
    obtain ⟨j, rfl⟩ := Int.eq_ofNat_of_zero_le hi0
    rw [br_true_]
    intro _
    rw [br_dec]
    refine ⟨fun hj => ?_, fun hj => ?_⟩
    · rw [br_false_]
      refine ⟨by simp, ?_⟩
      rw [bit_at (k + 1) j (by omega) (by omega), wr (n := (j : Int) + 1) (by omega) (by omega)]
      have hjl : (j : Int).toNat < a0.length := by omega
      have o1 := ownS_len j (k + 1)
      have o2 := foldS_len a0 j (k + 1)
      rw [br_both]
      have e1 := ownS_step j (k + 1)
      have e2 := foldS_step a0 j (k + 1)
      refine ⟨fun ht => ?_, fun ht => ?_⟩
      · rw [br_false_, roomOk_iff, br_false_, br_false_, roomOk_iff]
        simp only [Int.toNat_natCast]
        refine ⟨by omega, by simp <;> omega, by omega, hag2 _ hj ?_⟩
        rw [show ((j : Int) + 1).toNat = j + 1 by omega, e1, e2, if_pos ht, if_pos ht]
      · refine hag2 _ hj ?_
        rw [show ((j : Int) + 1).toNat = j + 1 by omega, e1, e2, if_neg (by simp [ht]), if_neg (by simp [ht])]
        rfl
    · have hjn : j = a0.length := by omega
      subst hjn
      simp only [Int.toNat_natCast]
      rw [wr (n := ((k + 1 : Nat) : Int) + 1) (by omega) (by omega), show ((k + 1 : Nat) : Int) + 1 = ((k + 1 + 1 : Nat) : Int) by omega]
      have hst := bestTo_step a0 a1 k
      unfold bestStep at hst
      have o1 := ownS_len a0.length (k + 1)
      have hsub : ∀ f ∈ foldS a0 a0.length (k + 1), inF f = true := fun f hf => by
        obtain ⟨i, h1, _, h3⟩ := mem_foldS.1 hf
        rw [h3, getD_lt h1]
        exact hin _ (List.getElem_mem _)
      obtain ⟨own, ho⟩ : ∃ x, x = ownS a0.length (k + 1) := ⟨_, rfl⟩
      obtain ⟨folds, hf⟩ : ∃ x, x = foldS a0 a0.length (k + 1) := ⟨_, rfl⟩
      obtain ⟨best, hbe⟩ : ∃ x, x = bestTo a0 a1 k := ⟨_, rfl⟩
      simp only [← ho, ← hf, ← hbe] at hst o1 hsub ⊢
      have fin : ∀ b', b' = bestTo a0 a1 (k + 1) → again (b', ((k + 1 + 1 : Nat) : Int), ()) := fun b' hb' => hag (b', _, ()) ⟨k + 1, hks, rfl, hb'⟩ (by simp only; omega)
      have hF : betterS own best = false → again (best, ((k + 1 + 1 : Nat) : Int), ()) := fun hb => fin _ (by rw [hst, hb]; rfl)
      have hT : betterS own best = true → f87_pre (folds, a1) ∧ br (lenOk (unf folds a1).length) (br (((unf folds a1).length : Int) == 0) (again (own, ((k + 1 + 1 : Nat) : Int), ())) (again (best, ((k + 1 + 1 : Nat) : Int), ()))) True := fun hb => by
        refine ⟨⟨hsub, hl0, hl1⟩, br_true_.2 fun _ => br_both.2 ⟨fun h => fin _ ?_, fun h => fin _ ?_⟩⟩
        · rw [hst, hb]
          cases hu : unf folds a1 with
          | nil => rfl
          | cons _ _ => rw [hu] at h; simp at h; omega
        · rw [hst, hb]
          cases hu : unf folds a1 with
          | nil => rw [hu] at h; simp at h
          | cons _ _ => rfl
      rw [br_true_]
      intro _
      rw [br_both]
      refine ⟨fun h0 => hT ?_, fun h0 => ?_⟩
      · have : best.length = 0 := by
          have : (best.length : Int) = 0 := by simpa using h0
          omega
        simp [betterS, this]
      have h0 : best.length ≠ 0 := fun e => by rw [e] at h0; simp at h0
      rw [br_true_]
      intro _
      rw [br_true_]
      intro _
      rw [br_dec]
      refine ⟨fun h1 => hT ?_, fun h1 => ?_⟩
      · have : own.length < best.length := by omega
        simp [betterS, this]
      have h1 : ¬ own.length < best.length := by omega
      rw [br_true_]
      intro _
      rw [br_true_]
      intro _
      rw [br_both]
      refine ⟨fun h2 => ?_, fun h2 => hF ?_⟩
      · have h2 : own.length = best.length := by
          have : (own.length : Int) = best.length := by simpa using h2
          omega
        rw [br_both]
        refine ⟨fun h3 => hT ?_, fun h3 => hF ?_⟩
        · simp [betterS, h2, h3]
        · simp [betterS, h0, h2, h3]
      · have h2 : own.length ≠ best.length := fun e => by rw [e] at h2; simp at h2
        simp [betterS, h0, h1, h2]
  · have e : k = 2 ^ a0.length - 1 := by omega
    rw [f88, hemp, bestS, ← e]
    rfl
theorem f88_fn : f88_e.fn = f88 := rfl
theorem f88_ok : EntryOK Try.prog 88 f88_e := by
  refine entryF progOK (EnvOK.cons f87_ok (EnvOK.cons f137_ok (EnvOK.nil))) (A := f88_A) (d := 6) Try.func88 rfl rfl rfl (fun h => by cases h) fun x hpre => ?_
  obtain ⟨a0, a1⟩ := x
  exact f88_t a0 a1 hpre _ fun _ h => h.trans (congrFun f88_fn.symm _)
end Go.Proofs.Ytdhekhichomoiaa
end

section
namespace Go.Proofs.Ytdhekhichomoiaa
open Go Go.Pi Go.RowKit
set_option maxRecDepth 100000
set_option linter.unusedVariables false
set_option linter.unusedSimpArgs false

def keyTo (l : List (Int × Int × Int)) (v : Int) : Nat → Nat
  | 0 => 0
  | i + 1 => if fitsF (l.getD i (0, 0, 0)) v then keyTo l v i ||| 2 ^ i else keyTo l v i
theorem keyTo_lt (l : List (Int × Int × Int)) (v : Int) : ∀ i, keyTo l v i < 2 ^ i
  | 0 => by simp [keyTo]
  | i + 1 => by
    have ih := keyTo_lt l v i
    have h2 : 2 ^ i < 2 ^ (i + 1) := Nat.pow_lt_pow_right (by omega) (by omega)
    simp only [keyTo]
    split
    · exact Nat.or_lt_two_pow (by omega) h2
    · omega
theorem keyTo_bit (l : List (Int × Int × Int)) (v : Int) (j : Nat) : ∀ n, (keyTo l v n).testBit j = (decide (j < n) && fitsF (l.getD j (0, 0, 0)) v)
  | 0 => by simp [keyTo]
  | n + 1 => by
    have ih := keyTo_bit l v j n
    have e : (keyTo l v (n + 1)).testBit j = ((keyTo l v n).testBit j || (decide (n = j) && fitsF (l.getD n (0, 0, 0)) v)) := by
      simp only [keyTo]
      split
      · rename_i h
        rw [Nat.testBit_or, Nat.testBit_two_pow, h, Bool.and_true]
      · rename_i h
        rw [show fitsF (l.getD n (0, 0, 0)) v = false by simpa using h, Bool.and_false, Bool.or_false]
    rw [e, ih]
    by_cases h1 : n = j
    · subst h1
      simp
    · by_cases h2 : j < n
      · simp [h1, h2, Nat.lt_succ_of_lt h2]
      · have : ¬ j < n + 1 := by omega
        simp [h1, h2, this]
theorem wrap_nat {n : Nat} (h : n < 9223372036854775808) : IntKind.i64.wrap (n : Int) = n := wr (by omega) (by omega)
theorem ofInt_nat (n : Nat) : BitVec.ofInt 64 (n : Int) = BitVec.ofNat 64 n := by
  apply BitVec.eq_of_toNat_eq
  rw [BitVec.toNat_ofInt, BitVec.toNat_ofNat]
  omega
theorem or_at (k i : Nat) (hk : k < 2 ^ i) (hi : i < 8) : IntKind.i64.wrap (((BitVec.ofInt IntKind.i64.bits (k : Int) ||| BitVec.ofInt IntKind.i64.bits (IntKind.i64.wrap (1 * 2 ^ (min (i : Int).toNat IntKind.i64.bits)))).toNat : Nat)) = ((k ||| 2 ^ i : Nat) : Int) := by
  have hp : 2 ^ i ≤ 256 := pow_small (by omega)
  have hb : IntKind.i64.bits = 64 := rfl
  have h1 := shl_at i (by omega)
  rw [h1, hb, ofInt_nat, ofInt_nat, BitVec.toNat_or, BitVec.toNat_ofNat, BitVec.toNat_ofNat, Nat.mod_eq_of_lt (by omega), Nat.mod_eq_of_lt (by omega)]
  refine wrap_nat ?_
  have : k ||| 2 ^ i < 2 ^ 9 := Nat.or_lt_two_pow (by omega) (by omega)
  omega
def subK (s k : Int) : Bool := (IntKind.i64.wrap (((BitVec.ofInt IntKind.i64.bits s &&& ~~~(BitVec.ofInt IntKind.i64.bits k)).toNat : Nat))) == 0
theorem subK_iff (s k : Nat) (hs : s < 9223372036854775808) : subK s k = true ↔ ∀ j, s.testBit j = true → k.testBit j = true := by
  have hb : IntKind.i64.bits = 64 := rfl
  unfold subK
  rw [hb, ofInt_nat, ofInt_nat]
  have hbit : ∀ j, (BitVec.ofNat 64 s &&& ~~~(BitVec.ofNat 64 k)).toNat.testBit j = (decide (j < 64) && (s.testBit j && !k.testBit j)) := by
    intro j
    rw [BitVec.testBit_toNat, BitVec.getLsbD_and, BitVec.getLsbD_not, BitVec.getLsbD_ofNat, BitVec.getLsbD_ofNat]
    by_cases h : j < 64
    · simp only [h, decide_true, Bool.true_and]
    · simp only [h, decide_false, Bool.false_and]
  have hlt : (BitVec.ofNat 64 s &&& ~~~(BitVec.ofNat 64 k)).toNat < 9223372036854775808 := by
    rw [BitVec.toNat_and, BitVec.toNat_ofNat]
    have := Nat.and_le_left (n := s % 2 ^ 64) (m := (~~~(BitVec.ofNat 64 k)).toNat)
    omega
  generalize (BitVec.ofNat 64 s &&& ~~~(BitVec.ofNat 64 k)).toNat = t at hbit hlt
  rw [wrap_nat hlt]
  have hs64 : ∀ j, s.testBit j = true → j < 64 := fun j hj => by
    rcases Nat.lt_or_ge j 64 with h | h
    · exact h
    · have : s < 2 ^ j := Nat.lt_of_lt_of_le (show s < 2 ^ 64 by omega) (Nat.pow_le_pow_right (by omega) h)
      rw [Nat.testBit_lt_two_pow this] at hj
      cases hj
  constructor
  · intro h j hj
    have h0 : t = 0 := by
      have : (t : Int) = 0 := by simpa using h
      omega
    have := hbit j
    rw [h0, Nat.zero_testBit, hj, decide_eq_true (hs64 j hj)] at this
    simpa using this.symm
  · intro h
    have h0 : t = 0 := Nat.eq_of_testBit_eq fun j => by
      rw [hbit, Nat.zero_testBit]
      cases hj : s.testBit j with
      | false => simp
      | true => simp [h j hj]
    simp [h0]
theorem mput_any (p : Int → Bool) (k : Int) (u : Unit) : ∀ xs : List (Int × Unit), (mput (.int .i64) .unit xs k u).any (fun x => p x.1) = (p k || xs.any fun x => p x.1)
  | [] => rfl
  | x :: r => by
    have ih := mput_any p k u r
    have e : mput (.int .i64) .unit (x :: r) k u = (match (k == x.1) with
      | true => (k, u) :: r
      | false => x :: mput (.int .i64) .unit r k u) := rfl
    rw [e]
    cases h : (k == x.1) with
    | true =>
      have : k = x.1 := by simpa using h
      subst this
      simp only [List.any_cons]
      cases p x.1 <;> rfl
    | false =>
      simp only [List.any_cons]
      rw [ih]
      cases p k <;> cases p x.1 <;> rfl
theorem any_erase {α : Type} (p : α → Bool) (d : α) {l : List α} {i : Nat} (hi : i < l.length) : l.any p = (p (l.getD i d) || (l.eraseIdx i).any p) := by
  rw [List.eraseIdx_eq_take_drop_succ]
  conv => lhs; rw [split_at (d := d) hi]
  simp only [List.any_append, List.any_cons]
  cases p (l.getD i d) <;> simp
theorem open_iff (l : List (Int × Int × Int)) (limit : Int) (s : Nat) (hs : s < 2 ^ l.length) (h8 : l.length ≤ 8) :
    ((List.range (2 * limit + 1).toNat).any fun t : Nat => subK s (keyTo l ((t : Int) - limit) l.length)) = !(unf (foldS l l.length s) limit).isEmpty := by
  have hp := pow_small h8
  have hsmall : ∀ j, s.testBit j = true → j < l.length := fun j hj => by
    rcases Nat.lt_or_ge j l.length with h | h
    · exact h
    · have : s < 2 ^ j := Nat.lt_of_lt_of_le hs (Nat.pow_le_pow_right (by omega) h)
      rw [Nat.testBit_lt_two_pow this] at hj
      cases hj
  have key : ∀ v : Int, subK s (keyTo l v l.length) = true ↔ ∀ f ∈ foldS l l.length s, fitsF f v = true := by
    intro v
    rw [subK_iff s _ (by omega)]
    constructor
    · intro h f hf
      obtain ⟨i, h1, h2, h3⟩ := mem_foldS.1 hf
      have := h i h2
      rw [keyTo_bit, Bool.and_eq_true] at this
      rw [h3]; exact this.2
    · intro h j hj
      rw [keyTo_bit, decide_eq_true (hsmall j hj), Bool.true_and]
      exact h _ (mem_foldS.2 ⟨j, hsmall j hj, hj, rfl⟩)
  rw [Bool.eq_iff_iff, List.any_eq_true]
  constructor
  · rintro ⟨t, ht, h⟩
    have ht := List.mem_range.1 ht
    have hm : (t : Int) - limit ∈ unf (foldS l l.length s) limit := mem_unf.2 ⟨⟨by omega, by omega⟩, (key _).1 h⟩
    cases hu : unf (foldS l l.length s) limit with
    | nil => rw [hu] at hm; cases hm
    | cons _ _ => rfl
  · intro h
    cases hu : unf (foldS l l.length s) limit with
    | nil => rw [hu] at h; simp at h
    | cons v r =>
      have hm : v ∈ unf (foldS l l.length s) limit := by rw [hu]; exact .head _
      obtain ⟨⟨h1, h2⟩, h3⟩ := mem_unf.1 hm
      refine ⟨(v + limit).toNat, List.mem_range.2 (by omega), ?_⟩
      rw [show ((v + limit).toNat : Int) - limit = v by omega]
      exact (key v).2 h3
theorem cmpL_lt : ∀ a b : List Int, decide (cmpL a b < 0) = lexB a b
  | [], [] => rfl
  | [], _ :: _ => rfl
  | _ :: _, [] => rfl
  | a :: r, b :: s => by
    have ih := cmpL_lt r s
    simp only [cmpL, lexB]
    by_cases h : a = b
    · subst h
      simp [ih]
    · by_cases h2 : a < b
      · simp [h, h2]
      · have : a > b := by omega
        simp [h, h2, this]
def f85 (x : List (Int × Int × Int) × Int) : List Int × Int := if f86 x ≠ 0 then ([], f86 x) else (bestS x.1 x.2, if (bestS x.1 x.2).length > 0 then 0 else 12)
def f85_pre (x : List (Int × Int × Int) × Int) : Prop := True
def f85_e : Entry := { doms := [(false, (.sl (.pair (.int .i64) (.pair (.int .i64) (.int .i64))))), (false, (.int .i64))], cods := [(false, (.sl (.int .i64))), (false, (.int .i64))], pre := f85_pre, fn := f85, uq := false, total := false }
def f85_E : Env := [(94, f94_e), (131, f131_e), (134, f134_e), (135, f135_e), (88, f88_e), (83, f83_e), (137, f137_e)]
def f85_A : Anns := { loops := [(1048576, { tms := [(0, .keep), (1, .keep), (7, .keep), (8, .data false (.int .i64))], obs := [(1052672, .map false true (.int .i64) .unit)], fz := [] }),
  (1048578, { tms := [(0, .keep), (1, .keep), (7, .keep), (8, .keep), (9, .data false (.int .i64)), (32, .keep), (33, .keep), (34, .data false (.int .i64))], obs := [(1052672, .keep)], fz := [] }),
  (1048580, { tms := [(0, .keep), (7, .keep), (12, .data false (.sl (.int .i64))), (13, .data false (.int .i64))], obs := [(1052672, .keep)], fz := [] }),
  (1048582, { tms := [(0, .keep), (7, .keep), (12, .keep), (13, .keep), (14, .data false .bool), (58, .keep)], obs := [(1052672, .keep), (1070081, .it 1052672 (.int .i64) .unit)], fz := [] }),
  (1048584, { tms := [(0, .keep), (7, .keep), (12, .keep), (13, .keep), (16, .ref 1080323), (72, .keep), (73, .data false (.int .i64))], obs := [(1052672, .keep), (1070081, .keep), (1080323, .arr (.uniq) (.int .i64))], fz := [] })], own := [] }
theorem f85_run (a0 : List (Int × Int × Int)) (a1 : Int) (K : (List Int × Int) → Prop) : runF Try.prog f85_E f85_A 6 Try.f85 f85_e.doms f85_e.cods (a0, a1) K =
    (br ((f131 (a0, a1)) != 0)
    (K (([] : List Int), (f131 (a0, a1))))
    (LoopP (V := Int × List (Int × Unit) × Unit) (fun again v => (fun (again1 : Int → List (Int × Unit) → Prop) (v1_0 : Int) (v1_1 : List (Int × Unit)) =>
    br (decide (v1_0 ≤ a1))
    (br (lenOk (a0.length))
    (LoopP (V := Int × Int × Unit) (fun again v => (fun (again2 : Int → Int → Prop) (v2_0 : Int) (v2_1 : Int) =>
    br (decide (v2_1 < ((a0.length) : Int)))
    (br (decide (0 ≤ v2_1) && decide (v2_1 < ((a0.length) : Int)))
    (f134_pre (((a0.getD v2_1.toNat (0, (0, 0))).1, ((a0.getD v2_1.toNat (0, (0, 0))).2)), v1_0) ∧
    br (f134 (((a0.getD v2_1.toNat (0, (0, 0))).1, ((a0.getD v2_1.toNat (0, (0, 0))).2)), v1_0))
    (br (!(decide (v2_1 < 0)))
    (again2 (IntKind.i64.wrap (((BitVec.ofInt IntKind.i64.bits v2_0 ||| BitVec.ofInt IntKind.i64.bits (IntKind.i64.wrap (1 * 2 ^ (min v2_1.toNat IntKind.i64.bits)))).toNat : Nat))) (IntKind.i64.wrap (v2_1 + 1)))
    False)
    (again2 v2_0 (IntKind.i64.wrap (v2_1 + 1))))
    False)
    (again1 (IntKind.i64.wrap (v1_0 + 1)) (mput (.int .i64) .unit v1_1 v2_0 ())))
    (fun v2_0 v2_1 => again (v2_0, v2_1, ())) v.1 v.2.1) (0, 0, ()))
    True)
    (LoopP (V := List Int × Int × Unit) (fun again v => (fun (again3 : List Int → Int → Prop) (v3_0 : List Int) (v3_1 : Int) =>
    br (lenOk (a0.length))
    (br (!(decide (((a0.length) : Int) < 0)))
    (br (decide (v3_1 < (IntKind.i64.wrap (1 * 2 ^ (min ((a0.length) : Int).toNat IntKind.i64.bits)))))
    (LoopP (V := Bool × List (Int × Unit) × Unit) (fun again v => (fun (again4 : Bool → List (Int × Unit) → Prop) (v4_0 : Bool) (v4_1 : List (Int × Unit)) =>
    nextP (v4_1.length)
    (br v4_0
    (again3 v3_0 (IntKind.i64.wrap (v3_1 + 1)))
    (br (lenOk (a0.length))
    (LoopP (V := Int × List Int × Unit) (fun again v => (fun (again5 : Int → List Int → Prop) (v5_0 : Int) (v5_1 : List Int) =>
    br (decide (v5_0 < ((a0.length) : Int)))
    (br (!(decide (v5_0 < 0)))
    (br ((IntKind.i64.wrap (((BitVec.ofInt IntKind.i64.bits (v3_1.fdiv (2 ^ (min v5_0.toNat IntKind.i64.bits))) &&& BitVec.ofInt IntKind.i64.bits 1).toNat : Nat))) == 1)
    (br (roomOk ((v5_1.length) + 1) 8)
    (again5 (IntKind.i64.wrap (v5_0 + 1)) (v5_1 ++ ([v5_0] : List Int)))
    False)
    (again5 (IntKind.i64.wrap (v5_0 + 1)) v5_1))
    False)
    (br (lenOk (v3_0.length))
    (br (((v3_0.length) : Int) == 0)
    (again3 v5_1 (IntKind.i64.wrap (v3_1 + 1)))
    (br (lenOk (v5_1.length))
    (br (lenOk (v3_0.length))
    (br (decide (((v5_1.length) : Int) < ((v3_0.length) : Int)))
    (again3 v5_1 (IntKind.i64.wrap (v3_1 + 1)))
    (br (lenOk (v5_1.length))
    (br (lenOk (v3_0.length))
    (br (((v5_1.length) : Int) == ((v3_0.length) : Int))
    (br (decide ((f135 (v5_1, v3_0)) < 0))
    (again3 v5_1 (IntKind.i64.wrap (v3_1 + 1)))
    (again3 v3_0 (IntKind.i64.wrap (v3_1 + 1))))
    (again3 v3_0 (IntKind.i64.wrap (v3_1 + 1))))
    True)
    True))
    True)
    True))
    True))
    (fun v5_0 v5_1 => again (v5_0, v5_1, ())) v.1 v.2.1) (0, ([] : List Int), ()))
    True))
    (fun w4 =>
    br v4_0
    (again4 true (v4_1.eraseIdx w4))
    (again4 ((IntKind.i64.wrap (((BitVec.ofInt IntKind.i64.bits v3_1 &&& ~~~(BitVec.ofInt IntKind.i64.bits ((v4_1.getD w4 (0, ())).1))).toNat : Nat))) == 0) (v4_1.eraseIdx w4))))
    (fun v4_0 v4_1 => again (v4_0, v4_1, ())) v.1 v.2.1) (false, v1_1, ()))
    (br (lenOk (v3_0.length))
    (K (v3_0, (f94 ((decide (((v3_0.length) : Int) > 0)), 12))))
    True))
    False)
    True)
    (fun v3_0 v3_1 => again (v3_0, v3_1, ())) v.1 v.2.1) (([] : List Int), 1, ())))
    (fun v1_0 v1_1 => again (v1_0, v1_1, ())) v.1 v.2.1) ((IntKind.i64.wrap (0 - a1)), ([] : List (Int × Unit)), ()))) := by kernel_rfl
theorem f85_t (a0 : List (Int × Int × Int)) (a1 : Int) (hpre : f85_pre (a0, a1)) (K : (List Int × Int) → Prop) (hK : ∀ y : List Int × Int, y = f85 (a0, a1) → K y) : RunF Try.prog f85_E f85_A 6 Try.f85 f85_e.doms f85_e.cods (a0, a1) K := by
  refine ⟨?_⟩
  rw [f85_run a0 a1 K]
  have e131 : f131 (a0, a1) = f86 (a0, a1) := rfl
  have e134 : ∀ x, f134 x = fitsF x.1 x.2 := fun _ => rfl
  have e135 : ∀ x, decide (f135 x < 0) = lexB x.1 x.2 := fun x => cmpL_lt x.1 x.2
  have eS : ∀ s k : Int, ((IntKind.i64.wrap (((BitVec.ofInt IntKind.i64.bits s &&& ~~~(BitVec.ofInt IntKind.i64.bits k)).toNat : Nat))) == 0) = subK s k := fun _ _ => rfl
  simp only [e134, e135, eS]
  rw [e131, br_both]
  refine ⟨fun h => hK _ ?_, fun h => ?_⟩
  · rw [f85, if_pos (by simpa using h)]
  have h0 : f86 (a0, a1) = 0 := by simpa using h
  obtain ⟨⟨hn0, h8⟩, hin, hl0, hl1⟩ := f86_zero h0
  simp only at hn0 h8 hin hl0 hl1
  have hp := pow_small h8
  have hp0 : 0 < 2 ^ a0.length := Nat.pow_pos (by omega)
  rw [wr (n := 0 - a1) (by omega) (by omega), show (0 : Int) - a1 = -a1 by omega]
  refine LoopP.upFrom (-a1) (a1 + 1) (fun i v => ∀ p : Int → Bool, v.1.any (fun x => p x.1) = (List.range (i + a1).toNat).any fun t : Nat => p (keyTo a0 ((t : Int) - a1) a0.length)) (fun again i v hi0 hn hI hag => ?_) (fun p => by
    rw [show (-a1 + a1).toNat = 0 by omega]; rfl)
  obtain ⟨xs, u⟩ := v
  simp only at hI
  dsimp only
  rw [br_dec]
  refine ⟨fun hi => ?_, fun hi => ?_⟩
  · rw [br_true_, lenOk_iff]
    intro hl
    refine LoopP.of (fun q : Int × Int × Unit => ∃ j : Nat, j ≤ a0.length ∧ q.2.1 = (j : Int) ∧ q.1 = ((keyTo a0 i j : Nat) : Int)) (fun q => ((a0.length : Int) - q.2.1).toNat) (fun again2 q hq hag2 => ?_) ⟨0, by omega, rfl, rfl⟩
    obtain ⟨key, s, u2⟩ := q
    obtain ⟨j, hj, hs, hk⟩ := hq
    simp only at hs hk
    subst hs hk
    dsimp only
    rw [br_dec]
    refine ⟨fun hj1 => ?_, fun hj1 => ?_⟩
    · have hjl : (j : Int).toNat < a0.length := by omega
      have hk1 := keyTo_lt a0 i j
      have hor := or_at (keyTo a0 i j) j hk1 (by omega)
      rw [br_false_]
      refine ⟨by simp; omega, ?_, ?_⟩
      · exact ⟨hin _ (by rw [getD_lt hjl]; exact List.getElem_mem _), by simp only; omega, by simp only; omega⟩
      · rw [hor, wr (n := (j : Int) + 1) (by omega) (by omega), br_both]
        have e : ((j : Int) + 1) = ((j + 1 : Nat) : Int) := by omega
        refine ⟨fun hf => ?_, fun hf => ?_⟩
        · rw [br_false_]
          refine ⟨by simp, hag2 (_, _, ()) ⟨j + 1, by omega, e, ?_⟩ (by simp only; omega)⟩
          simp only [keyTo]
          rw [if_pos (by simpa using hf)]
        · refine hag2 (_, _, ()) ⟨j + 1, by omega, e, ?_⟩ (by simp only; omega)
          simp only [keyTo]
          rw [if_neg (by simpa using hf)]
    · have hjn : j = a0.length := by omega
      subst hjn
      rw [wr (by omega) (by omega)]
      refine hag (_, ()) (by omega) fun p => ?_
      rw [mput_any, hI p, show (i + 1 + a1).toNat = (i + a1).toNat + 1 by omega, List.range_succ, List.any_append]
      simp only [List.any_cons, List.any_nil, Bool.or_false]
      rw [show (((i + a1).toNat : Nat) : Int) - a1 = i by omega, Bool.or_comm]
  have hi : i = a1 + 1 := by omega
  subst hi
  have hI : ∀ s : Nat, s < 2 ^ a0.length → (xs.any fun x => subK s x.1) = !(unf (foldS a0 a0.length s) a1).isEmpty := fun s hs => by
    rw [hI, show a1 + 1 + a1 = 2 * a1 + 1 by omega]
    exact open_iff a0 a1 s hs h8
  refine LoopP.of (fun q : List Int × Int × Unit => ∃ k : Nat, k < 2 ^ a0.length ∧ q.2.1 = ((k + 1 : Nat) : Int) ∧ q.1 = bestTo a0 a1 k) (fun q => (((2 ^ a0.length : Nat) : Int) - q.2.1).toNat) (fun again q hq hag => ?_) ⟨0, hp0, rfl, rfl⟩
  obtain ⟨b, s, u⟩ := q
  obtain ⟨k, hk, hs, hb⟩ := hq
  simp only at hs hb
  subst hs hb
  dsimp only
  rw [br_true_]
  intro _
  rw [br_false_]
  refine ⟨by simp, ?_⟩
  rw [shl_at _ h8, br_dec]
  refine ⟨fun hks => ?_, fun hks => ?_⟩
  · have hks : k + 1 < 2 ^ a0.length := by omega
    have hopen := hI (k + 1) hks
    rw [wr (n := ((k + 1 : Nat) : Int) + 1) (by omega) (by omega), show ((k + 1 : Nat) : Int) + 1 = ((k + 1 + 1 : Nat) : Int) by omega]
    have hst := bestTo_step a0 a1 k
    unfold bestStep at hst
    refine LoopP.of (fun q : Bool × List (Int × Unit) × Unit => (q.1 || q.2.1.any fun x => subK ((k + 1 : Nat) : Int) x.1) = !(unf (foldS a0 a0.length (k + 1)) a1).isEmpty) (fun q => q.2.1.length) (fun again2 q hq hag2 => ?_) (by simp only [Bool.false_or]; exact hopen)
    obtain ⟨op, left, u2⟩ := q
    simp only at hq
    dsimp only
    refine ⟨fun hz => ?_, fun w hw => ?_⟩
    · have hnil : left = [] := List.length_eq_zero_iff.1 hz
      subst hnil
      simp only [List.any_nil, Bool.or_false] at hq
      rw [br_both]
      refine ⟨fun ho => ?_, fun ho => ?_⟩
      · refine hag (_, _, ()) ⟨k + 1, hks, rfl, ?_⟩ (by simp only; omega)
        simp only
        rw [ho] at hq
        have : (unf (foldS a0 a0.length (k + 1)) a1).isEmpty = false := by simpa using hq.symm
        rw [hst, this, Bool.and_false]
        rfl
      · have hemp : (unf (foldS a0 a0.length (k + 1)) a1).isEmpty = true := by
          rw [ho] at hq
          simpa using hq.symm
        rw [hemp, Bool.and_true] at hst
        rw [br_true_]
        intro _
        refine LoopP.up a0.length (fun i v => v = (ownS i.toNat (k + 1), ())) (fun again2 i v hi0 hi1 hI hag2 => ?_) (by omega) rfl
        subst hI
        dsimp only
        obtain ⟨j, rfl⟩ := Int.eq_ofNat_of_zero_le hi0
        rw [br_dec]
        refine ⟨fun hj => ?_, fun hj => ?_⟩
        · rw [br_false_]
          refine ⟨by simp, ?_⟩
          rw [bit_at (k + 1) j (by omega) (by omega), wr (n := (j : Int) + 1) (by omega) (by omega)]
          have o1 := ownS_len j (k + 1)
          have e1 := ownS_step j (k + 1)
          rw [br_both]
          refine ⟨fun ht => ?_, fun ht => ?_⟩
          · rw [br_false_, roomOk_iff]
            simp only [Int.toNat_natCast]
            refine ⟨by omega, hag2 _ hj ?_⟩
            rw [show ((j : Int) + 1).toNat = j + 1 by omega, e1, if_pos ht]
          · refine hag2 _ hj ?_
            rw [show ((j : Int) + 1).toNat = j + 1 by omega, e1, if_neg (by simp [ht])]
            rfl
        · have hjn : j = a0.length := by omega
          subst hjn
          simp only [Int.toNat_natCast]
          obtain ⟨own, ho⟩ : ∃ x, x = ownS a0.length (k + 1) := ⟨_, rfl⟩
          obtain ⟨best, hbe⟩ : ∃ x, x = bestTo a0 a1 k := ⟨_, rfl⟩
          simp only [← ho, ← hbe] at hst ⊢
          have fin : ∀ b', b' = bestTo a0 a1 (k + 1) → again (b', ((k + 1 + 1 : Nat) : Int), ()) := fun b' hb' => hag (b', _, ()) ⟨k + 1, hks, rfl, hb'⟩ (by simp only; omega)
          have hF : betterS own best = false → again (best, ((k + 1 + 1 : Nat) : Int), ()) := fun hb => fin _ (by rw [hst, hb]; rfl)
          have hT : betterS own best = true → again (own, ((k + 1 + 1 : Nat) : Int), ()) := fun hb => fin _ (by rw [hst, hb]; rfl)
          rw [br_true_]
          intro _
          rw [br_both]
          refine ⟨fun h0 => hT ?_, fun h0 => ?_⟩
          · have : best.length = 0 := by
              have : (best.length : Int) = 0 := by simpa using h0
              omega
            simp [betterS, this]
          have h0 : best.length ≠ 0 := fun e => by rw [e] at h0; simp at h0
          rw [br_true_]
          intro _
          rw [br_true_]
          intro _
          rw [br_dec]
          refine ⟨fun h1 => hT ?_, fun h1 => ?_⟩
          · have : own.length < best.length := by omega
            simp [betterS, this]
          have h1 : ¬ own.length < best.length := by omega
          rw [br_true_]
          intro _
          rw [br_true_]
          intro _
          rw [br_both]
          refine ⟨fun h2 => ?_, fun h2 => hF ?_⟩
          · have h2 : own.length = best.length := by
              have : (own.length : Int) = best.length := by simpa using h2
              omega
            rw [br_both]
            refine ⟨fun h3 => hT ?_, fun h3 => hF ?_⟩
            · simp [betterS, h2, h3]
            · simp [betterS, h0, h2, h3]
          · have h2 : own.length ≠ best.length := fun e => by rw [e] at h2; simp at h2
            simp [betterS, h0, h1, h2]
    · have hlen : (left.eraseIdx w).length < left.length := by
        rw [List.length_eraseIdx_of_lt hw]
        omega
      have he := any_erase (fun x : Int × Unit => subK ((k + 1 : Nat) : Int) x.1) (0, ()) hw
      rw [he] at hq
      dsimp only
      rw [br_both]
      refine ⟨fun ho => hag2 (true, _, ()) ?_ hlen, fun ho => hag2 (_, _, ()) ?_ hlen⟩
      · simp only
        rw [← hq, ho]
        simp
      · simp only
        rw [← hq, ho, Bool.false_or]
  · have e : k = 2 ^ a0.length - 1 := by omega
    rw [br_true_]
    intro _
    refine hK _ ?_
    rw [f85, if_neg (by simpa using h0), bestS, ← e]
    simp only [f94]
    by_cases hb : (bestTo a0 a1 k).length > 0
    · have : ((bestTo a0 a1 k).length : Int) > 0 := by omega
      simp [hb, this]
    · have : ¬ ((bestTo a0 a1 k).length : Int) > 0 := by omega
      simp [hb, this]
theorem f85_fn : f85_e.fn = f85 := rfl
theorem f85_ok : EntryOK Try.prog 85 f85_e := by
  refine entryF progOK (EnvOK.cons f94_ok (EnvOK.cons f131_ok (EnvOK.cons f134_ok (EnvOK.cons f135_ok (EnvOK.cons f88_ok (EnvOK.cons f83_ok (EnvOK.cons f137_ok (EnvOK.nil)))))))) (A := f85_A) (d := 6) Try.func85 rfl rfl rfl (fun h => by cases h) fun x hpre => ?_
  obtain ⟨a0, a1⟩ := x
  exact f85_t a0 a1 hpre _ fun _ h => h.trans (congrFun f85_fn.symm _)
end Go.Proofs.Ytdhekhichomoiaa
end

section
namespace Go.Proofs.Ytdhekhichomoiaa
open Go Go.Pi Go.RowKit
set_option maxRecDepth 100000
set_option linter.unusedVariables false
set_option linter.unusedSimpArgs false

def f40 (x : List Int × List Int) : Bool := decide (x.1 = x.2)
def f40_e : Entry := { doms := [(false, (.sl (.int .i64))), (false, (.sl (.int .i64)))], cods := [(false, .bool)], pre := fun _ => True, fn := f40, uq := false, total := true }
def f40_E : Env := []
def f40_A : Anns := { loops := [(1048576, { tms := [(0, .keep), (1, .keep), (5, .data false (.int .i64))], obs := [], fz := [] })], own := [] }
theorem f40_run (a0 : List Int) (a1 : List Int) (K : Bool → Prop) : runF Try.prog f40_E f40_A 6 Try.f40 f40_e.doms f40_e.cods (a0, a1) K =
    (br (lenOk (a0.length))
    (br (lenOk (a1.length))
    (br (((a0.length) : Int) != ((a1.length) : Int))
    (K false)
    (LoopP (V := Int × Unit) (fun again v => (fun (again1 : Int → Prop) (v1_0 : Int) =>
    br (lenOk (a0.length))
    (br (decide (v1_0 < ((a0.length) : Int)))
    (br (decide (0 ≤ v1_0) && decide (v1_0 < ((a0.length) : Int)))
    (br (decide (0 ≤ v1_0) && decide (v1_0 < ((a1.length) : Int)))
    (br ((a0.getD v1_0.toNat 0) != (a1.getD v1_0.toNat 0))
    (K false)
    (again1 (IntKind.i64.wrap (v1_0 + 1))))
    False)
    False)
    (K true))
    True)
    (fun v1_0 => again (v1_0, ())) v.1) (0, ())))
    True)
    True) := by kernel_rfl
theorem f40_t (a0 : List Int) (a1 : List Int) (K : Bool → Prop) (hK : ∀ y : Bool, y = f40 (a0, a1) → K y) : RunF Try.prog f40_E f40_A 6 Try.f40 f40_e.doms f40_e.cods (a0, a1) K := by
  refine ⟨?_⟩
  rw [f40_run a0 a1 K]
  rw [br_true_, lenOk_iff]
  intro hl
  rw [br_true_]
  intro _
  rw [br_both]
  refine ⟨fun hne => hK _ ?_, fun he => ?_⟩
  · have : a0 ≠ a1 := fun e => by simp [e] at hne
    simp [f40, this]
  have he : a0.length = a1.length := by
    simp only [bne_eq_false_iff_eq] at he
    omega
  refine LoopP.up a0.length (fun i _ => a0.take i.toNat = a1.take i.toNat) (fun again i v hi0 hn hI hag => ?_) (by omega) (by simp)
  dsimp only
  rw [br_true_]
  intro _
  rw [br_both]
  refine ⟨fun hi => ?_, fun hi => hK _ ?_⟩
  · simp only [decide_eq_true_eq] at hi
    simp only [br_false_, Bool.and_eq_true, decide_eq_true_eq]
    refine ⟨⟨hi0, hi⟩, ⟨hi0, by omega⟩, ?_⟩
    rw [br_both]
    refine ⟨fun hne => hK _ ?_, fun heq => ?_⟩
    · have : a0 ≠ a1 := fun e => by simp [e] at hne
      simp [f40, this]
    · rw [wr (by omega) (by omega)]
      refine hag () hi ?_
      have h1 : i.toNat < a0.length := by omega
      have h2 : i.toNat < a1.length := by omega
      rw [getD_lt h1, getD_lt h2] at heq
      have h3 : a0[i.toNat] = a1[i.toNat] := by simpa using heq
      rw [show (i + 1).toNat = i.toNat + 1 by omega, List.take_add_one, List.take_add_one, hI, List.getElem?_eq_getElem h1, List.getElem?_eq_getElem h2, h3]
  · simp only [decide_eq_false_iff_not] at hi
    rw [List.take_of_length_le (by omega), List.take_of_length_le (by omega)] at hI
    simp [f40, hI]
theorem f40_fn : f40_e.fn = f40 := rfl
theorem f40_ok : EntryOK Try.prog 40 f40_e := by
  refine entryF progOK (EnvOK.nil) (A := f40_A) (d := 6) Try.func40 rfl rfl rfl (fun _ _ => trivial) fun x hpre => ?_
  obtain ⟨a0, a1⟩ := x
  exact f40_t a0 a1 _ fun _ h => h.trans (congrFun f40_fn.symm _)
end Go.Proofs.Ytdhekhichomoiaa
end

section
namespace Go.Proofs.Ytdhekhichomoiaa
open Go Go.Pi Go.RowKit
set_option maxRecDepth 100000
set_option linter.unusedVariables false
set_option linter.unusedSimpArgs false

def f82 (x : List (Int × Int × Int) × Int) : Bool := decide (x.1.length ≤ 10) && (decide (x.2 ≤ 3000) || decide (x.2 > 20000))
def f82_e : Entry := { doms := [(false, (.sl (.pair (.int .i64) (.pair (.int .i64) (.int .i64))))), (false, (.int .i64))], cods := [(false, .bool)], pre := fun _ => True, fn := f82, uq := false, total := true }
def f82_E : Env := []
def f82_A : Anns := { loops := [], own := [] }
theorem f82_run (a0 : List (Int × Int × Int)) (a1 : Int) (K : Bool → Prop) : runF Try.prog f82_E f82_A 6 Try.f82 f82_e.doms f82_e.cods (a0, a1) K =
    (br (lenOk (a0.length))
    (br (decide (((a0.length) : Int) ≤ 10))
    (br (decide (a1 ≤ 3000))
    (K true)
    (K (decide (a1 > 20000))))
    (K false))
    True) := by kernel_rfl
theorem f82_t (a0 : List (Int × Int × Int)) (a1 : Int) (K : Bool → Prop) (hK : ∀ y : Bool, y = f82 (a0, a1) → K y) : RunF Try.prog f82_E f82_A 6 Try.f82 f82_e.doms f82_e.cods (a0, a1) K := by
  refine ⟨?_⟩
  rw [f82_run a0 a1 K]
  rw [br_true_]
  intro _
  rw [br_dec]
  refine ⟨fun h => ?_, fun h => hK _ ?_⟩
  · have h1 : a0.length ≤ 10 := by omega
    rw [br_dec]
    exact ⟨fun h2 => hK _ (by simp [f82, h1, h2]), fun h2 => hK _ (by simp [f82, h1, h2])⟩
  · have h1 : ¬ a0.length ≤ 10 := by omega
    simp [f82, h1]
theorem f82_fn : f82_e.fn = f82 := rfl
theorem f82_ok : EntryOK Try.prog 82 f82_e := by
  refine entryF progOK (EnvOK.nil) (A := f82_A) (d := 6) Try.func82 rfl rfl rfl (fun _ _ => trivial) fun x hpre => ?_
  obtain ⟨a0, a1⟩ := x
  exact f82_t a0 a1 _ fun _ h => h.trans (congrFun f82_fn.symm _)
end Go.Proofs.Ytdhekhichomoiaa
end

section
namespace Go.Proofs.Ytdhekhichomoiaa
open Go Go.Pi Go.RowKit
set_option maxRecDepth 100000
set_option linter.unusedVariables false
set_option linter.unusedSimpArgs false

def f14 (x : List (Int × Int × Int) × Int) : Bool := true
theorem bestTo_open {l : List (Int × Int × Int)} {limit : Int} (h : (unf l limit).isEmpty = false) : ∀ k, bestTo l limit k = []
  | 0 => rfl
  | k + 1 => by
    rw [bestTo_step, bestTo_open h k]
    unfold bestStep
    rw [if_neg]
    intro hc
    rw [Bool.and_eq_true] at hc
    cases hu : unf l limit with
    | nil => rw [hu] at h; cases h
    | cons v r =>
      have hm : v ∈ unf l limit := by rw [hu]; exact .head _
      obtain ⟨h1, h2⟩ := mem_unf.1 hm
      have : v ∈ unf (foldS l l.length (k + 1)) limit := mem_unf.2 ⟨h1, fun f hf => by
        obtain ⟨i, h3, _, h5⟩ := mem_foldS.1 hf
        rw [h5, getD_lt h3]
        exact h2 _ (List.getElem_mem _)⟩
      rw [List.isEmpty_iff.1 hc.2] at this
      cases this
theorem ownS_full {n : Nat} (hn : n ≠ 0) : ownS n (2 ^ n - 1) ≠ [] := by
  intro h
  have : (0 : Int) ∈ ownS n (2 ^ n - 1) := by
    unfold ownS
    refine List.mem_map.2 ⟨0, List.mem_filter.2 ⟨List.mem_range.2 (by omega), ?_⟩, rfl⟩
    simp [Nat.testBit_two_pow_sub_one]
    omega
  rw [h] at this
  cases this
theorem foldS_full {l : List (Int × Int × Int)} {limit : Int} (h : (unf l limit).isEmpty = true) : (unf (foldS l l.length (2 ^ l.length - 1)) limit).isEmpty = true := by
  cases hu : unf (foldS l l.length (2 ^ l.length - 1)) limit with
  | nil => rfl
  | cons v r =>
    have hm : v ∈ unf (foldS l l.length (2 ^ l.length - 1)) limit := by rw [hu]; exact .head _
    obtain ⟨h1, h2⟩ := mem_unf.1 hm
    have : v ∈ unf l limit := mem_unf.2 ⟨h1, fun f hf => by
      obtain ⟨i, hi, rfl⟩ := List.getElem_of_mem hf
      refine h2 _ (mem_foldS.2 ⟨i, hi, ?_, (getD_lt hi).symm⟩)
      simp [Nat.testBit_two_pow_sub_one, hi]⟩
    rw [List.isEmpty_iff.1 h] at this
    cases this
theorem bestS_closed {l : List (Int × Int × Int)} {limit : Int} (hn : l.length ≠ 0) (h : (unf l limit).isEmpty = true) : bestS l limit ≠ [] := by
  have hp0 : 1 < 2 ^ l.length := Nat.one_lt_two_pow hn
  unfold bestS
  obtain ⟨k, hk⟩ : ∃ k, 2 ^ l.length - 1 = k + 1 := ⟨2 ^ l.length - 2, by omega⟩
  have ho := ownS_full hn
  have hf := foldS_full h
  rw [hk] at ho hf ⊢
  rw [bestTo_step]
  unfold bestStep
  rw [hf, Bool.and_true]
  split
  · exact ho
  · rename_i hb
    intro e
    rw [e] at hb
    exact hb rfl
def f14_e : Entry := { doms := [(false, (.sl (.pair (.int .i64) (.pair (.int .i64) (.int .i64))))), (false, (.int .i64))], cods := [(false, .bool)], pre := fun _ => True, fn := f14, uq := false, total := true }
def f14_E : Env := [(16, f16_e), (40, f40_e), (82, f82_e), (83, f83_e), (84, f84_e), (85, f85_e), (86, f86_e), (87, f87_e), (88, f88_e)]
def f14_A : Anns := { loops := [], own := [] }
theorem f14_run (a0 : List (Int × Int × Int)) (a1 : Int) (K : Bool → Prop) : runF Try.prog f14_E f14_A 6 Try.f14 f14_e.doms f14_e.cods (a0, a1) K =
    (br (!(f16 ()))
    (K false)
    (br (!(f82 (a0, a1)))
    (K true)
    (f84_pre a0 ∧
    f83_pre ((f84 a0), a1) ∧
    f84_pre a0 ∧
    f85_pre ((f84 a0), a1) ∧
    br ((f86 (a0, a1)) != 0)
    (br ((f83 ((f84 a0), a1)).2 == (f86 (a0, a1)))
    (br (lenOk (((f83 ((f84 a0), a1)).1).length))
    (br (((((f83 ((f84 a0), a1)).1).length) : Int) == 0)
    (br ((f85 ((f84 a0), a1)).2 == (f86 (a0, a1)))
    (br (lenOk (((f85 ((f84 a0), a1)).1).length))
    (K (((((f85 ((f84 a0), a1)).1).length) : Int) == 0))
    True)
    (K false))
    (K false))
    True)
    (K false))
    (br ((f83 ((f84 a0), a1)).2 != 0)
    (K false)
    (f87_pre (a0, a1) ∧
    br (!(f40 ((f83 ((f84 a0), a1)).1, (f87 (a0, a1)))))
    (K false)
    (f88_pre (a0, a1) ∧
    br (!(f88 (a0, a1)).2)
    (br ((f85 ((f84 a0), a1)).2 == 12)
    (br (lenOk (((f85 ((f84 a0), a1)).1).length))
    (K (((((f85 ((f84 a0), a1)).1).length) : Int) == 0))
    True)
    (K false))
    (br ((f85 ((f84 a0), a1)).2 == 0)
    (K (f40 ((f85 ((f84 a0), a1)).1, (f88 (a0, a1)).1)))
    (K false)))))))) := by kernel_rfl
theorem f14_t (a0 : List (Int × Int × Int)) (a1 : Int) (K : Bool → Prop) (hK : ∀ y : Bool, y = f14 (a0, a1) → K y) : RunF Try.prog f14_E f14_A 6 Try.f14 f14_e.doms f14_e.cods (a0, a1) K := by
  refine ⟨?_⟩
  rw [f14_run a0 a1 K]
  have hT : K true := hK _ rfl
  simp only [show (!(f16 ())) = false from rfl, br_f, show f84 a0 = a0 from rfl]
  rw [br_both]
  refine ⟨fun _ => hT, fun hs => ?_⟩
  have hs : f82 (a0, a1) = true := by simpa using hs
  have h10 : a0.length ≤ 10 := by
    unfold f82 at hs
    simp only [Bool.and_eq_true, decide_eq_true_eq] at hs
    exact hs.1
  refine ⟨show a0.length ≤ 100 by omega, trivial, show a0.length ≤ 100 by omega, trivial, ?_⟩
  rw [br_both]
  refine ⟨fun he => ?_, fun he => ?_⟩
  · have he : f86 (a0, a1) ≠ 0 := by simpa using he
    have e83 : f83 (a0, a1) = ([], f86 (a0, a1)) := by rw [f83, if_pos he]
    have e85 : f85 (a0, a1) = ([], f86 (a0, a1)) := by rw [f85, if_pos he]
    simp only [e83, e85, beq_self_eq_true, br_t]
    exact hT
  · have he : f86 (a0, a1) = 0 := by simpa using he
    obtain ⟨⟨hn0, h8⟩, hin, hl0, hl1⟩ := f86_zero he
    simp only at hn0 h8 hin hl0 hl1
    have e83 : f83 (a0, a1) = (unf a0 a1, 0) := by rw [f83, if_neg (by simpa using he)]
    have e85 : f85 (a0, a1) = (bestS a0 a1, if (bestS a0 a1).length > 0 then 0 else 12) := by rw [f85, if_neg (by simpa using he)]
    have e87 : f87 (a0, a1) = unf a0 a1 := rfl
    have e40 : ∀ l : List Int, f40 (l, l) = true := fun l => by simp [f40]
    simp only [e83, e85, e87, e40, bne_self_eq_false, Bool.not_true, br_f]
    refine ⟨⟨hin, hl0, hl1⟩, ⟨h8, hin, hl0, hl1⟩, ?_⟩
    cases hu : (unf a0 a1).isEmpty with
    | false =>
      have e88 : f88 (a0, a1) = ([], false) := by rw [f88, hu]; rfl
      have eb : bestS a0 a1 = [] := bestTo_open hu _
      simp only [e88, eb]
      exact hT
    | true =>
      have e88 : f88 (a0, a1) = (bestS a0 a1, true) := by rw [f88, hu]; rfl
      have hne := bestS_closed hn0 hu
      have hpos : (bestS a0 a1).length > 0 := List.length_pos_iff.2 hne
      simp only [e88, e40, if_pos hpos, Bool.not_true, br_f, beq_self_eq_true, br_t]
      exact hT
theorem f14_fn : f14_e.fn = f14 := rfl
theorem f14_ok : EntryOK Try.prog 14 f14_e := by
  refine entryF progOK (EnvOK.cons f16_ok (EnvOK.cons f40_ok (EnvOK.cons f82_ok (EnvOK.cons f83_ok (EnvOK.cons f84_ok (EnvOK.cons f85_ok (EnvOK.cons f86_ok (EnvOK.cons f87_ok (EnvOK.cons f88_ok (EnvOK.nil)))))))))) (A := f14_A) (d := 6) Try.func14 rfl rfl rfl (fun _ _ => trivial) fun x hpre => ?_
  obtain ⟨a0, a1⟩ := x
  exact f14_t a0 a1 _ fun _ h => h.trans (congrFun f14_fn.symm _)
end Go.Proofs.Ytdhekhichomoiaa
end
