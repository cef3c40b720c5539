/- What functions of the program compute, each proved once, part 11. -/
import Derived.Test.YtglijnhkdnhofaaPiD
import Derived.Test.YtglijnhkdnhofaaFnA
import Derived.Test.YtglijnhkdnhofaaFnJ
import Derived.Test.YtglijnhkdnhofaaFnF
import Derived.Test.YtglijnhkdnhofaaFnI
import Derived.Test.YtglijnhkdnhofaaFnD

section
namespace Go.Proofs.Ytglijnhkdnhofaa
open Go Go.Pi Go.RowKit
set_option maxRecDepth 100000
set_option linter.unusedVariables false
set_option linter.unusedSimpArgs false

def f99 (x : List ((Int × Int × Int) × Int × Int) × List Int × List Int) : Int × Int := totL (pickI x.1 x.2.1) x.2.2
def f99_pre (x : List ((Int × Int × Int) × Int × Int) × List Int × List Int) : Prop := TotOK x.1 x.2.1 x.2.2
def f99_e : Entry := { doms := [(false, (.sl (.pair (.pair (.int .i64) (.pair (.int .i64) (.int .i64))) (.pair (.int .i64) (.int .i64))))), (true, (.pair (.sl (.int .i64)) (.sl (.int .i64))))], cods := [(true, (.pair (.int .i64) (.int .i64)))], pre := f99_pre, fn := f99, uq := false, total := false }
def f99_E : Env := [(94, f94_e)]
def f99_A : Anns := { loops := [(1048576, { tms := [(0, .keep), (3, .keep), (4, .keep), (5, .keep), (6, .data false (.int .i64))], obs := [(1048576, .keep), (1048577, .keep), (1049600, .cells [.data (.int .i64), .data (.int .i64)])], fz := [] })], own := [] }
theorem f99_run (a0 : List ((Int × Int × Int) × Int × Int)) (a1 : List Int × List Int) (K : (Int × Int) → Prop) : runF Try.prog f99_E f99_A 6 Try.f99 f99_e.doms f99_e.cods (a0, a1) K =
    (LoopP (V := Int × Int × Int × Unit) (fun again v => (fun (again1 : Int → Int → Int → Prop) (v1_0 : Int) (v1_1 : Int) (v1_2 : Int) =>
    br (lenOk (a1.1.length))
    (br (decide (v1_0 < ((a1.1.length) : Int)))
    (br (decide (0 ≤ v1_0) && decide (v1_0 < ((a1.1.length) : Int)))
    (br (decide (0 ≤ (a1.1.getD v1_0.toNat 0)) && decide ((a1.1.getD v1_0.toNat 0) < ((a0.length) : Int)))
    (br (decide (0 ≤ v1_0) && decide (v1_0 < ((a1.2.length) : Int)))
    (br (decide (0 ≤ v1_0) && decide (v1_0 < ((a1.1.length) : Int)))
    (br (decide (0 ≤ (a1.1.getD v1_0.toNat 0)) && decide ((a1.1.getD v1_0.toNat 0) < ((a0.length) : Int)))
    (br (decide (0 ≤ v1_0) && decide (v1_0 < ((a1.2.length) : Int)))
    (again1 (IntKind.i64.wrap (v1_0 + 1)) (IntKind.i64.wrap (v1_1 + (minmax false (IntKind.i64.wrap (((a0.getD ((a1.1.getD v1_0.toNat 0).toNat) ((0, (0, 0)), (0, 0))).2).1 * (a1.2.getD v1_0.toNat 0))) (IntKind.i64.wrap (((a0.getD ((a1.1.getD v1_0.toNat 0).toNat) ((0, (0, 0)), (0, 0))).2).2 * (a1.2.getD v1_0.toNat 0)))))) (IntKind.i64.wrap (v1_2 + (minmax true (IntKind.i64.wrap (((a0.getD ((a1.1.getD v1_0.toNat 0).toNat) ((0, (0, 0)), (0, 0))).2).1 * (a1.2.getD v1_0.toNat 0))) (IntKind.i64.wrap (((a0.getD ((a1.1.getD v1_0.toNat 0).toNat) ((0, (0, 0)), (0, 0))).2).2 * (a1.2.getD v1_0.toNat 0)))))))
    False)
    False)
    False)
    False)
    False)
    False)
    (K (v1_1, v1_2)))
    True)
    (fun v1_0 v1_1 v1_2 => again (v1_0, v1_1, v1_2, ())) v.1 v.2.1 v.2.2.1) (0, 0, 0, ())) := by kernel_rfl
theorem f99_t (a0 : List ((Int × Int × Int) × Int × Int)) (a1 : List Int × List Int) (hpre : f99_pre (a0, a1)) (K : (Int × Int) → Prop) (hK : ∀ y : Int × Int, y = f99 (a0, a1) → K y) : RunF Try.prog f99_E f99_A 6 Try.f99 f99_e.doms f99_e.cods (a0, a1) K := by
  refine ⟨?_⟩
  rw [f99_run a0 a1 K]
  have hp : TotOK a0 a1.1 a1.2 := hpre
  have h6 := hp.six
  have hl := hp.len
  have e0 : f99 (a0, a1) = totL (pickI a0 a1.1) a1.2 := rfl
  refine LoopP.up (a1.1.length : Int) (fun i v => v = ((totL (pickI a0 (a1.1.take i.toNat)) (a1.2.take i.toNat)).1, (totL (pickI a0 (a1.1.take i.toNat)) (a1.2.take i.toNat)).2, ())) (fun again i v hi0 hin hI hag => ?_) (by omega) rfl
  subst hI
  obtain ⟨k, rfl⟩ := Int.eq_ofNat_of_zero_le hi0
  rw [Int.toNat_natCast]
  dsimp only
  refine br_weak (br_if (fun hlt => ?_) fun hge => hK _ ?_)
  · have hk : k < a1.1.length := by omega
    have hF : k < a1.2.length := by omega
    have hn := hp.inn (a1.1.getD k 0) (by rw [getD_lt hk]; exact List.getElem_mem _)
    have hfac := hp.fac (a1.2.getD k 0) (by rw [getD_lt hF]; exact List.getElem_mem _)
    have hb := mnmx_le hfac (hp.rng (a0.getD (a1.1.getD k 0).toNat rd0) (getD_mem (by omega)))
    have hle := totL_le hp k (by omega)
    have hk6 : (k : Int) ≤ 6 := by omega
    have hh := hag _ hlt rfl
    rw [show ((k : Int) + 1).toNat = k + 1 by omega] at hh
    have e : pickI a0 (a1.1.take (k + 1)) = pickI a0 (a1.1.take k) ++ [a0.getD (a1.1.getD k 0).toNat rd0] := by
      rw [take_snoc a1.1 hk]; simp [pickI]
    rw [e, take_snoc a1.2 hF, totL_snoc _ _ (by simp [pickI]; omega)] at hh
    have b1 := inb (i := (k : Int)) (n := a1.1.length) (by omega) hlt
    have b2 := inb (i := (k : Int)) (n := a1.2.length) (by omega) (by omega)
    have b3 := inb (i := a1.1.getD k 0) (n := a0.length) hn.1 hn.2
    refine br_must b1 (br_must b3 (br_must b2 (br_must b1 (br_must b3 (br_must b2 ?_)))))
    have dr : (((0 : Int), (0 : Int), (0 : Int)), (0 : Int), (0 : Int)) = rd0 := rfl
    rw [wr (n := (k : Int) + 1) (by omega) (by omega), dr, Int.mul_comm _ (a1.2.getD k 0), Int.mul_comm (a0.getD (a1.1.getD k 0).toNat rd0).2.2 (a1.2.getD k 0)]
    rw [wr (n := a1.2.getD k 0 * (a0.getD (a1.1.getD k 0).toNat rd0).2.1) (by omega) (by omega), wr (n := a1.2.getD k 0 * (a0.getD (a1.1.getD k 0).toNat rd0).2.2) (by omega) (by omega), mm_min, mm_max']
    unfold mn mx at hh
    rw [wr (by omega) (by omega), wr (by omega) (by omega)]
    exact hh
  · have : k = a1.1.length := by omega
    subst this
    rw [e0, List.take_of_length_le (Nat.le_refl _), List.take_of_length_le (by omega)]
theorem f99_fn : f99_e.fn = f99 := rfl
theorem f99_ok : EntryOK Try.prog 99 f99_e := by
  refine entryF progOK (EnvOK.cons f94_ok (EnvOK.nil)) (A := f99_A) (d := 6) Try.func99 rfl rfl rfl rfl (fun h => by cases h) fun x hpre => ?_
  obtain ⟨a0, a1⟩ := x
  exact f99_t a0 a1 hpre _ fun _ h => h.trans (congrFun f99_fn.symm _)
end Go.Proofs.Ytglijnhkdnhofaa
end

section
namespace Go.Proofs.Ytglijnhkdnhofaa
open Go Go.Pi Go.RowKit
set_option maxRecDepth 100000
set_option linter.unusedVariables false
set_option linter.unusedSimpArgs false

def rdIx (n : Nat) (R : List Int) (i : Nat) : Int := if ¬ (0 ≤ R.getD i 0 ∧ R.getD i 0 ≤ (n : Int) - 1) then 6 else if 0 < i ∧ R.getD i 0 ≤ R.getD (i - 1) 0 then 9 else 0
def fcIx (F : List Int) (i : Nat) : Int := if -1000000000 ≤ F.getD i 0 ∧ F.getD i 0 ≤ 1000000000 then 0 else 2
def prfE (l : List Rd) (R F : List Int) : Int := if R.length = 0 ∨ F.length ≠ R.length then 10 else if (eachE R.length (rdIx l.length R)).2 ≠ 0 then (eachE R.length (rdIx l.length R)).2 else
  if (eachE F.length (fcIx F)).2 ≠ 0 then (eachE F.length (fcIx F)).2 else if combI l R F ≠ z3 then 3 else if apart (totL (pickI l R) F) = true then 0 else 17
def f48 (x : List ((Int × Int × Int) × Int × Int) × List Int × List Int) : Int := prfE x.1 x.2.1 x.2.2
def f48_pre (x : List ((Int × Int × Int) × Int × Int) × List Int × List Int) : Prop := RdOK x.1
theorem asc_room : ∀ (R : List Int) (m n : Int), (∀ x ∈ R, m ≤ x ∧ x < n) → R.Pairwise (· < ·) → m ≤ n → (R.length : Int) ≤ n - m
  | [], m, n, _, _, h => by simp; omega
  | x :: R, m, n, h, hp, hmn => by
    have hp' := List.pairwise_cons.1 hp
    have hx := h x (.head _)
    have := asc_room R (x + 1) n (fun y hy => ⟨by have := hp'.1 y hy; omega, (h y (.tail _ hy)).2⟩) hp'.2 (by omega)
    simp; omega
theorem ix_asc {n : Nat} {R : List Int} (h : ∀ i, i < R.length → rdIx n R i = 0) : (∀ x ∈ R, 0 ≤ x ∧ x < (n : Int)) ∧ R.Pairwise (· < ·) := by
  have h1 : ∀ i, i < R.length → (0 ≤ R.getD i 0 ∧ R.getD i 0 ≤ (n : Int) - 1) ∧ (0 < i → R.getD (i - 1) 0 < R.getD i 0) := fun i hi => by
    have := h i hi
    unfold rdIx at this
    split at this
    · cases this
    · rename_i h2
      split at this
      · cases this
      · rename_i h3
        exact ⟨Classical.byContradiction h2, fun h0 => by omega⟩
  constructor
  · intro x hx
    obtain ⟨i, hi, e⟩ := mem_getD0 hx
    have := (h1 i hi).1
    omega
  · rw [List.pairwise_iff_getElem]
    intro i j hi hj hij
    have key : ∀ d i, i + d + 1 < R.length → R.getD i 0 < R.getD (i + d + 1) 0 := by
      intro d
      induction d with
      | zero => intro i hi; have := (h1 (i + 1) (by omega)).2 (by omega); simpa using this
      | succ d ih =>
        intro i hi
        have a := ih i (by omega)
        have b := (h1 (i + d + 1 + 1) (by omega)).2 (by omega)
        have : i + d + 1 + 1 - 1 = i + d + 1 := by omega
        rw [this] at b
        show R.getD i 0 < R.getD (i + d + 1 + 1) 0
        omega
    have := key (j - i - 1) i (by omega)
    rw [show i + (j - i - 1) + 1 = j by omega, getD_lt hi, getD_lt hj] at this
    exact this
theorem prf_ok {l : List Rd} (rok : RdOK l) {R F : List Int} (hl : F.length = R.length) (h1 : ∀ i, i < R.length → rdIx l.length R i = 0) (h2 : ∀ i, i < F.length → fcIx F i = 0) : PrfOK l R F := by
  obtain ⟨a, b⟩ := ix_asc h1
  have := asc_room R 0 l.length a b (by omega)
  have h6 := rok.six
  refine ⟨⟨by omega, hl.symm, a, fun n hn => ?_, fun r hr => by have := rok.rng r hr; omega⟩, fun r hr => (rok.dir r hr).1⟩
  obtain ⟨i, hi, e⟩ := mem_getD0 hn
  have := h2 i hi
  unfold fcIx at this
  split at this
  · omega
  · cases this
def f48_e : Entry := { doms := [(false, (.sl (.pair (.pair (.int .i64) (.pair (.int .i64) (.int .i64))) (.pair (.int .i64) (.int .i64))))), (true, (.pair (.sl (.int .i64)) (.sl (.int .i64))))], cods := [(false, (.int .i64))], pre := f48_pre, fn := f48, uq := false, total := false }
def f48_E : Env := [(35, f35_e), (98, f98_e), (99, f99_e), (94, f94_e)]
def f48_A : Anns := { loops := [(1048576, { tms := [(0, .keep), (3, .keep), (5, .data false (.int .i64))], obs := [(1048576, .keep)], fz := [] }),
  (1048578, { tms := [(0, .keep), (3, .keep), (6, .data false (.int .i64))], obs := [(1048576, .keep)], fz := [] })], own := [] }
theorem f48_run (a0 : List ((Int × Int × Int) × Int × Int)) (a1 : List Int × List Int) (K : Int → Prop) : runF Try.prog f48_E f48_A 6 Try.f48 f48_e.doms f48_e.cods (a0, a1) K =
    (br (lenOk (a1.1.length))
    (br (((a1.1.length) : Int) == 0)
    (K 10)
    (br (lenOk (a1.2.length))
    (br (lenOk (a1.1.length))
    (br (((a1.2.length) : Int) != ((a1.1.length) : Int))
    (K 10)
    (LoopP (V := Int × Unit) (fun again v => (fun (again1 : Int → Prop) (v1_0 : Int) =>
    br (lenOk (a1.1.length))
    (br (decide (v1_0 < ((a1.1.length) : Int)))
    (br (decide (0 ≤ v1_0) && decide (v1_0 < ((a1.1.length) : Int)))
    (br (lenOk (a0.length))
    (br (!(f35 ((a1.1.getD v1_0.toNat 0), (0, (IntKind.i64.wrap (((a0.length) : Int) - 1))))))
    (K 6)
    (br (decide (v1_0 > 0))
    (br (decide (0 ≤ v1_0) && decide (v1_0 < ((a1.1.length) : Int)))
    (br (decide (0 ≤ (IntKind.i64.wrap (v1_0 - 1))) && decide ((IntKind.i64.wrap (v1_0 - 1)) < ((a1.1.length) : Int)))
    (br (decide ((a1.1.getD v1_0.toNat 0) ≤ (a1.1.getD ((IntKind.i64.wrap (v1_0 - 1)).toNat) 0)))
    (K 9)
    (again1 (IntKind.i64.wrap (v1_0 + 1))))
    False)
    False)
    (again1 (IntKind.i64.wrap (v1_0 + 1)))))
    True)
    False)
    (LoopP (V := Int × Unit) (fun again v => (fun (again2 : Int → Prop) (v2_0 : Int) =>
    br (lenOk (a1.2.length))
    (br (decide (v2_0 < ((a1.2.length) : Int)))
    (br (decide (0 ≤ v2_0) && decide (v2_0 < ((a1.2.length) : Int)))
    (br (!(f35 ((a1.2.getD v2_0.toNat 0), ((-1000000000), 1000000000))))
    (K 2)
    (again2 (IntKind.i64.wrap (v2_0 + 1))))
    False)
    (f98_pre (a0, a1) ∧
    br (!(f98 (a0, a1)))
    (K 3)
    (f99_pre (a0, a1) ∧
    br (decide ((f99 (a0, a1)).1 ≤ 0))
    (br (decide ((f99 (a0, a1)).2 ≥ 0))
    (K 17)
    (K 0))
    (K 0))))
    True)
    (fun v2_0 => again (v2_0, ())) v.1) (0, ())))
    True)
    (fun v1_0 => again (v1_0, ())) v.1) (0, ())))
    True)
    True))
    True) := by kernel_rfl
theorem f48_t (a0 : List ((Int × Int × Int) × Int × Int)) (a1 : List Int × List Int) (hpre : f48_pre (a0, a1)) (K : Int → Prop) (hK : ∀ y : Int, y = f48 (a0, a1) → K y) : RunF Try.prog f48_E f48_A 6 Try.f48 f48_e.doms f48_e.cods (a0, a1) K := by
  refine ⟨?_⟩
  rw [f48_run a0 a1 K]
  have rok : RdOK a0 := hpre
  have e0 : f48 (a0, a1) = prfE a0 a1.1 a1.2 := rfl
  have h6 := rok.six
  have hp := rok.pos
  have e35 : ∀ n a b, f35 (n, a, b) = (decide (a ≤ n) && decide (n ≤ b)) := fun _ _ _ => rfl
  refine br_true_.2 fun hR => ?_
  have hR := lenOk_iff.1 hR
  refine br_two (fun h => hK _ ?_) fun h => br_true_.2 fun hF => br_weak (br_two (fun h' => hK _ ?_) fun h' => ?_)
  · rw [e0, prfE, if_pos (.inl (by have := beq_iff_eq.1 h; omega))]
  · rw [e0, prfE, if_pos (.inr (by have := bne_iff_ne.1 h'; omega))]
  have hF := lenOk_iff.1 hF
  have r0 : a1.1.length ≠ 0 := fun e => by rw [e] at h; cases h
  have hl : a1.2.length = a1.1.length := by have := bne_f.1 h'; omega
  have e1 : prfE a0 a1.1 a1.2 = if (eachE a1.1.length (rdIx a0.length a1.1)).2 ≠ 0 then (eachE a1.1.length (rdIx a0.length a1.1)).2 else
      if (eachE a1.2.length (fcIx a1.2)).2 ≠ 0 then (eachE a1.2.length (fcIx a1.2)).2 else if combI a0 a1.1 a1.2 ≠ z3 then 3 else if apart (totL (pickI a0 a1.1) a1.2) = true then 0 else 17 := by
    rw [prfE, if_neg (by rintro (q | q); exact r0 q; exact q hl)]
  rw [show IntKind.i64.wrap ((a0.length : Int) - 1) = (a0.length : Int) - 1 from wr (by omega) (by omega)]
  refine LoopP.up (a1.1.length : Int) (fun i _ => ∀ j, j < i.toNat → rdIx a0.length a1.1 j = 0) (fun again i v hi0 hin hI hag => ?_) (by omega) (fun j hj => by simp at hj)
  obtain ⟨k, rfl⟩ := Int.eq_ofNat_of_zero_le hi0
  rw [Int.toNat_natCast] at hI
  dsimp only
  refine br_weak (br_if (fun hlt => ?_) fun hge => ?_)
  · have hk : k < a1.1.length := by omega
    have b1 := inb (i := (k : Int)) (n := a1.1.length) (by omega) hlt
    have err : ∀ e, rdIx a0.length a1.1 k = e → e ≠ 0 → f48 (a0, a1) = e := fun e he hne => by
      rw [e0, e1, eachE_some hk hI (by rw [he]; exact hne), he]
      exact if_pos hne
    have go : rdIx a0.length a1.1 k = 0 → again (IntKind.i64.wrap ((k : Int) + 1), ()) := fun he => by
      rw [wr (by omega) (by omega)]
      refine hag () hlt fun j hj => ?_
      by_cases e : j = k
      · rw [e]; exact he
      · exact hI j (by omega)
    simp only [Int.toNat_natCast, e35]
    refine br_must b1 (br_weak (br_two (fun q => hK _ (err 6 ?_ (by decide)).symm) fun q => ?_))
    · unfold rdIx
      rw [if_pos (fun hh => by rw [decide_eq_true hh.1, decide_eq_true hh.2] at q; cases q)]
    have q : 0 ≤ a1.1.getD k 0 ∧ a1.1.getD k 0 ≤ (a0.length : Int) - 1 := by simpa using q
    refine br_if (fun hpos => ?_) fun hz => go ?_
    · have w : IntKind.i64.wrap ((k : Int) - 1) = ((k - 1 : Nat) : Int) := by rw [wr (by omega) (by omega)]; omega
      rw [w]
      refine br_must b1 (br_must (inb (by omega) (by omega)) (br_if (fun q2 => hK _ (err 9 ?_ (by decide)).symm) fun q2 => go ?_))
      · unfold rdIx
        rw [if_neg (fun hh => hh q), if_pos ⟨by omega, q2⟩]
      · unfold rdIx
        rw [if_neg (fun hh => hh q), if_neg (fun hh => q2 hh.2)]
    · unfold rdIx
      rw [if_neg (fun hh => hh q), if_neg (fun hh => hz (by omega))]
  have hk : k = a1.1.length := by omega
  subst hk
  have z1 : (eachE a1.1.length (rdIx a0.length a1.1)).2 = 0 := by rw [eachE_none hI]
  have e2 : prfE a0 a1.1 a1.2 = if (eachE a1.2.length (fcIx a1.2)).2 ≠ 0 then (eachE a1.2.length (fcIx a1.2)).2 else if combI a0 a1.1 a1.2 ≠ z3 then 3 else if apart (totL (pickI a0 a1.1) a1.2) = true then 0 else 17 := by
    rw [e1, if_neg (fun hh => hh z1)]
  refine LoopP.up (a1.2.length : Int) (fun i _ => ∀ j, j < i.toNat → fcIx a1.2 j = 0) (fun again i v hi0 hin hI2 hag => ?_) (by omega) (fun j hj => by simp at hj)
  obtain ⟨k, rfl⟩ := Int.eq_ofNat_of_zero_le hi0
  rw [Int.toNat_natCast] at hI2
  dsimp only
  refine br_weak (br_if (fun hlt => ?_) fun hge => ?_)
  · have hk : k < a1.2.length := by omega
    have b1 := inb (i := (k : Int)) (n := a1.2.length) (by omega) hlt
    simp only [Int.toNat_natCast, e35]
    refine br_must b1 (br_two (fun q => hK _ ?_) fun q => ?_)
    · have he : fcIx a1.2 k = 2 := by
        unfold fcIx
        rw [if_neg (fun hh => by rw [decide_eq_true hh.1, decide_eq_true hh.2] at q; cases q)]
      rw [e0, e2, eachE_some hk hI2 (by rw [he]; decide), he]; rfl
    · rw [wr (by omega) (by omega)]
      refine hag () hlt fun j hj => ?_
      by_cases e : j = k
      · rw [e]; unfold fcIx
        exact if_pos (by simpa using q)
      · exact hI2 j (by omega)
  have hk : k = a1.2.length := by omega
  subst hk
  have z2 : (eachE a1.2.length (fcIx a1.2)).2 = 0 := by rw [eachE_none hI2]
  have pk := prf_ok rok hl hI hI2
  have e98 : f98 (a0, a1) = decide (combI a0 a1.1 a1.2 = z3) := rfl
  have e99 : f99 (a0, a1) = totL (pickI a0 a1.1) a1.2 := rfl
  have e3 : prfE a0 a1.1 a1.2 = if combI a0 a1.1 a1.2 ≠ z3 then 3 else if apart (totL (pickI a0 a1.1) a1.2) = true then 0 else 17 := by
    rw [e2, if_neg (fun hh => hh z2)]
  rw [e98, e99]
  refine ⟨pk, br_two (fun q => hK _ ?_) fun q => ⟨pk.tot, ?_⟩⟩
  · have hc : combI a0 a1.1 a1.2 ≠ z3 := by simpa using q
    rw [e0, e3, if_pos hc]
  have hc : combI a0 a1.1 a1.2 = z3 := by simpa using q
  have e4 : prfE a0 a1.1 a1.2 = if apart (totL (pickI a0 a1.1) a1.2) = true then 0 else 17 := by
    rw [e3, if_neg (fun hh => hh hc)]
  generalize totL (pickI a0 a1.1) a1.2 = r at *
  refine br_if (fun q1 => br_if (fun q2 => hK _ ?_) fun q2 => hK _ ?_) fun q1 => hK _ ?_
  · have ha : apart r = false := by unfold apart; rw [decide_eq_true ⟨q1, q2⟩]; rfl
    rw [e0, e4, ha]; rfl
  · have ha : apart r = true := by unfold apart; rw [decide_eq_false (fun hh => q2 hh.2)]; rfl
    rw [e0, e4, if_pos ha]
  · have ha : apart r = true := by unfold apart; rw [decide_eq_false (fun hh => q1 hh.1)]; rfl
    rw [e0, e4, if_pos ha]
theorem f48_fn : f48_e.fn = f48 := rfl
theorem f48_ok : EntryOK Try.prog 48 f48_e := by
  refine entryF progOK (EnvOK.cons f35_ok (EnvOK.cons f98_ok (EnvOK.cons f99_ok (EnvOK.cons f94_ok (EnvOK.nil))))) (A := f48_A) (d := 6) Try.func48 rfl rfl rfl rfl (fun h => by cases h) fun x hpre => ?_
  obtain ⟨a0, a1⟩ := x
  exact f48_t a0 a1 hpre _ fun _ h => h.trans (congrFun f48_fn.symm _)
end Go.Proofs.Ytglijnhkdnhofaa
end

section
namespace Go.Proofs.Ytglijnhkdnhofaa
open Go Go.Pi Go.RowKit
set_option maxRecDepth 100000
set_option linter.unusedVariables false
set_option linter.unusedSimpArgs false

def chkW (l : List Rd) (x : List Int × List Int) : (Int × Int) × Int := if (rdOf l).2 ≠ 0 then ((0, 0), (rdOf l).2) else if prfE l x.1 x.2 ≠ 0 then ((0, 0), prfE l x.1 x.2) else (totL (pickI l x.1) x.2, 0)
def f46 (x : List ((Int × Int × Int) × Int × Int) × List Int × List Int) : (Int × Int) × Int := chkW x.1 x.2
def f46_pre (x : List ((Int × Int × Int) × Int × Int) × List Int × List Int) : Prop := x.2.1.length ≤ 1000 ∧ x.2.2.length ≤ 1000
def fst2 (a b : Int) : Int := if a ≠ 0 then a else b
theorem eachE_succ (e : Nat → Int) (n : Nat) : (eachE (n + 1) e).2 = fst2 (eachE n e).2 (e n) := by
  unfold fst2
  by_cases h : ∀ i, i < n → e i = 0
  · rw [eachE_none h]
    rw [if_neg (fun hh => hh rfl)]
    by_cases h2 : e n = 0
    · rw [h2, eachE_none fun i hi => by
        by_cases q : i = n
        · rw [q]; exact h2
        · exact h i (by omega)]
    · rw [eachE_some (by omega) h h2]
  · obtain ⟨i, hi, hne, hmin⟩ : ∃ i, i < n ∧ e i ≠ 0 ∧ ∀ j, j < i → e j = 0 := by
      obtain ⟨i, hi, hne⟩ : ∃ i, i < n ∧ e i ≠ 0 := Classical.byContradiction fun hh => h fun i hi => Classical.byContradiction fun hc => hh ⟨i, hi, hc⟩
      induction i using Nat.strongRecOn with
      | _ i ih =>
        by_cases hm : ∀ j, j < i → e j = 0
        · exact ⟨i, hi, hne, hm⟩
        · obtain ⟨j, hj, hj0⟩ : ∃ j, j < i ∧ e j ≠ 0 := Classical.byContradiction fun hh => hm fun j hj => Classical.byContradiction fun hc => hh ⟨j, hj, hc⟩
          exact ih j hj (by omega) hj0
    rw [eachE_some hi hmin hne, eachE_some (show i < n + 1 by omega) hmin hne, if_pos hne]
theorem f59_two (a b : Int) : f59 [a, b] = fst2 a b := by
  unfold f59 fst2
  by_cases h : a = 0
  · rw [if_neg (fun hh => hh h), h]
    by_cases h2 : b = 0
    · rw [h2]; rfl
    · have : (b != 0) = true := by simpa using h2
      simp [List.find?, this]
  · rw [if_pos h]
    have : (a != 0) = true := by simpa using h
    simp only [List.find?, this]
theorem f59_three (a b c : Int) : f59 [a, b, c] = fst2 a (fst2 b c) := by
  by_cases h : a = 0
  · have e : f59 [a, b, c] = f59 [b, c] := by
      unfold f59
      rw [h]; simp [List.find?]
    rw [e, f59_two]
    conv => rhs; unfold fst2
    rw [if_neg (fun hh => hh h)]; rfl
  · unfold f59 fst2
    rw [if_pos h]
    have : (a != 0) = true := by simpa using h
    simp only [List.find?, this]
def f46_e : Entry := { doms := [(false, (.sl (.pair (.pair (.int .i64) (.pair (.int .i64) (.int .i64))) (.pair (.int .i64) (.int .i64))))), (true, (.pair (.sl (.int .i64)) (.sl (.int .i64))))], cods := [(true, (.pair (.int .i64) (.int .i64))), (false, (.int .i64))], pre := f46_pre, fn := f46, uq := false, total := false }
def f46_E : Env := [(22, f22_e), (59, f59_e), (60, f60_e), (61, f61_e), (93, f93_e), (94, f94_e), (97, f97_e), (48, f48_e)]
def f46_A : Anns := { loops := [(1048576, { tms := [(0, .keep), (3, .keep), (4, .keep), (7, .data false (.int .i64)), (46, .keep), (47, .keep), (48, .data false (.int .i64))], obs := [(1048576, .keep), (1048577, .keep)], fz := [] }),
  (1048578, { tms := [(0, .keep), (3, .keep), (4, .keep), (7, .data false (.int .i64)), (78, .keep), (79, .keep), (80, .data false (.int .i64))], obs := [(1048576, .keep), (1048577, .keep)], fz := [] }),
  (1048580, { tms := [(0, .keep), (3, .keep), (4, .keep), (12, .keep), (96, .keep), (97, .keep), (98, .data false (.int .i64))], obs := [(1048576, .keep), (1048577, .keep), (1065984, .arr (.fixed 3) (.int .i64))], fz := [] }),
  (1572885, { tms := [(0, .keep), (3, .keep), (4, .keep), (7, .data false (.int .i64))], obs := [(1048576, .keep), (1048577, .keep)], fz := [] })], own := [], unroll := 4 }
theorem f46_run (a0 : List ((Int × Int × Int) × Int × Int)) (a1 : List Int × List Int) (K : ((Int × Int) × Int) → Prop) : runF Try.prog f46_E f46_A 6 Try.f46 f46_e.doms f46_e.cods (a0, a1) K =
    (JoinQ (V := Int × Unit) (fun J => (fun (join1 : Int → Prop) =>
    br (lenOk (a1.1.length))
    (br (decide (((a1.1.length) : Int) > 0))
    (br (lenOk (a1.1.length))
    (br (lenOk (a1.2.length))
    (br ((f59 ([(f22 a0).2, (f60 ((((a1.1.length) : Int) == ((a1.2.length) : Int)), 10))] : List Int)) != 0)
    (K ((0, 0), (f59 ([(f22 a0).2, (f60 ((((a1.1.length) : Int) == ((a1.2.length) : Int)), 10))] : List Int))))
    (join1 (f59 ([(f22 a0).2, (f60 ((((a1.1.length) : Int) == ((a1.2.length) : Int)), 10))] : List Int))))
    True)
    True)
    (br ((f59 ([(f22 a0).2, (f60 (false, 10))] : List Int)) != 0)
    (K ((0, 0), (f59 ([(f22 a0).2, (f60 (false, 10))] : List Int))))
    (join1 (f59 ([(f22 a0).2, (f60 (false, 10))] : List Int)))))
    True) (fun j1_0 => J (j1_0, ()))) (fun v => (fun (j1_0 : Int) =>
    br (lenOk (a1.1.length))
    (LoopP (V := Int × Int × Unit) (fun again v => (fun (again2 : Int → Int → Prop) (v2_0 : Int) (v2_1 : Int) =>
    br (decide (v2_1 < ((a1.1.length) : Int)))
    (br (decide (0 ≤ v2_1) && decide (v2_1 < ((a1.1.length) : Int)))
    (br (lenOk (a0.length))
    (br (v2_1 == 0)
    (again2 (f59 ([v2_0, (f60 ((f61 ((a1.1.getD v2_1.toNat 0), (0, (IntKind.i64.wrap (((a0.length) : Int) - 1))))), 6)), (f60 (true, 9))] : List Int)) (IntKind.i64.wrap (v2_1 + 1)))
    (br (decide (0 ≤ (minmax true 0 (IntKind.i64.wrap (v2_1 - 1)))) && decide ((minmax true 0 (IntKind.i64.wrap (v2_1 - 1))) < ((a1.1.length) : Int)))
    (again2 (f59 ([v2_0, (f60 ((f61 ((a1.1.getD v2_1.toNat 0), (0, (IntKind.i64.wrap (((a0.length) : Int) - 1))))), 6)), (f60 ((decide ((a1.1.getD v2_1.toNat 0) > (a1.1.getD ((minmax true 0 (IntKind.i64.wrap (v2_1 - 1))).toNat) 0))), 9))] : List Int)) (IntKind.i64.wrap (v2_1 + 1)))
    False))
    True)
    False)
    (br (lenOk (a1.2.length))
    (LoopP (V := Int × Int × Unit) (fun again v => (fun (again3 : Int → Int → Prop) (v3_0 : Int) (v3_1 : Int) =>
    br (decide (v3_1 < ((a1.2.length) : Int)))
    (br (decide (0 ≤ v3_1) && decide (v3_1 < ((a1.2.length) : Int)))
    (again3 (f59 ([v3_0, (f60 ((f97 ((a1.2.getD v3_1.toNat 0), 1000000000)), 2))] : List Int)) (IntKind.i64.wrap (v3_1 + 1)))
    False)
    (br (v3_0 != 0)
    (K ((0, 0), v3_0))
    (br (lenOk (a1.1.length))
    (LoopP (V := Int × List Int × Unit) (fun again v => (fun (again4 : Int → List Int → Prop) (v4_0 : Int) (v4_1 : List Int) =>
    br (decide (v4_0 < ((a1.1.length) : Int)))
    (br (decide (0 ≤ v4_0) && decide (v4_0 < ((a1.1.length) : Int)))
    (br (decide (0 ≤ (a1.1.getD v4_0.toNat 0)) && decide ((a1.1.getD v4_0.toNat 0) < ((a0.length) : Int)))
    (br (decide (0 ≤ v4_0) && decide (v4_0 < ((a1.2.length) : Int)))
    (br (decide (0 ≤ v4_0) && decide (v4_0 < ((a1.2.length) : Int)))
    (br (decide (0 ≤ v4_0) && decide (v4_0 < ((a1.2.length) : Int)))
    (again4 (IntKind.i64.wrap (v4_0 + 1)) (((v4_1.set 0 (IntKind.i64.wrap ((v4_1.getD 0 0) + (IntKind.i64.wrap ((a1.2.getD v4_0.toNat 0) * ((a0.getD ((a1.1.getD v4_0.toNat 0).toNat) ((0, (0, 0)), (0, 0))).1).1))))).set 1 (IntKind.i64.wrap (((v4_1.set 0 (IntKind.i64.wrap ((v4_1.getD 0 0) + (IntKind.i64.wrap ((a1.2.getD v4_0.toNat 0) * ((a0.getD ((a1.1.getD v4_0.toNat 0).toNat) ((0, (0, 0)), (0, 0))).1).1))))).getD 1 0) + (IntKind.i64.wrap ((a1.2.getD v4_0.toNat 0) * (((a0.getD ((a1.1.getD v4_0.toNat 0).toNat) ((0, (0, 0)), (0, 0))).1).2).1))))).set 2 (IntKind.i64.wrap ((((v4_1.set 0 (IntKind.i64.wrap ((v4_1.getD 0 0) + (IntKind.i64.wrap ((a1.2.getD v4_0.toNat 0) * ((a0.getD ((a1.1.getD v4_0.toNat 0).toNat) ((0, (0, 0)), (0, 0))).1).1))))).set 1 (IntKind.i64.wrap (((v4_1.set 0 (IntKind.i64.wrap ((v4_1.getD 0 0) + (IntKind.i64.wrap ((a1.2.getD v4_0.toNat 0) * ((a0.getD ((a1.1.getD v4_0.toNat 0).toNat) ((0, (0, 0)), (0, 0))).1).1))))).getD 1 0) + (IntKind.i64.wrap ((a1.2.getD v4_0.toNat 0) * (((a0.getD ((a1.1.getD v4_0.toNat 0).toNat) ((0, (0, 0)), (0, 0))).1).2).1))))).getD 2 0) + (IntKind.i64.wrap ((a1.2.getD v4_0.toNat 0) * (((a0.getD ((a1.1.getD v4_0.toNat 0).toNat) ((0, (0, 0)), (0, 0))).1).2).2))))))
    False)
    False)
    False)
    False)
    False)
    (f94_pre (a0, a1) ∧
    br ((f59 ([(f60 ((((v4_1.getD 0 0) == 0) && (((v4_1.getD 1 0) == 0) && (((v4_1.getD 2 0) == 0) && true))), 3)), (f60 ((f93 (f94 (a0, a1))), 17))] : List Int)) != 0)
    (K ((0, 0), (f59 ([(f60 ((((v4_1.getD 0 0) == 0) && (((v4_1.getD 1 0) == 0) && (((v4_1.getD 2 0) == 0) && true))), 3)), (f60 ((f93 (f94 (a0, a1))), 17))] : List Int))))
    (K ((f94 (a0, a1)), 0))))
    (fun v4_0 v4_1 => again (v4_0, v4_1, ())) v.1 v.2.1) (0, ([0, 0, 0] : List Int), ()))
    True)))
    (fun v3_0 v3_1 => again (v3_0, v3_1, ())) v.1 v.2.1) (v2_0, 0, ()))
    True))
    (fun v2_0 v2_1 => again (v2_0, v2_1, ())) v.1 v.2.1) (j1_0, 0, ()))
    True) v.1)) := by kernel_rfl
theorem f46_t (a0 : List ((Int × Int × Int) × Int × Int)) (a1 : List Int × List Int) (hpre : f46_pre (a0, a1)) (K : ((Int × Int) × Int) → Prop) (hK : ∀ y : (Int × Int) × Int, y = f46 (a0, a1) → K y) : RunF Try.prog f46_E f46_A 6 Try.f46 f46_e.doms f46_e.cods (a0, a1) K := by
  refine ⟨?_⟩
  rw [f46_run a0 a1 K]
  obtain ⟨l1, l2⟩ := hpre
  dsimp only at l1 l2
  have e0 : f46 (a0, a1) = chkW a0 a1 := rfl
  have e22 : f22 a0 = rdOf a0 := rfl
  have e60 : ∀ b e, f60 (b, e) = if b then 0 else e := fun _ _ => rfl
  rw [e22]
  refine JoinQ.use (fun q : Int × Unit => q = (0, ()) ∧ (rdOf a0).2 = 0 ∧ a1.1.length ≠ 0 ∧ a1.2.length = a1.1.length) (fun G hG => ?_) fun q hq => ?_
  · simp only [f59_two, e60]
    have bad : prfE a0 a1.1 a1.2 = 10 → fst2 (rdOf a0).2 10 ≠ 0 ∧ K ((0, 0), fst2 (rdOf a0).2 10) := fun hp => by
      unfold fst2
      by_cases h : (rdOf a0).2 ≠ 0
      · rw [if_pos h]; exact ⟨h, hK _ (by rw [e0, chkW, if_pos h])⟩
      · rw [if_neg h]; exact ⟨by decide, hK _ (by rw [e0, chkW, if_neg h, hp]; rfl)⟩
    refine br_weak (br_if (fun hpos => br_weak (br_weak ?_)) fun hz => ?_)
    · by_cases hl : a1.1.length = a1.2.length
      · have ed : (((a1.1.length : Int) == (a1.2.length : Int))) = true := beq_iff_eq.2 (by omega)
        rw [ed]
        unfold fst2
        by_cases h : (rdOf a0).2 ≠ 0
        · rw [if_pos h]
          exact br_two (fun _ => hK _ (by rw [e0, chkW, if_pos h])) fun q => absurd (bne_f.1 q) h
        · rw [if_neg h]
          exact br_two (fun q => by cases q) fun _ => hG _ ⟨rfl, Classical.byContradiction h, by omega, hl.symm⟩
      · have ed : (((a1.1.length : Int) == (a1.2.length : Int))) = false := by rw [beq_eq_false_iff_ne]; omega
        rw [ed]
        obtain ⟨b1, b2⟩ := bad (by rw [prfE, if_pos (.inr (by omega))])
        exact br_two (fun _ => b2) fun q => absurd (bne_f.1 q) b1
    · obtain ⟨b1, b2⟩ := bad (by rw [prfE, if_pos (.inl (by omega))])
      exact br_two (fun _ => b2) fun q => absurd (bne_f.1 q) b1
  obtain ⟨rfl, h24, r0, hl⟩ := hq
  have rok := rdOf_ok h24
  have h6 := rok.six
  have hp := rok.pos
  have e61 : ∀ n a b, f61 (n, a, b) = (decide (a ≤ n) && decide (n ≤ b)) := fun _ _ _ => rfl
  dsimp only
  rw [show IntKind.i64.wrap ((a0.length : Int) - 1) = (a0.length : Int) - 1 from wr (by omega) (by omega)]
  refine br_weak (LoopP.up2 (a1.1.length : Int) (fun i u _ => u = (eachE i.toNat (rdIx a0.length a1.1)).2) (fun again u i v hi0 hin hI hag => ?_) (by omega) rfl)
  subst hI
  obtain ⟨k, rfl⟩ := Int.eq_ofNat_of_zero_le hi0
  rw [Int.toNat_natCast]
  dsimp only
  refine br_if (fun hlt => ?_) fun hge => ?_
  · have hk : k < a1.1.length := by omega
    have b1 := inb (i := (k : Int)) (n := a1.1.length) (by omega) hlt
    have hh := hag _ () hlt rfl
    rw [show ((k : Int) + 1).toNat = k + 1 by omega, eachE_succ] at hh
    rw [wr (n := (k : Int) + 1) (by omega) (by omega)]
    simp only [Int.toNat_natCast, f59_three, e60, e61]
    have hin' : ∀ X Y : Int, (if (decide (0 ≤ a1.1.getD k 0) && decide (a1.1.getD k 0 ≤ (a0.length : Int) - 1)) = true then X else Y) = if 0 ≤ a1.1.getD k 0 ∧ a1.1.getD k 0 ≤ (a0.length : Int) - 1 then X else Y := fun X Y => by
      by_cases q : 0 ≤ a1.1.getD k 0 ∧ a1.1.getD k 0 ≤ (a0.length : Int) - 1
      · rw [if_pos q, if_pos (by rw [decide_eq_true q.1, decide_eq_true q.2]; rfl)]
      · rw [if_neg q, if_neg (fun hh => by simp at hh; exact q hh)]
    refine br_must b1 (br_weak (br_two (fun hz => ?_) fun hz => ?_))
    · have hz : k = 0 := by have := beq_iff_eq.1 hz; omega
      have er : rdIx a0.length a1.1 k = fst2 (if 0 ≤ a1.1.getD k 0 ∧ a1.1.getD k 0 ≤ (a0.length : Int) - 1 then 0 else 6) 0 := by
        unfold rdIx fst2
        by_cases q : 0 ≤ a1.1.getD k 0 ∧ a1.1.getD k 0 ≤ (a0.length : Int) - 1
        · rw [if_neg (fun hh => hh q), if_pos q, if_neg (fun hh => by omega)]; rfl
        · rw [if_pos q, if_neg q]; rfl
      rw [er] at hh
      rw [hin']
      exact hh
    · have hz : 0 < k := by
        have := (beq_eq_false_iff_ne).1 hz
        omega
      have eH : minmax true 0 (IntKind.i64.wrap ((k : Int) - 1)) = ((k - 1 : Nat) : Int) := by
        rw [wr (by omega) (by omega), mm_max']; omega
      rw [eH]
      have er : rdIx a0.length a1.1 k = fst2 (if 0 ≤ a1.1.getD k 0 ∧ a1.1.getD k 0 ≤ (a0.length : Int) - 1 then 0 else 6) (if decide (a1.1.getD k 0 > a1.1.getD (k - 1) 0) = true then 0 else 9) := by
        unfold rdIx fst2
        by_cases q : 0 ≤ a1.1.getD k 0 ∧ a1.1.getD k 0 ≤ (a0.length : Int) - 1
        · rw [if_neg (fun hh => hh q), if_pos q, if_neg (show ¬ ((0 : Int) ≠ 0) from fun hh => hh rfl)]
          by_cases q2 : a1.1.getD k 0 > a1.1.getD (k - 1) 0
          · rw [if_neg (fun hh => by omega), if_pos (decide_eq_true q2)]
          · rw [if_pos ⟨hz, by omega⟩, if_neg (fun hh => q2 (of_decide_eq_true hh))]
        · rw [if_pos q, if_neg q]; rfl
      rw [er] at hh
      rw [hin']
      simp only [Int.toNat_natCast]
      exact br_must (inb (by omega) (by omega)) hh
  have hk : k = a1.1.length := by omega
  subst hk
  have e97 : ∀ n, f97 (n, 1000000000) = (decide (-1000000000 ≤ n) && decide (n ≤ 1000000000)) := fun _ => rfl
  refine br_weak (LoopP.up2 (a1.2.length : Int) (fun i u _ => u = fst2 (eachE a1.1.length (rdIx a0.length a1.1)).2 (eachE i.toNat (fcIx a1.2)).2) (fun again u i v hi0' hin' hI hag' => ?_) (by omega) ?_)
  rotate_left
  · show _ = fst2 _ 0
    unfold fst2
    split
    · rfl
    · rename_i h; exact Classical.byContradiction h
  subst hI
  obtain ⟨k, rfl⟩ := Int.eq_ofNat_of_zero_le hi0'
  rw [Int.toNat_natCast]
  dsimp only
  refine br_if (fun hlt => ?_) fun hge' => ?_
  · have hh := hag' _ () hlt rfl
    rw [show ((k : Int) + 1).toNat = k + 1 by omega, eachE_succ] at hh
    rw [wr (n := (k : Int) + 1) (by omega) (by omega)]
    simp only [Int.toNat_natCast, f59_two, e60, e97]
    refine br_must (inb (by omega) (by omega)) ?_
    have er : (if (decide (-1000000000 ≤ a1.2.getD k 0) && decide (a1.2.getD k 0 ≤ 1000000000)) = true then (0 : Int) else 2) = fcIx a1.2 k := by
      unfold fcIx
      by_cases q : -1000000000 ≤ a1.2.getD k 0 ∧ a1.2.getD k 0 ≤ 1000000000
      · rw [if_pos q, if_pos (by rw [decide_eq_true q.1, decide_eq_true q.2]; rfl)]
      · rw [if_neg q, if_neg (fun hh => by simp at hh; exact q hh)]
    rw [er]
    have ea : ∀ a b c : Int, fst2 (fst2 a b) c = fst2 a (fst2 b c) := fun a b c => by
      unfold fst2
      by_cases h : a ≠ 0
      · rw [if_pos h, if_pos h, if_pos h]
      · rw [if_neg h, if_neg h]
    rw [ea]
    exact hh
  have hk : k = a1.2.length := by omega
  subst hk
  have e1 : prfE a0 a1.1 a1.2 = if (eachE a1.1.length (rdIx a0.length a1.1)).2 ≠ 0 then (eachE a1.1.length (rdIx a0.length a1.1)).2 else
      if (eachE a1.2.length (fcIx a1.2)).2 ≠ 0 then (eachE a1.2.length (fcIx a1.2)).2 else if combI a0 a1.1 a1.2 ≠ z3 then 3 else if apart (totL (pickI a0 a1.1) a1.2) = true then 0 else 17 := by
    rw [prfE, if_neg (by rintro (q | q); exact r0 q; exact q hl)]
  have ec : chkW a0 a1 = if prfE a0 a1.1 a1.2 ≠ 0 then ((0, 0), prfE a0 a1.1 a1.2) else (totL (pickI a0 a1.1) a1.2, 0) := by
    rw [chkW, if_neg (fun hh => hh h24)]
  by_cases z1 : (eachE a1.1.length (rdIx a0.length a1.1)).2 ≠ 0
  · have ev : fst2 (eachE a1.1.length (rdIx a0.length a1.1)).2 (eachE a1.2.length (fcIx a1.2)).2 = prfE a0 a1.1 a1.2 := by rw [e1, if_pos z1, fst2, if_pos z1]
    have ne : prfE a0 a1.1 a1.2 ≠ 0 := by rw [e1, if_pos z1]; exact z1
    rw [ev]
    exact br_two (fun _ => hK _ (by rw [e0, ec, if_pos ne])) fun q => absurd (bne_f.1 q) ne
  by_cases z2 : (eachE a1.2.length (fcIx a1.2)).2 ≠ 0
  · have ev : fst2 (eachE a1.1.length (rdIx a0.length a1.1)).2 (eachE a1.2.length (fcIx a1.2)).2 = prfE a0 a1.1 a1.2 := by rw [e1, if_neg z1, if_pos z2, fst2, if_neg z1]
    have ne : prfE a0 a1.1 a1.2 ≠ 0 := by rw [e1, if_neg z1, if_pos z2]; exact z2
    rw [ev]
    exact br_two (fun _ => hK _ (by rw [e0, ec, if_pos ne])) fun q => absurd (bne_f.1 q) ne
  have ev : fst2 (eachE a1.1.length (rdIx a0.length a1.1)).2 (eachE a1.2.length (fcIx a1.2)).2 = 0 := by rw [fst2, if_neg z1]; exact Classical.byContradiction z2
  have pk := prf_ok rok hl (eachE_zero (Classical.byContradiction z1)) (eachE_zero (Classical.byContradiction z2))
  rw [ev]
  refine br_two (fun q => by cases q) fun _ => br_weak ?_
  have e3 : prfE a0 a1.1 a1.2 = if combI a0 a1.1 a1.2 ≠ z3 then 3 else if apart (totL (pickI a0 a1.1) a1.2) = true then 0 else 17 := by
    rw [e1, if_neg z1, if_neg z2]
  have hs6 := pk.tot.six
  have hl' := pk.tot.len
  refine LoopP.up (a1.1.length : Int) (fun i v => v = ([(combI a0 (a1.1.take i.toNat) (a1.2.take i.toNat)).1, (combI a0 (a1.1.take i.toNat) (a1.2.take i.toNat)).2.1, (combI a0 (a1.1.take i.toNat) (a1.2.take i.toNat)).2.2], ())) (fun again i v hi0 hin hI hag => ?_) (by omega) rfl
  subst hI
  obtain ⟨k, rfl⟩ := Int.eq_ofNat_of_zero_le hi0
  rw [Int.toNat_natCast]
  dsimp only
  refine br_if (fun hlt => ?_) fun hge => ?_
  · have hk : k < a1.1.length := by omega
    have hF : k < a1.2.length := by omega
    have hn := pk.tot.inn (a1.1.getD k 0) (by rw [getD_lt hk]; exact List.getElem_mem _)
    have hfac := pk.tot.fac (a1.2.getD k 0) (by rw [getD_lt hF]; exact List.getElem_mem _)
    have hd := pk.dir (a0.getD (a1.1.getD k 0).toNat rd0) (getD_mem (by omega))
    have m1 := mul_le hfac hd.1
    have m2 := mul_le hfac hd.2.1
    have m3 := mul_le hfac hd.2.2
    obtain ⟨q1, q2, q3⟩ := combI_le pk k (by omega)
    have hh := hag _ hlt rfl
    rw [show ((k : Int) + 1).toNat = k + 1 by omega, combI_take hl' hk] at hh
    have b1 := inb (i := (k : Int)) (n := a1.1.length) (by omega) hlt
    have b2 := inb (i := (k : Int)) (n := a1.2.length) (by omega) (by omega)
    have b3 := inb (i := a1.1.getD k 0) (n := a0.length) hn.1 hn.2
    refine br_must b1 (br_must b3 (br_must b2 (br_must b2 (br_must b2 ?_))))
    have dr : (((0 : Int), (0 : Int), (0 : Int)), (0 : Int), (0 : Int)) = rd0 := rfl
    simp only [List.set_cons_zero, List.set_cons_succ, List.getD_cons_zero, List.getD_cons_succ, dr]
    rw [wr (n := (k : Int) + 1) (by omega) (by omega)]
    rw [wr (n := a1.2.getD k 0 * (a0.getD (a1.1.getD k 0).toNat rd0).1.1) (by omega) (by omega), wr (n := a1.2.getD k 0 * (a0.getD (a1.1.getD k 0).toNat rd0).1.2.1) (by omega) (by omega), wr (n := a1.2.getD k 0 * (a0.getD (a1.1.getD k 0).toNat rd0).1.2.2) (by omega) (by omega)]
    have hk6 : (k : Int) ≤ 6 := by omega
    rw [wr (by omega) (by omega), wr (by omega) (by omega), wr (by omega) (by omega)]
    exact hh
  · have hk : k = a1.1.length := by omega
    subst hk
    rw [List.take_of_length_le (Nat.le_refl _), List.take_of_length_le (by omega)]
    have e94 : f94 (a0, a1) = totL (pickI a0 a1.1) a1.2 := rfl
    have e93 : ∀ r, f93 r = apart r := fun _ => rfl
    simp only [List.getD_cons_zero, List.getD_cons_succ, f59_two, e60, e94, e93]
    rw [v3_z]
    refine ⟨pk.tot, ?_⟩
    have ev : fst2 (if decide (combI a0 a1.1 a1.2 = z3) = true then 0 else 3) (if apart (totL (pickI a0 a1.1) a1.2) = true then 0 else 17) = prfE a0 a1.1 a1.2 := by
      rw [e3, fst2]
      by_cases q : combI a0 a1.1 a1.2 = z3
      · rw [if_pos (decide_eq_true q), if_neg (show ¬ ((0 : Int) ≠ 0) from fun hh => hh rfl), if_neg (show ¬ combI a0 a1.1 a1.2 ≠ z3 from fun hh => hh q)]
      · rw [if_neg (fun hh => q (of_decide_eq_true hh)), if_pos (show (3 : Int) ≠ 0 by decide), if_pos q]
    rw [ev]
    refine br_two (fun q => hK _ ?_) fun q => hK _ ?_
    · rw [e0, ec, if_pos (bne_iff_ne.1 q)]
    · rw [e0, ec, if_neg (fun hh => hh (bne_f.1 q))]
theorem f46_fn : f46_e.fn = f46 := rfl
theorem f46_ok : EntryOK Try.prog 46 f46_e := by
  refine entryF progOK (EnvOK.cons f22_ok (EnvOK.cons f59_ok (EnvOK.cons f60_ok (EnvOK.cons f61_ok (EnvOK.cons f93_ok (EnvOK.cons f94_ok (EnvOK.cons f97_ok (EnvOK.cons f48_ok (EnvOK.nil))))))))) (A := f46_A) (d := 6) Try.func46 rfl rfl rfl rfl (fun h => by cases h) fun x hpre => ?_
  obtain ⟨a0, a1⟩ := x
  exact f46_t a0 a1 hpre _ fun _ h => h.trans (congrFun f46_fn.symm _)
end Go.Proofs.Ytglijnhkdnhofaa
end

section
namespace Go.Proofs.Ytglijnhkdnhofaa
open Go Go.Pi Go.RowKit
set_option maxRecDepth 100000
set_option linter.unusedVariables false
set_option linter.unusedSimpArgs false

def f14 (l : List Int) : List Int := l
def f14_pre (l : List Int) : Prop := l.length ≤ 1048576
def f14_e : Entry := { doms := [(false, (.sl (.int .i64)))], cods := [(false, (.sl (.int .i64)))], pre := f14_pre, fn := f14, uq := true, total := false }
def f14_E : Env := []
def f14_A : Anns := { loops := [], own := [1049600] }
theorem f14_run (a0 : List Int) (K : (List Int) → Prop) : runU Try.prog f14_E f14_A 6 Try.f14 f14_e.doms f14_e.cods a0 K =
    (br (roomOk (0 + (a0.length)) 8)
    (K (([] : List Int) ++ a0))
    False) := by kernel_rfl
theorem f14_t (a0 : List Int) (hpre : f14_pre a0) (K : (List Int) → Prop) (hK : ∀ y : List Int, y = f14 a0 → K y) : RunU Try.prog f14_E f14_A 6 Try.f14 f14_e.doms f14_e.cods a0 K := by
  refine ⟨?_⟩
  rw [f14_run a0 K]
  simp only [br_false_, roomOk_iff]
  have : a0.length ≤ 1048576 := hpre
  exact ⟨by omega, hK _ (by simp [f14])⟩
theorem f14_fn : f14_e.fn = f14 := rfl
theorem f14_ok : EntryOK Try.prog 14 f14_e := by
  refine entryFU progOK (EnvOK.nil) (A := f14_A) (d := 6) Try.func14 rfl rfl rfl (fun h => by cases h) fun x hpre => ?_
  exact f14_t x hpre _ fun _ h => h.trans (congrFun f14_fn.symm _)
end Go.Proofs.Ytglijnhkdnhofaa
end

section
namespace Go.Proofs.Ytglijnhkdnhofaa
open Go Go.Pi Go.RowKit
set_option maxRecDepth 100000
set_option linter.unusedVariables false
set_option linter.unusedSimpArgs false

def f47 (x : List Int × List Int) : List Int × List Int := x
def f47_pre (x : List Int × List Int) : Prop := f14_pre x.1 ∧ f14_pre x.2
def f47_e : Entry := { doms := [(true, (.pair (.sl (.int .i64)) (.sl (.int .i64))))], cods := [(true, (.pair (.sl (.int .i64)) (.sl (.int .i64))))], pre := f47_pre, fn := f47, uq := false, total := false }
def f47_E : Env := [(14, f14_e)]
def f47_A : Anns := { loops := [], own := [] }
theorem f47_run (a0 : List Int × List Int) (K : (List Int × List Int) → Prop) : runF Try.prog f47_E f47_A 6 Try.f47 f47_e.doms f47_e.cods a0 K =
    (f14_pre a0.1 ∧
    f14_pre a0.2 ∧
    K ((f14 a0.1), (f14 a0.2))) := by kernel_rfl
theorem f47_t (a0 : List Int × List Int) (hpre : f47_pre a0) (K : (List Int × List Int) → Prop) (hK : ∀ y : List Int × List Int, y = f47 a0 → K y) : RunF Try.prog f47_E f47_A 6 Try.f47 f47_e.doms f47_e.cods a0 K := by
  refine ⟨?_⟩
  rw [f47_run a0 K]
  exact ⟨hpre.1, hpre.2, hK _ rfl⟩
theorem f47_fn : f47_e.fn = f47 := rfl
theorem f47_ok : EntryOK Try.prog 47 f47_e := by
  refine entryF progOK (EnvOK.cons f14_ok (EnvOK.nil)) (A := f47_A) (d := 6) Try.func47 rfl rfl rfl rfl (fun h => by cases h) fun x hpre => ?_
  exact f47_t x hpre _ fun _ h => h.trans (congrFun f47_fn.symm _)
end Go.Proofs.Ytglijnhkdnhofaa
end
