/- What functions of the program compute, each proved once, part 6. -/
import Derived.Test.YtglokajinehbmaaPiD
import Derived.Test.YtglokajinehbmaaFnA
import Derived.Test.YtglokajinehbmaaFnE
import Derived.Test.YtglokajinehbmaaFnB

section
namespace Go.Proofs.Ytglokajinehbmaa
open Go Go.Pi Go.RowKit
set_option maxRecDepth 100000
set_option linter.unusedVariables false
set_option linter.unusedSimpArgs false

theorem soonF_le {p : Prob} {a t : Int} : ∀ {l : List (Int × Int)}, soonF p l a ≤ t ↔ (p.2.1.getD a.toNat arrD).2.2.1 ≤ t ∧ ∀ s ∈ l, s.2 + apartF p s.1 a ≤ t := by
  intro l
  unfold soonF
  generalize (p.2.1.getD a.toNat arrD).2.2.1 = e
  induction l generalizing e with
  | nil => simp
  | cons s r ih =>
    rw [List.foldl_cons, ih]
    constructor
    · rintro ⟨h1, h2⟩
      refine ⟨by omega, fun x hx => ?_⟩
      rcases List.mem_cons.1 hx with rfl | hx
      · omega
      · exact h2 x hx
    · rintro ⟨h1, h2⟩
      have := h2 s (.head _)
      exact ⟨by omega, fun x hx => h2 x (.tail _ hx)⟩
def slE (p : Prob) (l : List (Int × Int)) (i : Nat) : Int := if slot1 p (l.take i) (l.getD i (0, 0)) ≠ 0 then slot1 p (l.take i) (l.getD i (0, 0)) else
  if ¬ ((p.2.1.getD (l.getD i (0, 0)).1.toNat arrD).2.2.1 ≤ (l.getD i (0, 0)).2 ∧ (l.getD i (0, 0)).2 ≤ (p.2.1.getD (l.getD i (0, 0)).1.toNat arrD).2.2.2.1) then 2 else if (l.getD i (0, 0)).2 < soonF p (l.take i) (l.getD i (0, 0)).1 then 20 else 0
def slotsErr (p : Prob) (l : List (Int × Int)) : Int := (eachE l.length (slE p l)).2
theorem slot1_zero {p : Prob} {b : List (Int × Int)} {s : Int × Int} (h : slot1 p b s = 0) : inA p s.1 ∧ hasS b s.1 = false := by
  unfold slot1 at h
  split at h
  · simp at h
  · rename_i h1
    have h1 := Classical.byContradiction h1
    split at h
    · simp at h
    · rename_i h2
      exact ⟨⟨h1.1, by omega⟩, by simpa using h2⟩
theorem slE_zero {p : Prob} (hv : ProbV p) {l : List (Int × Int)} {i : Nat} (h : slE p l i = 0) : slotV p (l.getD i (0, 0)) := by
  unfold slE at h
  split at h
  · rename_i h1; exact absurd h h1
  · rename_i h1
    obtain ⟨⟨a1, a2⟩, _⟩ := slot1_zero (Classical.byContradiction h1)
    split at h
    · simp at h
    · rename_i h2
      have h2 := Classical.byContradiction h2
      obtain ⟨⟨_, b, _⟩, _⟩ := hv.arr (l.getD i (0, 0)).1.toNat (by omega)
      have b2 := b.2.1
      have b3 := b.2.2.1
      exact ⟨⟨a1, a2⟩, by omega, by omega⟩
theorem slots_valid {p : Prob} (hv : ProbV p) {l : List (Int × Int)} {i : Nat} (hi : i ≤ l.length) (h : ∀ j, j < i → slE p l j = 0) : ∀ s ∈ l.take i, slotV p s := fun s hs => by
  obtain ⟨j, hj, rfl⟩ := List.getElem_of_mem hs
  rw [List.length_take] at hj
  have := slE_zero hv (h j (by omega))
  rw [List.getElem_take]
  rwa [getD_lt (by omega)] at this
def f58 (x : ((List (List Int) × List (List Int)) × List (ByteArray × Int × Int × Int × Int) × List Int) × List (Int × Int)) : Int := slotsErr x.1 x.2
def f58_pre (x : ((List (List Int) × List (List Int)) × List (ByteArray × Int × Int × Int × Int) × List Int) × List (Int × Int)) : Prop := okP x.1
def f58_e : Entry := { doms := [(true, (.pair (.pair (.sl (.sl (.int .i64))) (.sl (.sl (.int .i64)))) (.pair (.sl (.pair .str (.pair (.int .i64) (.pair (.int .i64) (.pair (.int .i64) (.int .i64)))))) (.sl (.int .i64))))), (false, (.sl (.pair (.int .i64) (.int .i64))))], cods := [(false, (.int .i64))], pre := f58_pre, fn := f58, uq := false, total := false }
def f58_E : Env := [(17, f17_e), (87, f87_e), (92, f92_e), (103, f103_e), (120, f120_e)]
def f58_A : Anns := { loops := [(1048576, { tms := [(1, .keep), (2, .keep), (5, .data false (.int .i64))], obs := [(1048576, .keep)], fz := [] }),
  (1048578, { tms := [(1, .keep), (2, .keep), (5, .keep), (7, .data false (.int .i64))], obs := [(1048576, .keep), (1056777, .keep)], fz := [] })], own := [] }
theorem f58_run (a0 : (List (List Int) × List (List Int)) × List (ByteArray × Int × Int × Int × Int) × List Int) (a1 : List (Int × Int)) (K : Int → Prop) : runF Try.prog f58_E f58_A 6 Try.f58 f58_e.doms f58_e.cods (a0, a1) K =
    (LoopP (V := Int × Unit) (fun again v => (fun (again1 : Int → Prop) (v1_0 : Int) =>
    br (lenOk (a1.length))
    (br (decide (v1_0 < ((a1.length) : Int)))
    (br (decide (0 ≤ v1_0) && decide (v1_0 < ((a1.length) : Int)))
    (br (lenOk (a0.2.1.length))
    (br (!(f17 ((a1.getD v1_0.toNat (0, 0)).1, (0, (IntKind.i64.wrap (((a0.2.1.length) : Int) - 1))))))
    (K 6)
    (br (decide ((0 : Int) ≤ 0 ∧ 0 ≤ v1_0 ∧ v1_0 ≤ ((a1.length) : Int)))
    (br (decide (0 ≤ v1_0) && decide (v1_0 < ((a1.length) : Int)))
    (br (f87 (((a1.take v1_0.toNat).drop 0), (a1.getD v1_0.toNat (0, 0)).1))
    (K 21)
    (br (decide (0 ≤ v1_0) && decide (v1_0 < ((a1.length) : Int)))
    (br (decide (0 ≤ (a1.getD v1_0.toNat (0, 0)).1) && decide ((a1.getD v1_0.toNat (0, 0)).1 < ((a0.2.1.length) : Int)))
    (br (decide (0 ≤ v1_0) && decide (v1_0 < ((a1.length) : Int)))
    (br (!(f17 ((a1.getD v1_0.toNat (0, 0)).2, ((((a0.2.1.getD (((a1.getD v1_0.toNat (0, 0)).1).toNat) ((⟨#[]⟩ : ByteArray), (0, (0, (0, 0))))).2).2).1, ((((a0.2.1.getD (((a1.getD v1_0.toNat (0, 0)).1).toNat) ((⟨#[]⟩ : ByteArray), (0, (0, (0, 0))))).2).2).2).1))))
    (K 2)
    (LoopP (V := Int × Unit) (fun again v => (fun (again2 : Int → Prop) (v2_0 : Int) =>
    br (decide (v2_0 < v1_0))
    (br (decide (0 ≤ v1_0) && decide (v1_0 < ((a1.length) : Int)))
    (br (decide (0 ≤ v2_0) && decide (v2_0 < ((a1.length) : Int)))
    (br (decide (0 ≤ v2_0) && decide (v2_0 < ((a1.length) : Int)))
    (br (decide (0 ≤ v1_0) && decide (v1_0 < ((a1.length) : Int)))
    (f92_pre (a0, ((a1.getD v2_0.toNat (0, 0)).1, (a1.getD v1_0.toNat (0, 0)).1)) ∧
    br (decide ((a1.getD v1_0.toNat (0, 0)).2 < (IntKind.i64.wrap ((a1.getD v2_0.toNat (0, 0)).2 + (f92 (a0, ((a1.getD v2_0.toNat (0, 0)).1, (a1.getD v1_0.toNat (0, 0)).1)))))))
    (K 20)
    (again2 (IntKind.i64.wrap (v2_0 + 1))))
    False)
    False)
    False)
    False)
    (again1 (IntKind.i64.wrap (v1_0 + 1))))
    (fun v2_0 => again (v2_0, ())) v.1) (0, ())))
    False)
    False)
    False))
    False)
    False))
    True)
    False)
    (K 0))
    True)
    (fun v1_0 => again (v1_0, ())) v.1) (0, ())) := by kernel_rfl
theorem f58_t (a0 : (List (List Int) × List (List Int)) × List (ByteArray × Int × Int × Int × Int) × List Int) (a1 : List (Int × Int)) (hpre : f58_pre (a0, a1)) (K : Int → Prop) (hK : ∀ y : Int, y = f58 (a0, a1) → K y) : RunF Try.prog f58_E f58_A 6 Try.f58 f58_e.doms f58_e.cods (a0, a1) K := by
  refine ⟨?_⟩
  rw [f58_run a0 a1 K]
  have h : okP a0 := hpre
  have hv := h.v
  have h6 := hv.six
  have hd : ((⟨#[]⟩ : ByteArray), ((0 : Int), ((0 : Int), ((0 : Int), (0 : Int))))) = arrD := rfl
  simp only [hd]
  refine each_walk (n := a1.length) (e := slE a0 a1) (fun again i hi hI good => ?_)
  dsimp only
  rw [br_true_, lenOk_iff]
  intro hln
  rw [br_dec]
  refine ⟨fun hlt => ?_, fun hlt => hK _ ?_⟩
  · have hlt : i < a1.length := by omega
    have b0 : (decide (0 ≤ (i : Int)) && decide ((i : Int) < (a1.length : Int))) = true := inb (by omega) (by omega)
    rw [b0]
    simp only [Int.toNat_natCast, br_t, List.drop_zero]
    have out : ∀ n : Int, slE a0 a1 i = n → n ≠ 0 → K n := fun n e hn => hK _ (by
      have := eachE_some hlt hI (show slE a0 a1 i ≠ 0 by rw [e]; exact hn)
      rw [f58, slotsErr, this, e])
    rw [br_true_]
    intro _
    rw [wr (n := (a0.2.1.length : Int) - 1) (by omega) (by omega), br_both]
    refine ⟨fun hb => out 6 ?_ (by decide), fun hb => ?_⟩
    · have hs : slot1 a0 (a1.take i) (a1.getD i (0, 0)) = 6 := by rw [slot1, if_pos (f17_f1.1 (not_true.1 hb))]
      rw [slE, hs, if_pos (by decide)]
    have hb := f17_t1.1 (not_false_.1 hb)
    have hnn : ¬ ¬ (0 ≤ (a1.getD i (0, 0)).1 ∧ (a1.getD i (0, 0)).1 ≤ (a0.2.1.length : Int) - 1) := fun hh => hh hb
    rw [br_false_]
    refine ⟨by simp; omega, ?_⟩
    rw [br_both]
    refine ⟨fun hm => out 21 ?_ (by decide), fun hm => ?_⟩
    · have hs : slot1 a0 (a1.take i) (a1.getD i (0, 0)) = 21 := by rw [slot1, if_neg hnn, if_pos (show hasS (a1.take i) (a1.getD i (0, 0)).1 = true from hm)]
      rw [slE, hs, if_pos (by decide)]
    have hs : slot1 a0 (a1.take i) (a1.getD i (0, 0)) = 0 := by rw [slot1, if_neg hnn, if_neg (fun hh => by rw [show hasS (a1.take i) (a1.getD i (0, 0)).1 = false from hm] at hh; cases hh)]
    have hs0 : ¬ slot1 a0 (a1.take i) (a1.getD i (0, 0)) ≠ 0 := fun hh => hh hs
    rw [br_false_]
    refine ⟨inb hb.1 (by omega), ?_⟩
    rw [br_both]
    refine ⟨fun hr => out 2 (by rw [slE, if_neg hs0, if_pos (f17_f1.1 (not_true.1 hr))]) (by decide), fun hr => ?_⟩
    have hr := f17_t1.1 (not_false_.1 hr)
    have hrr : ¬ ¬ ((a0.2.1.getD (a1.getD i (0, 0)).1.toNat arrD).2.2.1 ≤ (a1.getD i (0, 0)).2 ∧ (a1.getD i (0, 0)).2 ≤ (a0.2.1.getD (a1.getD i (0, 0)).1.toNat arrD).2.2.2.1) := fun hh => hh hr
    have hval := slots_valid hv hi hI
    refine LoopP.up i (fun k _ => ∀ j < k.toNat, (a1.getD j (0, 0)).2 + apartF a0 (a1.getD j (0, 0)).1 (a1.getD i (0, 0)).1 ≤ (a1.getD i (0, 0)).2) (fun again2 k v hk0 hk1 hJ hag2 => ?_) (by omega) (fun j hj => by simp at hj)
    dsimp only
    rw [br_dec]
    refine ⟨fun hk => ?_, fun hk => ?_⟩
    · have c0 : (decide (0 ≤ k) && decide (k < (a1.length : Int))) = true := inb hk0 (by omega)
      rw [c0]
      simp only [br_t]
      have hm := hval (a1.getD k.toNat (0, 0)) (by
        rw [getD_lt (by omega)]
        exact List.mem_take_iff_getElem.2 ⟨k.toNat, by omega, rfl⟩)
      have ha : 0 ≤ (a1.getD i (0, 0)).1 ∧ (a1.getD i (0, 0)).1 < a0.2.1.length := ⟨hb.1, by omega⟩
      have hap := apartF_in hv hm.1 ha
      obtain ⟨s1, s2⟩ := hm
      refine ⟨⟨h, s1, ha⟩, ?_⟩
      have e92 : f92 (a0, (a1.getD k.toNat (0, 0)).1, (a1.getD i (0, 0)).1) = apartF a0 (a1.getD k.toNat (0, 0)).1 (a1.getD i (0, 0)).1 := rfl
      rw [br_dec, e92, wr (n := (a1.getD k.toNat (0, 0)).2 + _) (by omega) (by omega)]
      refine ⟨fun hlt2 => out 20 ?_ (by decide), fun hge => ?_⟩
      · have : (a1.getD i (0, 0)).2 < soonF a0 (a1.take i) (a1.getD i (0, 0)).1 := by
          rcases Int.lt_or_le (a1.getD i (0, 0)).2 (soonF a0 (a1.take i) (a1.getD i (0, 0)).1) with h7 | h7
          · exact h7
          · have := (soonF_le.1 h7).2 (a1.getD k.toNat (0, 0)) (by
              rw [getD_lt (by omega)]
              exact List.mem_take_iff_getElem.2 ⟨k.toNat, by omega, rfl⟩)
            omega
        rw [slE, if_neg hs0, if_neg hrr, if_pos this]
      · rw [wr (n := k + 1) (by omega) (by omega)]
        refine hag2 () hk fun j hj => ?_
        by_cases hjk : j = k.toNat
        · rw [hjk]; omega
        · exact hJ j (by omega)
    · rw [wr (n := (i : Int) + 1) (by omega) (by omega)]
      refine good hlt ?_
      have : ¬ (a1.getD i (0, 0)).2 < soonF a0 (a1.take i) (a1.getD i (0, 0)).1 := by
        have := soonF_le (p := a0) (a := (a1.getD i (0, 0)).1) (t := (a1.getD i (0, 0)).2) (l := a1.take i) |>.2 ⟨hr.1, fun s hs' => by
          obtain ⟨j, hj, rfl⟩ := List.getElem_of_mem hs'
          rw [List.length_take] at hj
          have h9 : j < i ∧ j < a1.length := by omega
          have := hJ j (by omega)
          rw [getD_lt (l := a1) h9.2] at this
          rw [List.getElem_take]
          exact this⟩
        omega
      rw [slE, if_neg hs0, if_neg hrr, if_neg this]
  · have hz := eachE_none (n := a1.length) (e := slE a0 a1) fun j hj => hI j (by omega)
    show (0 : Int) = (eachE a1.length (slE a0 a1)).2
    rw [hz]
theorem f58_fn : f58_e.fn = f58 := rfl
theorem f58_ok : EntryOK Try.prog 58 f58_e := by
  refine entryF progOK (EnvOK.cons f17_ok (EnvOK.cons f87_ok (EnvOK.cons f92_ok (EnvOK.cons f103_ok (EnvOK.cons f120_ok (EnvOK.nil)))))) (A := f58_A) (d := 6) Try.func58 rfl rfl rfl rfl (fun h => by cases h) fun x hpre => ?_
  obtain ⟨a0, a1⟩ := x
  exact f58_t a0 a1 hpre _ fun _ h => h.trans (congrFun f58_fn.symm _)
end Go.Proofs.Ytglokajinehbmaa
end

section
namespace Go.Proofs.Ytglokajinehbmaa
open Go Go.Pi Go.RowKit
set_option maxRecDepth 100000
set_option linter.unusedVariables false
set_option linter.unusedSimpArgs false

theorem sl_errs (a b : Bool) : f66 [f68 (a, 2), f68 (b, 20)] = if a = false then 2 else if b = false then 20 else 0 := by
  cases a <;> cases b <;> rfl
def f109 (x : ((List (List Int) × List (List Int)) × List (ByteArray × Int × Int × Int × Int) × List Int) × List (Int × Int)) : Int := slotsErr x.1 x.2
def f109_pre (x : ((List (List Int) × List (List Int)) × List (ByteArray × Int × Int × Int × Int) × List Int) × List (Int × Int)) : Prop := okP x.1
def f109_e : Entry := { doms := [(true, (.pair (.pair (.sl (.sl (.int .i64))) (.sl (.sl (.int .i64)))) (.pair (.sl (.pair .str (.pair (.int .i64) (.pair (.int .i64) (.pair (.int .i64) (.int .i64)))))) (.sl (.int .i64))))), (false, (.sl (.pair (.int .i64) (.int .i64))))], cods := [(false, (.int .i64))], pre := f109_pre, fn := f109, uq := false, total := false }
def f109_E : Env := [(65, f65_e), (66, f66_e), (68, f68_e), (103, f103_e), (120, f120_e), (58, f58_e)]
def f109_A : Anns := { loops := [(1100587466752, { tms := [(1, .keep), (9, .keep), (10, .keep), (11, .data false (.int .i64))], obs := [(1048576, .keep), (1048577, .keep)], fz := [] })], own := [] }
theorem f109_run (a0 : (List (List Int) × List (List Int)) × List (ByteArray × Int × Int × Int × Int) × List Int) (a1 : List (Int × Int)) (K : Int → Prop) : runF Try.prog f109_E f109_A 6 Try.f109 f109_e.doms f109_e.cods (a0, a1) K =
    (br (lenOk (a1.length))
    (LoopP (V := Int × Unit) (fun again v => (fun (again1 : Int → Prop) (v1_0 : Int) =>
    br (decide (v1_0 < ((a1.length) : Int)))
    (br (decide (0 ≤ v1_0) && decide (v1_0 < ((a1.length) : Int)))
    (br (decide ((0 : Int) ≤ 0 ∧ 0 ≤ v1_0 ∧ v1_0 ≤ ((a1.length) : Int)))
    (f103_pre (a0, (((a1.take v1_0.toNat).drop 0), (a1.getD v1_0.toNat (0, 0)))) ∧
    br ((f103 (a0, (((a1.take v1_0.toNat).drop 0), (a1.getD v1_0.toNat (0, 0))))) != 0)
    (br ((f103 (a0, (((a1.take v1_0.toNat).drop 0), (a1.getD v1_0.toNat (0, 0))))) != 0)
    (K (f103 (a0, (((a1.take v1_0.toNat).drop 0), (a1.getD v1_0.toNat (0, 0))))))
    (again1 (IntKind.i64.wrap (v1_0 + 1))))
    (br (decide (0 ≤ (a1.getD v1_0.toNat (0, 0)).1) && decide ((a1.getD v1_0.toNat (0, 0)).1 < ((a0.2.1.length) : Int)))
    (br (decide ((0 : Int) ≤ 0 ∧ 0 ≤ v1_0 ∧ v1_0 ≤ ((a1.length) : Int)))
    (f120_pre (a0, (((a1.take v1_0.toNat).drop 0), (a1.getD v1_0.toNat (0, 0)).1)) ∧
    br ((f66 ([(f68 ((f65 ((a1.getD v1_0.toNat (0, 0)).2, ((((a0.2.1.getD (((a1.getD v1_0.toNat (0, 0)).1).toNat) ((⟨#[]⟩ : ByteArray), (0, (0, (0, 0))))).2).2).1, ((((a0.2.1.getD (((a1.getD v1_0.toNat (0, 0)).1).toNat) ((⟨#[]⟩ : ByteArray), (0, (0, (0, 0))))).2).2).2).1))), 2)), (f68 ((decide ((a1.getD v1_0.toNat (0, 0)).2 ≥ (f120 (a0, (((a1.take v1_0.toNat).drop 0), (a1.getD v1_0.toNat (0, 0)).1))))), 20))] : List Int)) != 0)
    (K (f66 ([(f68 ((f65 ((a1.getD v1_0.toNat (0, 0)).2, ((((a0.2.1.getD (((a1.getD v1_0.toNat (0, 0)).1).toNat) ((⟨#[]⟩ : ByteArray), (0, (0, (0, 0))))).2).2).1, ((((a0.2.1.getD (((a1.getD v1_0.toNat (0, 0)).1).toNat) ((⟨#[]⟩ : ByteArray), (0, (0, (0, 0))))).2).2).2).1))), 2)), (f68 ((decide ((a1.getD v1_0.toNat (0, 0)).2 ≥ (f120 (a0, (((a1.take v1_0.toNat).drop 0), (a1.getD v1_0.toNat (0, 0)).1))))), 20))] : List Int)))
    (again1 (IntKind.i64.wrap (v1_0 + 1))))
    False)
    False))
    False)
    False)
    (K 0))
    (fun v1_0 => again (v1_0, ())) v.1) (0, ()))
    True) := by kernel_rfl
theorem f109_t (a0 : (List (List Int) × List (List Int)) × List (ByteArray × Int × Int × Int × Int) × List Int) (a1 : List (Int × Int)) (hpre : f109_pre (a0, a1)) (K : Int → Prop) (hK : ∀ y : Int, y = f109 (a0, a1) → K y) : RunF Try.prog f109_E f109_A 6 Try.f109 f109_e.doms f109_e.cods (a0, a1) K := by
  refine ⟨?_⟩
  rw [f109_run a0 a1 K]
  have h : okP a0 := hpre
  have hv := h.v
  have h6 := hv.six
  have hd : ((⟨#[]⟩ : ByteArray), ((0 : Int), ((0 : Int), ((0 : Int), (0 : Int))))) = arrD := rfl
  simp only [hd]
  rw [br_true_, lenOk_iff]
  intro hln
  refine each_walk (n := a1.length) (e := slE a0 a1) (fun again i hi hI good => ?_)
  dsimp only
  rw [br_dec]
  refine ⟨fun hlt => ?_, fun hlt => hK _ ?_⟩
  · have hlt : i < a1.length := by omega
    have b0 : (decide (0 ≤ (i : Int)) && decide ((i : Int) < (a1.length : Int))) = true := inb (by omega) (by omega)
    have b1 : decide ((0 : Int) ≤ 0 ∧ 0 ≤ (i : Int) ∧ (i : Int) ≤ (a1.length : Int)) = true := by simp; omega
    rw [b0, b1]
    simp only [Int.toNat_natCast, br_t, List.drop_zero]
    have e103 : f103 (a0, a1.take i, a1.getD i (0, 0)) = slot1 a0 (a1.take i) (a1.getD i (0, 0)) := rfl
    have out : slE a0 a1 i ≠ 0 → K (slE a0 a1 i) := fun hn => hK _ (by
      have := eachE_some hlt hI hn
      show _ = (eachE a1.length (slE a0 a1)).2
      rw [this])
    refine ⟨show a0.2.1.length ≤ 1000 by omega, ?_⟩
    rw [e103]
    by_cases hs : slot1 a0 (a1.take i) (a1.getD i (0, 0)) = 0
    · rw [show (slot1 a0 (a1.take i) (a1.getD i (0, 0)) != 0) = false by rw [hs]; rfl]
      show br _ _ False
      obtain ⟨⟨a1', a2'⟩, hh⟩ := slot1_zero hs
      have hs0 : ¬ slot1 a0 (a1.take i) (a1.getD i (0, 0)) ≠ 0 := fun hh => hh hs
      have hval := slots_valid hv hi hI
      rw [br_false_]
      refine ⟨inb a1' a2', ?_⟩
      refine ⟨⟨h, hval, a1', a2'⟩, ?_⟩
      have e120 : f120 (a0, a1.take i, (a1.getD i (0, 0)).1) = soonF a0 (a1.take i) (a1.getD i (0, 0)).1 := rfl
      have hX : f66 [f68 (f65 ((a1.getD i (0, 0)).2, (a0.2.1.getD (a1.getD i (0, 0)).1.toNat arrD).2.2.1, (a0.2.1.getD (a1.getD i (0, 0)).1.toNat arrD).2.2.2.1), 2), f68 (decide ((a1.getD i (0, 0)).2 ≥ f120 (a0, a1.take i, (a1.getD i (0, 0)).1)), 20)] = slE a0 a1 i := by
        rw [sl_errs, slE, if_neg hs0, e120]
        by_cases h3 : (a0.2.1.getD (a1.getD i (0, 0)).1.toNat arrD).2.2.1 ≤ (a1.getD i (0, 0)).2 ∧ (a1.getD i (0, 0)).2 ≤ (a0.2.1.getD (a1.getD i (0, 0)).1.toNat arrD).2.2.2.1
        · rw [f65_t1.2 h3, if_neg (show ¬ (true = false) by decide), if_neg (fun hh : ¬ _ => hh h3)]
          by_cases h4 : (a1.getD i (0, 0)).2 < soonF a0 (a1.take i) (a1.getD i (0, 0)).1
          · rw [decide_eq_false (by omega), if_pos rfl, if_pos h4]
          · rw [decide_eq_true (by omega), if_neg (show ¬ (true = false) by decide), if_neg h4]
        · rw [f65_f1.2 h3, if_pos rfl, if_pos h3]
      rw [hX, br_both]
      refine ⟨fun h5 => ?_, fun h5 => ?_⟩
      · exact out (by simpa using h5)
      · rw [wr (n := (i : Int) + 1) (by omega) (by omega)]
        exact good hlt (by simpa using h5)
    · rw [show (slot1 a0 (a1.take i) (a1.getD i (0, 0)) != 0) = true from bne_iff_ne.2 hs]
      have e : slE a0 a1 i = slot1 a0 (a1.take i) (a1.getD i (0, 0)) := by rw [slE, if_pos hs]
      show K _
      rw [← e]
      exact out (by rw [e]; exact hs)
  · have hz := eachE_none (n := a1.length) (e := slE a0 a1) fun j hj => hI j (by omega)
    show (0 : Int) = (eachE a1.length (slE a0 a1)).2
    rw [hz]
theorem f109_fn : f109_e.fn = f109 := rfl
theorem f109_ok : EntryOK Try.prog 109 f109_e := by
  refine entryF progOK (EnvOK.cons f65_ok (EnvOK.cons f66_ok (EnvOK.cons f68_ok (EnvOK.cons f103_ok (EnvOK.cons f120_ok (EnvOK.cons f58_ok (EnvOK.nil))))))) (A := f109_A) (d := 6) Try.func109 rfl rfl rfl rfl (fun h => by cases h) fun x hpre => ?_
  obtain ⟨a0, a1⟩ := x
  exact f109_t a0 a1 hpre _ fun _ h => h.trans (congrFun f109_fn.symm _)
end Go.Proofs.Ytglokajinehbmaa
end

section
namespace Go.Proofs.Ytglokajinehbmaa
open Go Go.Pi Go.RowKit
set_option maxRecDepth 100000
set_option linter.unusedVariables false
set_option linter.unusedSimpArgs false

def planE (p : Prob) (l : List (Int × Int)) : Int := if (probOf p).2 = 0 then slotsErr p l else (probOf p).2
def f89 (x : ((List (List Int) × List (List Int)) × List (ByteArray × Int × Int × Int × Int) × List Int) × List (Int × Int)) : ((List (List Int) × List (List Int)) × List (ByteArray × Int × Int × Int × Int) × List Int) × Int := (x.1, planE x.1 x.2)
def f89_pre (x : ((List (List Int) × List (List Int)) × List (ByteArray × Int × Int × Int × Int) × List Int) × List (Int × Int)) : Prop := f22_pre x.1.2.1
def f89_e : Entry := { doms := [(true, (.pair (.pair (.sl (.sl (.int .i64))) (.sl (.sl (.int .i64)))) (.pair (.sl (.pair .str (.pair (.int .i64) (.pair (.int .i64) (.pair (.int .i64) (.int .i64)))))) (.sl (.int .i64))))), (false, (.sl (.pair (.int .i64) (.int .i64))))], cods := [(true, (.pair (.pair (.sl (.sl (.int .i64))) (.sl (.sl (.int .i64)))) (.pair (.sl (.pair .str (.pair (.int .i64) (.pair (.int .i64) (.pair (.int .i64) (.int .i64)))))) (.sl (.int .i64))))), (false, (.int .i64))], pre := f89_pre, fn := f89, uq := false, total := false }
def f89_E : Env := [(24, f24_e), (109, f109_e)]
def f89_A : Anns := { loops := [], own := [] }
theorem f89_run (a0 : (List (List Int) × List (List Int)) × List (ByteArray × Int × Int × Int × Int) × List Int) (a1 : List (Int × Int)) (K : (((List (List Int) × List (List Int)) × List (ByteArray × Int × Int × Int × Int) × List Int) × Int) → Prop) : runF Try.prog f89_E f89_A 6 Try.f89 f89_e.doms f89_e.cods (a0, a1) K =
    (f24_pre a0 ∧
    br ((f24 a0).2 == 0)
    (f109_pre (a0, a1) ∧
    K (a0, (f109 (a0, a1))))
    (K (a0, (f24 a0).2))) := by kernel_rfl
theorem f89_t (a0 : (List (List Int) × List (List Int)) × List (ByteArray × Int × Int × Int × Int) × List Int) (a1 : List (Int × Int)) (hpre : f89_pre (a0, a1)) (K : (((List (List Int) × List (List Int)) × List (ByteArray × Int × Int × Int × Int) × List Int) × Int) → Prop) (hK : ∀ y : ((List (List Int) × List (List Int)) × List (ByteArray × Int × Int × Int × Int) × List Int) × Int, y = f89 (a0, a1) → K y) : RunF Try.prog f89_E f89_A 6 Try.f89 f89_e.doms f89_e.cods (a0, a1) K := by
  refine ⟨?_⟩
  rw [f89_run a0 a1 K]
  refine ⟨hpre, ?_⟩
  have e24 : f24 a0 = probOf a0 := rfl
  rw [e24, br_both]
  refine ⟨fun h => ?_, fun h => hK _ ?_⟩
  · have h : (probOf a0).2 = 0 := by simpa using h
    exact ⟨h, hK _ (by rw [f89, planE, if_pos h]; rfl)⟩
  · have h : (probOf a0).2 ≠ 0 := by simpa using h
    rw [f89, planE, if_neg h]
theorem f89_fn : f89_e.fn = f89 := rfl
theorem f89_ok : EntryOK Try.prog 89 f89_e := by
  refine entryF progOK (EnvOK.cons f24_ok (EnvOK.cons f109_ok (EnvOK.nil))) (A := f89_A) (d := 6) Try.func89 rfl rfl rfl rfl (fun h => by cases h) fun x hpre => ?_
  obtain ⟨a0, a1⟩ := x
  exact f89_t a0 a1 hpre _ fun _ h => h.trans (congrFun f89_fn.symm _)
end Go.Proofs.Ytglokajinehbmaa
end

section
namespace Go.Proofs.Ytglokajinehbmaa
open Go Go.Pi Go.RowKit
set_option maxRecDepth 100000
set_option linter.unusedVariables false
set_option linter.unusedSimpArgs false

def f45 (l : List (Int × Int)) : List Int := l.map (·.2)
def f45_pre (l : List (Int × Int)) : Prop := l.length ≤ 2000
theorem map_take {l : List (Int × Int)} {i : Nat} (hi : i < l.length) : (l.take (i + 1)).map (·.2) = (l.take i).map (·.2) ++ [(l.getD i (0, 0)).2] := by
  rw [List.take_add_one, List.getElem?_eq_getElem hi, List.map_append, getD_lt hi]
  rfl
def f45_e : Entry := { doms := [(false, (.sl (.pair (.int .i64) (.int .i64))))], cods := [(false, (.sl (.int .i64)))], pre := f45_pre, fn := f45, uq := false, total := false }
def f45_E : Env := []
def f45_A : Anns := { loops := [(1048576, { tms := [(0, .keep), (3, .ref 1053703), (4, .data false (.int .i64))], obs := [(1053703, .arr (.uniq) (.int .i64))], fz := [] })], own := [] }
theorem f45_run (a0 : List (Int × Int)) (K : (List Int) → Prop) : runF Try.prog f45_E f45_A 6 Try.f45 f45_e.doms f45_e.cods a0 K =
    (LoopP (V := Int × List Int × Unit) (fun again v => (fun (again1 : Int → List Int → Prop) (v1_0 : Int) (v1_1 : List Int) =>
    br (lenOk (a0.length))
    (br (decide (v1_0 < ((a0.length) : Int)))
    (br (decide (0 ≤ v1_0) && decide (v1_0 < ((a0.length) : Int)))
    (br (roomOk ((v1_1.length) + 1) 8)
    (again1 (IntKind.i64.wrap (v1_0 + 1)) (v1_1 ++ ([(a0.getD v1_0.toNat (0, 0)).2] : List Int)))
    False)
    False)
    (K v1_1))
    True)
    (fun v1_0 v1_1 => again (v1_0, v1_1, ())) v.1 v.2.1) (0, ([] : List Int), ())) := by kernel_rfl
theorem f45_t (a0 : List (Int × Int)) (hpre : f45_pre a0) (K : (List Int) → Prop) (hK : ∀ y : List Int, y = f45 a0 → K y) : RunF Try.prog f45_E f45_A 6 Try.f45 f45_e.doms f45_e.cods a0 K := by
  refine ⟨?_⟩
  rw [f45_run a0 K]
  have h : a0.length ≤ 2000 := hpre
  refine LoopP.up a0.length (fun i v => v.1 = (a0.take i.toNat).map (·.2)) (fun again i v hi0 hn hI hag => ?_) (by omega) rfl
  obtain ⟨xs, u⟩ := v
  have hI : xs = (a0.take i.toNat).map (·.2) := hI
  subst hI
  dsimp only
  rw [br_true_]
  intro _
  rw [br_dec]
  refine ⟨fun hi => ?_, fun hi => hK _ ?_⟩
  · have hil : i.toNat < a0.length := by omega
    have hlen : ((a0.take i.toNat).map (·.2)).length ≤ 2000 := by rw [List.length_map, List.length_take]; omega
    rw [br_false_, br_false_, roomOk_iff, wr (n := i + 1) (by omega) (by omega)]
    refine ⟨inb hi0 hi, by omega, hag (_, ()) hi ?_⟩
    rw [show (i + 1).toNat = i.toNat + 1 by omega, map_take hil]
  · rw [f45, List.take_of_length_le (by omega)]
theorem f45_fn : f45_e.fn = f45 := rfl
theorem f45_ok : EntryOK Try.prog 45 f45_e := by
  refine entryF progOK (EnvOK.nil) (A := f45_A) (d := 6) Try.func45 rfl rfl rfl rfl (fun h => by cases h) fun x hpre => ?_
  exact f45_t x hpre _ fun _ h => h.trans (congrFun f45_fn.symm _)
end Go.Proofs.Ytglokajinehbmaa
end

section
namespace Go.Proofs.Ytglokajinehbmaa
open Go Go.Pi Go.RowKit
set_option maxRecDepth 100000
set_option linter.unusedVariables false
set_option linter.unusedSimpArgs false

theorem contL_ok {p : Prob} (hv : ProbV p) : ∀ (o : List Int) (out : List (Int × Int)), (∀ s ∈ out, slotV p s) → (∀ a ∈ o, inA p a) → ∀ l, contL p out o = some l → (∀ s ∈ l, slotV p s) ∧ l.length = out.length + o.length
  | [], out, h, _, l, e => by
    simp only [contL, Option.some.injEq] at e
    subst e
    exact ⟨h, rfl⟩
  | a :: r, out, h, ho, l, e => by
    simp only [contL] at e
    split at e
    · cases e
    · rename_i ht
      obtain ⟨h1, h2⟩ := contL_ok hv r _ (slotsV_app h (slotV_soon hv h (ho a (.head _)) ht)) (fun x hx => ho x (.tail _ hx)) l e
      exact ⟨h1, by simp at h2 ⊢; omega⟩
theorem contF_ok {p : Prob} (hv : ProbV p) {out : List (Int × Int)} {o : List Int} (h : ∀ s ∈ out, slotV p s) (ho : ∀ a ∈ o, inA p a) : (∀ s ∈ (contF p out o).1, slotV p s) ∧ (contF p out o).1.length ≤ out.length + o.length := by
  unfold contF
  cases e : contL p out o with
  | none => exact ⟨fun s hs => (by cases hs), Nat.zero_le _⟩
  | some l =>
    obtain ⟨h1, h2⟩ := contL_ok hv o out h ho l e
    exact ⟨h1, by simp only; omega⟩
theorem f91_ok2 {p : Prob} {o : List Int} (h : (f91 (p, o)).2.2 = 0) : okP p ∧ (∀ a ∈ o, inA p a) ∧ f91 (p, o) = (p, (contF p [] o).1, 0) ∧ (contF p [] o).2 = true := by
  unfold f91 at h
  split at h
  · rename_i h1; exact absurd h h1
  · rename_i h1
    split at h
    · rename_i h2; exact absurd h h2
    · rename_i h2
      have hb : (contF p [] o).2 = true := by
        simp only at h
        split at h
        · assumption
        · simp at h
      refine ⟨Classical.byContradiction h1, ordChk_zero (Classical.byContradiction h2), ?_, hb⟩
      rw [f91, if_neg h1, if_neg h2, if_pos hb]
def f40 (x : ((List (List Int) × List (List Int)) × List (ByteArray × Int × Int × Int × Int) × List Int) × List Int) : List Int × Int := if (f91 x).2.2 ≠ 0 then ([], (f91 x).2.2) else ((f91 x).2.1.map (·.2), 0)
def f40_pre (x : ((List (List Int) × List (List Int)) × List (ByteArray × Int × Int × Int × Int) × List Int) × List Int) : Prop := f91_pre x
def f40_e : Entry := { doms := [(true, (.pair (.pair (.sl (.sl (.int .i64))) (.sl (.sl (.int .i64)))) (.pair (.sl (.pair .str (.pair (.int .i64) (.pair (.int .i64) (.pair (.int .i64) (.int .i64)))))) (.sl (.int .i64))))), (false, (.sl (.int .i64)))], cods := [(false, (.sl (.int .i64))), (false, (.int .i64))], pre := f40_pre, fn := f40, uq := false, total := false }
def f40_E : Env := [(91, f91_e), (45, f45_e)]
def f40_A : Anns := { loops := [(1048576, { tms := [(9, .ref 1056772), (22, .keep), (23, .keep), (24, .data false (.int .i64))], obs := [(1048576, .keep), (1049607, .keep), (1056772, .arr (.uniq) (.int .i64))], fz := [] })], own := [] }
theorem f40_run (a0 : (List (List Int) × List (List Int)) × List (ByteArray × Int × Int × Int × Int) × List Int) (a1 : List Int) (K : (List Int × Int) → Prop) : runF Try.prog f40_E f40_A 6 Try.f40 f40_e.doms f40_e.cods (a0, a1) K =
    (f91_pre (a0, a1) ∧
    br (((f91 (a0, a1)).2).2 != 0)
    (K (([] : List Int), ((f91 (a0, a1)).2).2))
    (br (lenOk ((((f91 (a0, a1)).2).1).length))
    (LoopP (V := Int × List Int × Unit) (fun again v => (fun (again1 : Int → List Int → Prop) (v1_0 : Int) (v1_1 : List Int) =>
    br (decide (v1_0 < (((((f91 (a0, a1)).2).1).length) : Int)))
    (br (decide (0 ≤ v1_0) && decide (v1_0 < (((((f91 (a0, a1)).2).1).length) : Int)))
    (br (roomOk ((v1_1.length) + 1) 8)
    (again1 (IntKind.i64.wrap (v1_0 + 1)) (v1_1 ++ ([((((f91 (a0, a1)).2).1).getD v1_0.toNat (0, 0)).2] : List Int)))
    False)
    False)
    (K (v1_1, 0)))
    (fun v1_0 v1_1 => again (v1_0, v1_1, ())) v.1 v.2.1) (0, ([] : List Int), ()))
    True)) := by kernel_rfl
theorem f40_t (a0 : (List (List Int) × List (List Int)) × List (ByteArray × Int × Int × Int × Int) × List Int) (a1 : List Int) (hpre : f40_pre (a0, a1)) (K : (List Int × Int) → Prop) (hK : ∀ y : List Int × Int, y = f40 (a0, a1) → K y) : RunF Try.prog f40_E f40_A 6 Try.f40 f40_e.doms f40_e.cods (a0, a1) K := by
  refine ⟨?_⟩
  rw [f40_run a0 a1 K]
  refine ⟨hpre, ?_⟩
  rw [br_both]
  refine ⟨fun h => hK _ ?_, fun h => ?_⟩
  · rw [f40, if_pos (by simpa using h)]
  have h0 : (f91 (a0, a1)).2.2 = 0 := by simpa using h
  obtain ⟨hok, hin, he, _⟩ := f91_ok2 h0
  have hlen := (contF_ok hok.v (out := []) (fun s hs => (by cases hs)) hin).2
  have hl1 : a1.length ≤ 1000 := hpre.2
  have e40 : f40 (a0, a1) = ((contF a0 [] a1).1.map (·.2), 0) := by rw [f40, if_neg (by simp [h0]), he]
  rw [he]
  simp only
  generalize (contF a0 [] a1).1 = l at *
  simp only [List.length_nil] at hlen
  rw [br_true_]
  intro _
  refine LoopP.up l.length (fun i v => v.1 = (l.take i.toNat).map (·.2)) (fun again i v hi0 hn hI hag => ?_) (by omega) rfl
  obtain ⟨xs, u⟩ := v
  have hI : xs = (l.take i.toNat).map (·.2) := hI
  subst hI
  dsimp only
  rw [br_dec]
  refine ⟨fun hi => ?_, fun hi => hK _ ?_⟩
  · have hil : i.toNat < l.length := by omega
    have hlen2 : ((l.take i.toNat).map (·.2)).length ≤ 1000 := by rw [List.length_map, List.length_take]; omega
    rw [br_false_, br_false_, roomOk_iff, wr (n := i + 1) (by omega) (by omega)]
    refine ⟨inb hi0 hi, by omega, hag (_, ()) hi ?_⟩
    rw [show (i + 1).toNat = i.toNat + 1 by omega, map_take hil]
  · rw [e40, List.take_of_length_le (by omega)]
theorem f40_fn : f40_e.fn = f40 := rfl
theorem f40_ok : EntryOK Try.prog 40 f40_e := by
  refine entryF progOK (EnvOK.cons f91_ok (EnvOK.cons f45_ok (EnvOK.nil))) (A := f40_A) (d := 6) Try.func40 rfl rfl rfl rfl (fun h => by cases h) fun x hpre => ?_
  obtain ⟨a0, a1⟩ := x
  exact f40_t a0 a1 hpre _ fun _ h => h.trans (congrFun f40_fn.symm _)
end Go.Proofs.Ytglokajinehbmaa
end

section
namespace Go.Proofs.Ytglokajinehbmaa
set_option linter.unusedVariables false
set_option linter.unusedSimpArgs false
open Go Go.Pi
def outAt (l : List Int) (i : Nat) : List Int := l.take i ++ l.drop (i + 1)
theorem outAt_len {l : List Int} {i : Nat} (h : i < l.length) : (outAt l i).length = l.length - 1 := by
  simp only [outAt, List.length_append, List.length_take, List.length_drop]
  omega
def perms : Nat → List Int → List (List Int)
  | 0, _ => [[]]
  | n + 1, l => if l.length = 0 then [[]] else (List.range l.length).flatMap fun i => (perms n (outAt l i)).map (l.getD i 0 :: ·)
theorem perms_nil (n : Nat) : perms n [] = [[]] := by cases n <;> simp [perms]
theorem perms_fuel : ∀ (n m : Nat) (l : List Int), l.length ≤ n → l.length ≤ m → perms n l = perms m l
  | 0, m, l, h, h2 => by
    have : l = [] := List.length_eq_zero_iff.1 (by omega)
    subst this
    rw [perms_nil, perms_nil]
  | n + 1, 0, l, h, h2 => by
    have : l = [] := List.length_eq_zero_iff.1 (by omega)
    subst this
    rw [perms_nil, perms_nil]
  | n + 1, m + 1, l, h, h2 => by
    simp only [perms]
    split
    · rfl
    · unfold List.flatMap
      congr 1
      apply List.map_congr_left
      intro i hi
      have hi := List.mem_range.1 hi
      rw [perms_fuel n m _ (by rw [outAt_len hi]; omega) (by rw [outAt_len hi]; omega)]
theorem outAt_mem {l : List Int} {i : Nat} {x : Int} (h : x ∈ outAt l i) : x ∈ l := by
  rcases List.mem_append.1 h with h | h
  · exact List.mem_of_mem_take h
  · exact List.mem_of_mem_drop h
theorem perms_len : ∀ (n : Nat) (l : List Int), l.length ≤ n → ∀ o ∈ perms n l, o.length = l.length
  | 0, l, h, o, ho => by
    simp only [perms, List.mem_singleton] at ho
    subst ho
    simp only [List.length_nil]
    omega
  | n + 1, l, h, o, ho => by
    simp only [perms] at ho
    split at ho
    · simp only [List.mem_singleton] at ho
      subst ho
      simp only [List.length_nil]
      omega
    · obtain ⟨i, hi, ho⟩ := List.mem_flatMap.1 ho
      have hi := List.mem_range.1 hi
      obtain ⟨r, hr, rfl⟩ := List.mem_map.1 ho
      have := perms_len n _ (by rw [outAt_len hi]; omega) r hr
      rw [List.length_cons, this, outAt_len hi]
      omega
theorem perms_mem : ∀ (n : Nat) (l : List Int), ∀ o ∈ perms n l, ∀ x ∈ o, x ∈ l
  | 0, l, o, ho, x, hx => by
    simp only [perms, List.mem_singleton] at ho
    subst ho
    cases hx
  | n + 1, l, o, ho, x, hx => by
    simp only [perms] at ho
    split at ho
    · simp only [List.mem_singleton] at ho
      subst ho
      cases hx
    · obtain ⟨i, hi, ho⟩ := List.mem_flatMap.1 ho
      have hi := List.mem_range.1 hi
      obtain ⟨r, hr, rfl⟩ := List.mem_map.1 ho
      rcases List.mem_cons.1 hx with rfl | hx
      · rw [getD_lt hi]
        exact List.getElem_mem _
      · exact outAt_mem (perms_mem n _ r hr x hx)
/-- The orders of numbers that begin with the first so many of them. -/
def permsTo (n : Nat) (l : List Int) (i : Nat) : List (List Int) := (List.range i).flatMap fun j => (perms n (outAt l j)).map (l.getD j 0 :: ·)
theorem permsTo_zero (n : Nat) (l : List Int) : permsTo n l 0 = [] := rfl
theorem permsTo_succ (n : Nat) (l : List Int) (i : Nat) : permsTo n l (i + 1) = permsTo n l i ++ (perms n (outAt l i)).map (l.getD i 0 :: ·) := by
  simp [permsTo, List.range_succ]
theorem perms_to {n : Nat} {l : List Int} (h : l.length ≠ 0) : perms (n + 1) l = permsTo n l l.length := by
  rw [perms, if_neg h, permsTo]
theorem flat_two (l : List Int) (i : Nat) : [(l.take i).drop 0, (l.take l.length).drop (i + 1)].flatten = outAt l i := by
  simp [outAt]
def factN : Nat → Nat
  | 0 => 1
  | n + 1 => (n + 1) * factN n
theorem permsTo_count {n : Nat} {l : List Int} (ih : ∀ l' : List Int, l'.length ≤ n → (perms n l').length ≤ factN n) (h : l.length ≤ n + 1) : ∀ i, i ≤ l.length → (permsTo n l i).length ≤ i * factN n
  | 0, _ => by simp [permsTo_zero]
  | i + 1, hi => by
    have := permsTo_count ih h i (by omega)
    have h2 := ih (outAt l i) (by rw [outAt_len (by omega)]; omega)
    rw [permsTo_succ, List.length_append, List.length_map, Nat.add_mul]
    omega
theorem perms_count : ∀ (n : Nat) (l : List Int), l.length ≤ n → (perms n l).length ≤ factN n
  | 0, l, h => by simp [perms, factN]
  | n + 1, l, h => by
    by_cases h0 : l.length = 0
    · have : l = [] := List.length_eq_zero_iff.1 h0
      subst this
      rw [perms_nil]
      have : ∀ m, 1 ≤ factN m := fun m => by
        induction m with
        | zero => exact Nat.le_refl _
        | succ m ih => exact Nat.le_trans ih (Nat.le_mul_of_pos_left _ (by omega))
      exact this _
    · rw [perms_to h0]
      have := permsTo_count (perms_count n) h l.length (Nat.le_refl _)
      exact Nat.le_trans this (Nat.mul_le_mul_right _ h)
end Go.Proofs.Ytglokajinehbmaa
end

section
namespace Go.Proofs.Ytglokajinehbmaa
open Go Go.Pi Go.RowKit
set_option maxRecDepth 100000
set_option linter.unusedVariables false
set_option linter.unusedSimpArgs false

/-- One order is looked at. -/
def gLeaf (p : Prob) (fixed : List (Int × Int)) (o : List Int) (pl : List (Int × Int)) (le : Int) (fo : Bool) (K : List (Int × Int) → Int → Bool → Prop) : Prop :=
  f111_pre (p, (fixed, o)) ∧
  br (f111 (p, (fixed, o))).2
  (f90_pre (p, (f111 (p, (fixed, o))).1) ∧
  br (!fo)
  (K ((f111 (p, (fixed, o))).1) (f90 (p, (f111 (p, (fixed, o))).1)) true)
  (br (decide ((f90 (p, (f111 (p, (fixed, o))).1)) < le))
  (K ((f111 (p, (fixed, o))).1) (f90 (p, (f111 (p, (fixed, o))).1)) true)
  (K pl le fo)))
  (K pl le fo)
def gGo (p : Prob) (fixed : List (Int × Int)) : Nat → List Int → List Int → List (Int × Int) → Int → Bool → (List (Int × Int) → Int → Bool → Prop) → Prop
  | 0, begun, rest, pl, le, fo, K => br (lenOk (rest.length)) (br (((rest.length) : Int) == 0)
    (gLeaf p fixed begun pl le fo K)
    (br (lenOk (rest.length)) (LoopP (V := Int × Unit) (fun again v => (fun (again4 : Int → Prop) (v4_0 : Int) =>
      br (decide (v4_0 < ((rest.length) : Int)))
      (br (decide (0 ≤ v4_0) && decide (v4_0 < ((rest.length) : Int)))
      (br (decide ((0 : Int) ≤ 0 ∧ 0 ≤ v4_0 ∧ v4_0 ≤ ((rest.length) : Int)))
      (br (decide ((0 : Int) ≤ (IntKind.i64.wrap (v4_0 + 1)) ∧ (IntKind.i64.wrap (v4_0 + 1)) ≤ ((rest.length) : Int) ∧ ((rest.length) : Int) ≤ ((rest.length) : Int)))
      (f127_pre ([((rest.take v4_0.toNat).drop 0), ((rest.take (((rest.length) : Int).toNat)).drop ((IntKind.i64.wrap (v4_0 + 1)).toNat))] : List (List Int)) ∧
      br (roomOk (((f128 begun).length) + 1) 8)
      (False)
      False)
      False)
      False)
      False)
      (K pl le fo))
      (fun v4_0 => again (v4_0, ())) v.1) (0, ())) True)) True
  | n + 1, begun, rest, pl, le, fo, K => br (lenOk (rest.length)) (br (((rest.length) : Int) == 0)
    (gLeaf p fixed begun pl le fo K)
    (br (lenOk (rest.length)) (LoopP (V := Int × List (Int × Int) × Int × Bool × Unit) (fun again v => (fun (again4 : Int → List (Int × Int) → Int → Bool → Prop) (v4_0 : Int) (v4_1 : List (Int × Int)) (v4_2 : Int) (v4_3 : Bool) =>
      br (decide (v4_0 < ((rest.length) : Int)))
      (br (decide (0 ≤ v4_0) && decide (v4_0 < ((rest.length) : Int)))
      (br (decide ((0 : Int) ≤ 0 ∧ 0 ≤ v4_0 ∧ v4_0 ≤ ((rest.length) : Int)))
      (br (decide ((0 : Int) ≤ (IntKind.i64.wrap (v4_0 + 1)) ∧ (IntKind.i64.wrap (v4_0 + 1)) ≤ ((rest.length) : Int) ∧ ((rest.length) : Int) ≤ ((rest.length) : Int)))
      (f127_pre ([((rest.take v4_0.toNat).drop 0), ((rest.take (((rest.length) : Int).toNat)).drop ((IntKind.i64.wrap (v4_0 + 1)).toNat))] : List (List Int)) ∧
      br (roomOk (((f128 begun).length) + 1) 8)
      (gGo p fixed n ((f128 begun) ++ ([(rest.getD v4_0.toNat 0)] : List Int)) (f127 ([((rest.take v4_0.toNat).drop 0), ((rest.take (((rest.length) : Int).toNat)).drop ((IntKind.i64.wrap (v4_0 + 1)).toNat))] : List (List Int))) v4_1 v4_2 v4_3 (fun pl le fo => again4 (IntKind.i64.wrap (v4_0 + 1)) pl le fo))
      False)
      False)
      False)
      False)
      (K v4_1 v4_2 v4_3))
      (fun v4_0 v4_1 v4_2 v4_3 => again (v4_0, v4_1, v4_2, v4_3, ())) v.1 v.2.1 v.2.2.1 v.2.2.2.1) (0, pl, le, fo, ())) True)) True
def bestStep (p : Prob) (fixed : List (Int × Int)) (s : List (Int × Int) × Int × Bool) (o : List Int) : List (Int × Int) × Int × Bool :=
  if (contF p fixed o).2 = true then (if s.2.2 = false ∨ costF p (contF p fixed o).1 < s.2.1 then ((contF p fixed o).1, costF p (contF p fixed o).1, true) else s) else s
def leftF (p : Prob) (fixed : List (Int × Int)) (i : Nat) : List Int := ((List.range i).filter fun (j : Nat) => !(hasS fixed j)).map fun (j : Nat) => (j : Int)
def restF (p : Prob) (fixed : List (Int × Int)) : List Int := leftF p fixed p.2.1.length
def bestF (p : Prob) (fixed : List (Int × Int)) : List (Int × Int) × Int × Bool := (perms 8 (restF p fixed)).foldl (bestStep p fixed) ([], 0, false)
theorem leftF_succ (p : Prob) (fixed : List (Int × Int)) (i : Nat) : leftF p fixed (i + 1) = if hasS fixed i = true then leftF p fixed i else leftF p fixed i ++ [(i : Int)] := by
  unfold leftF
  rw [List.range_succ, List.filter_append, List.map_append]
  by_cases h : hasS fixed i = true <;> simp [h]
theorem leftF_len (p : Prob) (fixed : List (Int × Int)) : ∀ i, (leftF p fixed i).length ≤ i
  | 0 => by simp [leftF]
  | i + 1 => by
    have := leftF_len p fixed i
    rw [leftF_succ]
    split
    · omega
    · rw [List.length_append, List.length_singleton]
      omega
theorem leftF_in (p : Prob) (fixed : List (Int × Int)) : ∀ a ∈ restF p fixed, inA p a := fun a ha => by
  obtain ⟨j, hj, rfl⟩ := List.mem_map.1 ha
  have := List.mem_range.1 ((List.mem_filter.1 hj).1)
  exact ⟨by omega, by omega⟩
/-- What is known of fixed slots. -/
structure FixV (p : Prob) (fixed : List (Int × Int)) : Prop where
  ok : okP p
  slots : ∀ s ∈ fixed, slotV p s
  len : fixed.length ≤ 900
theorem gLeaf_ok {p : Prob} {fixed : List (Int × Int)} (hf : FixV p fixed) {o : List Int} (ho : ∀ a ∈ o, inA p a) (hl : o.length ≤ 50) {pl : List (Int × Int)} {le : Int} {fo : Bool} {K : List (Int × Int) → Int → Bool → Prop}
    (hK : ∀ r, r = bestStep p fixed (pl, le, fo) o → K r.1 r.2.1 r.2.2) : gLeaf p fixed o pl le fo K := by
  have hv := hf.ok.v
  have e : f111 (p, (fixed, o)) = contF p fixed o := rfl
  unfold gLeaf
  rw [e]
  refine ⟨⟨hf.ok, ⟨hf.slots, show fixed.length ≤ 1000 by have := hf.len; omega⟩, ho, show o.length ≤ 1000 by omega⟩, ?_⟩
  unfold bestStep at hK
  rw [br_both]
  refine ⟨fun h => ?_, fun h => ?_⟩
  · rw [if_pos h] at hK
    have hvl : (∀ s ∈ (contF p fixed o).1, slotV p s) ∧ (contF p fixed o).1.length ≤ 1000 := by
      unfold contF at h ⊢
      cases e : contL p fixed o with
      | none => rw [e] at h; cases h
      | some l =>
        obtain ⟨v1, v2⟩ := contL_ok hv o fixed hf.slots ho l e
        exact ⟨v1, show l.length ≤ 1000 by have := hf.len; omega⟩
    refine ⟨⟨hf.ok, hvl.1, hvl.2⟩, ?_⟩
    have e90 : f90 (p, (contF p fixed o).1) = costF p (contF p fixed o).1 := rfl
    rw [e90]
    cases fo with
    | false =>
      exact hK _ (if_pos (.inl rfl)).symm
    | true =>
      rw [Bool.not_true, br_f, br_dec]
      refine ⟨fun hlt => hK _ (if_pos (.inr hlt)).symm, fun hlt => hK (pl, le, true) (if_neg ?_).symm⟩
      rintro (h1 | h1)
      · cases h1
      · exact hlt h1
  · rw [if_neg (by rw [h]; simp)] at hK
    exact hK _ rfl
theorem gGo_ok {p : Prob} {fixed : List (Int × Int)} (hf : FixV p fixed) : ∀ (n : Nat) (begun rest : List Int) (pl : List (Int × Int)) (le : Int) (fo : Bool) (K : List (Int × Int) → Int → Bool → Prop),
    rest.length ≤ n → (∀ a ∈ begun, inA p a) → (∀ a ∈ rest, inA p a) → begun.length + rest.length ≤ 50 →
    (∀ r, r = ((perms n rest).map (begun ++ ·)).foldl (bestStep p fixed) (pl, le, fo) → K r.1 r.2.1 r.2.2) → gGo p fixed n begun rest pl le fo K
  | 0, begun, rest, pl, le, fo, K, h0, hb, hr, hl, hK => by
    have : rest = [] := List.length_eq_zero_iff.1 (by omega)
    subst this
    unfold gGo
    rw [br_true_]
    intro _
    exact gLeaf_ok hf hb (by simp at hl; omega) fun r e => hK r (by simpa [perms] using e)
  | n + 1, begun, rest, pl, le, fo, K, h0, hb, hr, hl, hK => by
    unfold gGo
    rw [br_true_]
    intro _
    rw [br_both]
    refine ⟨fun h => ?_, fun h => ?_⟩
    · have : rest = [] := List.length_eq_zero_iff.1 (by have : ((rest.length : Nat) : Int) = 0 := by simpa using h
                                                        omega)
      subst this
      exact gLeaf_ok hf hb (by simp at hl; omega) fun r e => hK r (by simpa [perms] using e)
    · have hne : rest.length ≠ 0 := fun hh => by simp [hh] at h
      rw [br_true_]
      intro _
      rw [perms_to hne] at hK
      refine LoopP.of (fun q : Int × List (Int × Int) × Int × Bool × Unit => ∃ i : Nat, i ≤ rest.length ∧ q.1 = (i : Int) ∧ (q.2.1, q.2.2.1, q.2.2.2.1) = ((permsTo n rest i).map (begun ++ ·)).foldl (bestStep p fixed) (pl, le, fo)) (fun q => ((rest.length : Int) - q.1).toNat) (fun again q hq hag => ?_) ⟨0, by omega, rfl, by simp [permsTo_zero]⟩
      obtain ⟨ii, pl1, le1, fo1, u⟩ := q
      obtain ⟨i, hi, e1, e2⟩ := hq
      simp only at e1 e2
      subst e1
      dsimp only
      rw [br_dec]
      refine ⟨fun hlt => ?_, fun hlt => ?_⟩
      · have hlt : i < rest.length := by omega
        have w1 : IntKind.i64.wrap ((i : Int) + 1) = (i : Int) + 1 := wr (by omega) (by omega)
        have n1 : ((i : Int) + 1).toNat = i + 1 := by omega
        simp only [w1, n1, Int.toNat_natCast]
        rw [br_false_]
        refine ⟨inb (by omega) (by omega), ?_⟩
        rw [br_false_]
        refine ⟨decide_eq_true (by omega), ?_⟩
        rw [br_false_]
        refine ⟨decide_eq_true (by omega), ?_⟩
        have hfl := flat_two rest i
        have hol := outAt_len hlt
        refine ⟨⟨by simp, by rw [hfl, hol]; omega⟩, ?_⟩
        have e128 : f128 begun = begun := rfl
        have e127 : f127 [(rest.take i).drop 0, (rest.take rest.length).drop (i + 1)] = outAt rest i := hfl
        rw [e128, e127, br_false_, roomOk_iff]
        refine ⟨by omega, ?_⟩
        have hai : inA p (rest.getD i 0) := hr _ (by rw [getD_lt hlt]; exact List.getElem_mem _)
        refine gGo_ok hf n _ _ _ _ _ _ (by rw [hol]; omega) (fun a ha => ?_) (fun a ha => hr a (outAt_mem ha)) (by rw [List.length_append, List.length_singleton, hol]; omega) (fun r er => ?_)
        · rcases List.mem_append.1 ha with ha | ha
          · exact hb a ha
          · simp only [List.mem_singleton] at ha
            rw [ha]
            exact hai
        · refine hag (_, _, _, _, ()) ⟨i + 1, by omega, by simp only; omega, ?_⟩ (by simp only; omega)
          simp only
          rw [permsTo_succ, List.map_append, List.foldl_append, ← e2, er, List.map_map]
          have : ((begun ++ ·) ∘ (rest.getD i 0 :: ·)) = fun o => (begun ++ [rest.getD i 0]) ++ o := by
            funext o
            simp
          rw [this]
      · have : i = rest.length := by omega
        subst this
        exact hK (pl1, le1, fo1) e2
def f94 (x : ((List (List Int) × List (List Int)) × List (ByteArray × Int × Int × Int × Int) × List Int) × List (Int × Int)) : List (Int × Int) × Int × Bool := bestF x.1 x.2
def f94_pre (x : ((List (List Int) × List (List Int)) × List (ByteArray × Int × Int × Int × Int) × List Int) × List (Int × Int)) : Prop := FixV x.1 x.2
def f94_e : Entry := { doms := [(true, (.pair (.pair (.sl (.sl (.int .i64))) (.sl (.sl (.int .i64)))) (.pair (.sl (.pair .str (.pair (.int .i64) (.pair (.int .i64) (.pair (.int .i64) (.int .i64)))))) (.sl (.int .i64))))), (false, (.sl (.pair (.int .i64) (.int .i64))))], cods := [(false, (.sl (.pair (.int .i64) (.int .i64)))), (false, (.int .i64)), (false, .bool)], pre := f94_pre, fn := f94, uq := false, total := false }
def f94_E : Env := [(90, f90_e), (111, f111_e), (112, f112_e), (127, f127_e), (128, f128_e), (40, f40_e)]
def f94_A : Anns := { loops := [(1048576, { tms := [(2, .keep), (3, .keep), (4, .keep), (5, .keep), (6, .keep), (7, .ref 1054723), (19, .keep), (20, .data false (.int .i64))], obs := [(1048576, .keep), (1048577, .keep), (1054723, .arr (.uniq) (.int .i64))], fz := [] }),
  (2017625827203612672, { tms := [(0, .keep), (1, .keep), (2, .keep), (16, .keep), (17, .keep), (18, .data false (.int .i64))], obs := [(1048576, .keep), (1048577, .keep), (1054723, .keep), (1056768, .cells [.data (.sl (.pair (.int .i64) (.int .i64)))]), (1057792, .cells [.data (.int .i64)]), (1057793, .cells [.data .bool]), (1110250094592, .keep)], fz := [1054723] }),
  (2115634019385862884687872, { tms := [(0, .keep), (1, .keep), (2, .keep), (16, .keep), (17, .keep), (18, .data false (.int .i64))], obs := [(1048576, .keep), (1048577, .keep), (1054723, .keep), (1056768, .cells [.data (.sl (.pair (.int .i64) (.int .i64)))]), (1057792, .cells [.data (.int .i64)]), (1057793, .cells [.data .bool]), (1110250094592, .keep)], fz := [] }),
  (2218403057511550560181993603072, { tms := [(0, .keep), (1, .keep), (2, .keep), (16, .keep), (17, .keep), (18, .data false (.int .i64))], obs := [(1048576, .keep), (1048577, .keep), (1054723, .keep), (1056768, .cells [.data (.sl (.pair (.int .i64) (.int .i64)))]), (1057792, .cells [.data (.int .i64)]), (1057793, .cells [.data .bool]), (1110250094592, .keep)], fz := [] }),
  (2326164204433231640193394131858358272, { tms := [(0, .keep), (1, .keep), (2, .keep), (16, .keep), (17, .keep), (18, .data false (.int .i64))], obs := [(1048576, .keep), (1048577, .keep), (1054723, .keep), (1056768, .cells [.data (.sl (.pair (.int .i64) (.int .i64)))]), (1057792, .cells [.data (.int .i64)]), (1057793, .cells [.data .bool]), (1110250094592, .keep)], fz := [] }),
  (2439159956827780300347428445207517406953472, { tms := [(0, .keep), (1, .keep), (2, .keep), (16, .keep), (17, .keep), (18, .data false (.int .i64))], obs := [(1048576, .keep), (1048577, .keep), (1054723, .keep), (1056768, .cells [.data (.sl (.pair (.int .i64) (.int .i64)))]), (1057792, .cells [.data (.int .i64)]), (1057793, .cells [.data .bool]), (1110250094592, .keep)], fz := [] }),
  (2557644590890646556217105129361917772521167388672, { tms := [(0, .keep), (1, .keep), (2, .keep), (16, .keep), (17, .keep), (18, .data false (.int .i64))], obs := [(1048576, .keep), (1048577, .keep), (1054723, .keep), (1056768, .cells [.data (.sl (.pair (.int .i64) (.int .i64)))]), (1057792, .cells [.data (.int .i64)]), (1057793, .cells [.data .bool]), (1110250094592, .keep)], fz := [] }),
  (2681884734537750603331907228125802290239155623267663872, { tms := [(0, .keep), (1, .keep), (2, .keep), (16, .keep), (17, .keep), (18, .data false (.int .i64))], obs := [(1048576, .keep), (1048577, .keep), (1054723, .keep), (1056768, .keep), (1057792, .keep), (1057793, .keep), (1110250094592, .keep)], fz := [] })], own := [] }
theorem f94_run (a0 : (List (List Int) × List (List Int)) × List (ByteArray × Int × Int × Int × Int) × List Int) (a1 : List (Int × Int)) (K : (List (Int × Int) × Int × Bool) → Prop) : runF Try.prog f94_E f94_A 8 Try.f94 f94_e.doms f94_e.cods (a0, a1) K =
    (br (lenOk (a0.2.1.length))
    (LoopP (V := Int × List Int × Unit) (fun again v => (fun (again1 : Int → List Int → Prop) (v1_0 : Int) (v1_1 : List Int) =>
    br (decide (v1_0 < ((a0.2.1.length) : Int)))
    (br (!(f112 (a1, v1_0)))
    (br (roomOk ((v1_1.length) + 1) 8)
    (again1 (IntKind.i64.wrap (v1_0 + 1)) (v1_1 ++ ([v1_0] : List Int)))
    False)
    (again1 (IntKind.i64.wrap (v1_0 + 1)) v1_1))
    (gGo a0 a1 6 [] v1_1 [] 0 false (fun pl le fo => K (pl, (le, fo)))))
    (fun v1_0 v1_1 => again (v1_0, v1_1, ())) v.1 v.2.1) (0, ([] : List Int), ()))
    True) := by kernel_rfl
theorem f94_t (a0 : (List (List Int) × List (List Int)) × List (ByteArray × Int × Int × Int × Int) × List Int) (a1 : List (Int × Int)) (hpre : f94_pre (a0, a1)) (K : (List (Int × Int) × Int × Bool) → Prop) (hK : ∀ y : List (Int × Int) × Int × Bool, y = f94 (a0, a1) → K y) : RunF Try.prog f94_E f94_A 8 Try.f94 f94_e.doms f94_e.cods (a0, a1) K := by
  refine ⟨?_⟩
  rw [f94_run a0 a1 K]
  have hf : FixV a0 a1 := hpre
  have h6 := hf.ok.v.six
  rw [br_true_]
  intro _
  refine LoopP.of (fun q : Int × List Int × Unit => ∃ i : Nat, i ≤ a0.2.1.length ∧ q.1 = (i : Int) ∧ q.2.1 = leftF a0 a1 i) (fun q => ((a0.2.1.length : Int) - q.1).toNat) (fun again q hq hag => ?_) ⟨0, by omega, rfl, rfl⟩
  obtain ⟨ii, l, u⟩ := q
  obtain ⟨i, hi, e1, e2⟩ := hq
  simp only at e1 e2
  subst e1 e2
  dsimp only
  have hll := leftF_len a0 a1 i
  rw [br_dec]
  refine ⟨fun hlt => ?_, fun hlt => ?_⟩
  · have hlt : i < a0.2.1.length := by omega
    have e112 : f112 (a1, (i : Int)) = hasS a1 i := rfl
    rw [e112, wr (n := (i : Int) + 1) (by omega) (by omega)]
    have hs := leftF_succ a0 a1 i
    rw [br_both]
    refine ⟨fun h => ?_, fun h => ?_⟩
    · rw [if_neg (by rw [not_true.1 h]; simp)] at hs
      rw [br_false_, roomOk_iff]
      exact ⟨by omega, hag (_, _, ()) ⟨i + 1, by omega, by simp only; omega, hs.symm⟩ (by simp only; omega)⟩
    · rw [if_pos (not_false_.1 h)] at hs
      exact hag (_, _, ()) ⟨i + 1, by omega, by simp only; omega, hs.symm⟩ (by simp only; omega)
  · have hi : i = a0.2.1.length := by omega
    subst hi
    refine gGo_ok hf 6 _ _ _ _ _ _ (by omega) (fun a ha => by cases ha) (leftF_in a0 a1) (by simp only [List.length_nil]; omega) (fun r er => hK _ ?_)
    rw [perms_fuel 6 8 _ (by omega) (by omega)] at er
    simp only [List.nil_append, List.map_id'] at er
    exact er
theorem f94_fn : f94_e.fn = f94 := rfl
theorem f94_ok : EntryOK Try.prog 94 f94_e := by
  refine entryF progOK (EnvOK.cons f90_ok (EnvOK.cons f111_ok (EnvOK.cons f112_ok (EnvOK.cons f127_ok (EnvOK.cons f128_ok (EnvOK.cons f40_ok (EnvOK.nil))))))) (A := f94_A) (d := 8) Try.func94 rfl rfl rfl rfl (fun h => by cases h) fun x hpre => ?_
  obtain ⟨a0, a1⟩ := x
  exact f94_t a0 a1 hpre _ fun _ h => h.trans (congrFun f94_fn.symm _)
end Go.Proofs.Ytglokajinehbmaa
end

section
namespace Go.Proofs.Ytglokajinehbmaa
open Go Go.Pi Go.RowKit
set_option maxRecDepth 100000
set_option linter.unusedVariables false
set_option linter.unusedSimpArgs false

def f49 (x : ((List (List Int) × List (List Int)) × List (ByteArray × Int × Int × Int × Int) × List Int) × List (Int × Int)) : Int := if slotsErr x.1 x.2 ≠ 0 then slotsErr x.1 x.2 else if x.2.length ≠ x.1.2.1.length then 10 else 0
def f49_pre (x : ((List (List Int) × List (List Int)) × List (ByteArray × Int × Int × Int × Int) × List Int) × List (Int × Int)) : Prop := okP x.1
def f49_e : Entry := { doms := [(true, (.pair (.pair (.sl (.sl (.int .i64))) (.sl (.sl (.int .i64)))) (.pair (.sl (.pair .str (.pair (.int .i64) (.pair (.int .i64) (.pair (.int .i64) (.int .i64)))))) (.sl (.int .i64))))), (false, (.sl (.pair (.int .i64) (.int .i64))))], cods := [(false, (.int .i64))], pre := f49_pre, fn := f49, uq := false, total := false }
def f49_E : Env := [(58, f58_e)]
def f49_A : Anns := { loops := [], own := [] }
theorem f49_run (a0 : (List (List Int) × List (List Int)) × List (ByteArray × Int × Int × Int × Int) × List Int) (a1 : List (Int × Int)) (K : Int → Prop) : runF Try.prog f49_E f49_A 6 Try.f49 f49_e.doms f49_e.cods (a0, a1) K =
    (f58_pre (a0, a1) ∧
    br ((f58 (a0, a1)) != 0)
    (K (f58 (a0, a1)))
    (br (lenOk (a1.length))
    (br (lenOk (a0.2.1.length))
    (br (((a1.length) : Int) != ((a0.2.1.length) : Int))
    (K 10)
    (K 0))
    True)
    True)) := by kernel_rfl
theorem f49_t (a0 : (List (List Int) × List (List Int)) × List (ByteArray × Int × Int × Int × Int) × List Int) (a1 : List (Int × Int)) (hpre : f49_pre (a0, a1)) (K : Int → Prop) (hK : ∀ y : Int, y = f49 (a0, a1) → K y) : RunF Try.prog f49_E f49_A 6 Try.f49 f49_e.doms f49_e.cods (a0, a1) K := by
  refine ⟨?_⟩
  rw [f49_run a0 a1 K]
  refine ⟨hpre, ?_⟩
  have e58 : f58 (a0, a1) = slotsErr a0 a1 := rfl
  rw [e58, br_both]
  refine ⟨fun h => hK _ ?_, fun h => ?_⟩
  · rw [f49, if_pos (by simpa using h)]
  have h0 : ¬ slotsErr a0 a1 ≠ 0 := by simpa using h
  rw [br_true_]
  intro _
  rw [br_true_]
  intro _
  rw [br_both]
  exact ⟨fun h => hK _ (by rw [f49, if_neg h0, if_pos (cast_ne.1 h)]), fun h => hK _ (by rw [f49, if_neg h0, if_neg (fun hh => hh (cast_ne_f.1 h))])⟩
theorem f49_fn : f49_e.fn = f49 := rfl
theorem f49_ok : EntryOK Try.prog 49 f49_e := by
  refine entryF progOK (EnvOK.cons f58_ok (EnvOK.nil)) (A := f49_A) (d := 6) Try.func49 rfl rfl rfl rfl (fun h => by cases h) fun x hpre => ?_
  obtain ⟨a0, a1⟩ := x
  exact f49_t a0 a1 hpre _ fun _ h => h.trans (congrFun f49_fn.symm _)
end Go.Proofs.Ytglokajinehbmaa
end
