/- What functions of the program compute, each proved once, part 7. -/
import Derived.Test.YtglokajinehbmaaGreatPiD
import Derived.Test.YtglokajinehbmaaGreatFnA
import Derived.Test.YtglokajinehbmaaGreatFnB
import Derived.Test.YtglokajinehbmaaGreatFnF

section
namespace Go.Proofs.YtglokajinehbmaaGreat
open Go Go.Pi Go.RowKit
set_option maxRecDepth 100000
set_option linter.unusedVariables false
set_option linter.unusedSimpArgs false

def slot1 (p : Prob) (b : List (Int × Int)) (s : Int × Int) : Int := if ¬ (0 ≤ s.1 ∧ s.1 ≤ (p.2.1.length : Int) - 1) then 6 else if hasS b s.1 = true then 21 else 0
def f108 (x : ((List (List Int) × List (List Int)) × List (ByteArray × Int × Int × Int × Int) × List Int) × List (Int × Int) × Int × Int) : Int := slot1 x.1 x.2.1 x.2.2
def f108_pre (x : ((List (List Int) × List (List Int)) × List (ByteArray × Int × Int × Int × Int) × List Int) × List (Int × Int) × Int × Int) : Prop := x.1.2.1.length ≤ 1000
def f108_e : Entry := { doms := [(true, (.pair (.pair (.sl (.sl (.int .i64))) (.sl (.sl (.int .i64)))) (.pair (.sl (.pair .str (.pair (.int .i64) (.pair (.int .i64) (.pair (.int .i64) (.int .i64)))))) (.sl (.int .i64))))), (false, (.sl (.pair (.int .i64) (.int .i64)))), (true, (.pair (.int .i64) (.int .i64)))], cods := [(false, (.int .i64))], pre := f108_pre, fn := f108, uq := false, total := false }
def f108_E : Env := [(39, f39_e), (42, f42_e), (43, f43_e), (89, f89_e), (70, f70_e), (120, f120_e)]
def f108_A : Anns := { loops := [], own := [] }
theorem f108_run (a0 : (List (List Int) × List (List Int)) × List (ByteArray × Int × Int × Int × Int) × List Int) (a1 : List (Int × Int)) (a2 : Int × Int) (K : Int → Prop) : runF Tryz.prog f108_E f108_A 6 Tryz.f108 f108_e.doms f108_e.cods (a0, a1, a2) K =
    (br (lenOk (a0.2.1.length))
    (K (f42 ([(f43 ((f39 (a2.1, (0, (IntKind.i64.wrap (((a0.2.1.length) : Int) - 1))))), 6)), (f43 ((!(f89 (a1, a2.1))), 21))] : List Int)))
    True) := by kernel_rfl
theorem f108_t (a0 : (List (List Int) × List (List Int)) × List (ByteArray × Int × Int × Int × Int) × List Int) (a1 : List (Int × Int)) (a2 : Int × Int) (hpre : f108_pre (a0, a1, a2)) (K : Int → Prop) (hK : ∀ y : Int, y = f108 (a0, a1, a2) → K y) : RunF Tryz.prog f108_E f108_A 6 Tryz.f108 f108_e.doms f108_e.cods (a0, a1, a2) K := by
  refine ⟨?_⟩
  rw [f108_run a0 a1 a2 K]
  have h : a0.2.1.length ≤ 1000 := hpre
  rw [br_true_]
  intro _
  refine hK _ ?_
  rw [wr (n := (a0.2.1.length : Int) - 1) (by omega) (by omega), ord_errs, f108, slot1]
  simp only
  by_cases h3 : 0 ≤ a2.1 ∧ a2.1 ≤ (a0.2.1.length : Int) - 1
  · rw [f39_t1.2 h3, if_neg (show ¬ (true = false) by decide), if_neg (fun hh : ¬ (0 ≤ a2.1 ∧ a2.1 ≤ (a0.2.1.length : Int) - 1) => hh h3)]
    rfl
  · rw [f39_f1.2 h3, if_pos rfl, if_pos h3]
theorem f108_fn : f108_e.fn = f108 := rfl
theorem f108_ok : EntryOK Tryz.prog 108 f108_e := by
  refine entryF progOK (EnvOK.cons f39_ok (EnvOK.cons f42_ok (EnvOK.cons f43_ok (EnvOK.cons f89_ok (EnvOK.cons f70_ok (EnvOK.cons f120_ok (EnvOK.nil))))))) (A := f108_A) (d := 6) Tryz.func108 rfl rfl rfl rfl (fun h => by cases h) fun x hpre => ?_
  obtain ⟨a0, a1, a2⟩ := x
  exact f108_t a0 a1 a2 hpre _ fun _ h => h.trans (congrFun f108_fn.symm _)
end Go.Proofs.YtglokajinehbmaaGreat
end

section
namespace Go.Proofs.YtglokajinehbmaaGreat
open Go Go.Pi Go.RowKit
set_option maxRecDepth 100000
set_option linter.unusedVariables false
set_option linter.unusedSimpArgs false

def f65 (x : List (Int × Int) × Int) : Bool := hasS x.1 x.2
def f65_e : Entry := { doms := [(false, (.sl (.pair (.int .i64) (.int .i64)))), (false, (.int .i64))], cods := [(false, .bool)], pre := fun _ => True, fn := f65, uq := false, total := true }
def f65_E : Env := [(89, f89_e)]
def f65_A : Anns := { loops := [(1048576, { tms := [(0, .keep), (1, .keep), (5, .data false (.int .i64))], obs := [], fz := [] })], own := [] }
theorem f65_run (a0 : List (Int × Int)) (a1 : Int) (K : Bool → Prop) : runF Tryz.prog f65_E f65_A 6 Tryz.f65 f65_e.doms f65_e.cods (a0, a1) K =
    (LoopP (V := Int × Unit) (fun again v => (fun (again1 : Int → Prop) (v1_0 : Int) =>
    br (lenOk (a0.length))
    (br (decide (v1_0 < ((a0.length) : Int)))
    (br (decide (0 ≤ v1_0) && decide (v1_0 < ((a0.length) : Int)))
    (br ((a0.getD v1_0.toNat (0, 0)).1 == a1)
    (K true)
    (again1 (IntKind.i64.wrap (v1_0 + 1))))
    False)
    (K false))
    True)
    (fun v1_0 => again (v1_0, ())) v.1) (0, ())) := by kernel_rfl
theorem f65_t (a0 : List (Int × Int)) (a1 : Int) (K : Bool → Prop) (hK : ∀ y : Bool, y = f65 (a0, a1) → K y) : RunF Tryz.prog f65_E f65_A 6 Tryz.f65 f65_e.doms f65_e.cods (a0, a1) K := by
  refine ⟨?_⟩
  rw [f65_run a0 a1 K]
  refine LoopP.up a0.length (fun i _ => ∀ x ∈ a0.take i.toNat, (x.1 == a1) = false) (fun again i v hi0 hn hI hag => ?_) (by omega) all_zero
  dsimp only
  rw [br_true_, lenOk_iff]
  intro hl
  rw [br_dec]
  refine ⟨fun hi => ?_, fun hi => hK _ ?_⟩
  · have hil : i.toNat < a0.length := by omega
    rw [br_false_]
    refine ⟨by simp; omega, ?_⟩
    rw [br_both]
    refine ⟨fun h => hK _ ?_, fun h => ?_⟩
    · have : hasS a0 a1 = true := List.any_eq_true.2 ⟨_, List.getElem_mem hil, by rw [← getD_lt (d := (0, 0)) hil]; exact h⟩
      rw [f65, this]
    · rw [wr (n := i + 1) (by omega) (by omega)]
      exact hag () hi (all_step (d := (0, 0)) hi0 hi hI h)
  · have hall := all_done hi hI
    unfold f65 hasS
    symm
    rw [← Bool.not_eq_true, List.any_eq_true]
    rintro ⟨x, hx, he⟩
    rw [hall x hx] at he
    cases he
theorem f65_fn : f65_e.fn = f65 := rfl
theorem f65_ok : EntryOK Tryz.prog 65 f65_e := by
  refine entryF progOK (EnvOK.cons f89_ok (EnvOK.nil)) (A := f65_A) (d := 6) Tryz.func65 rfl rfl rfl rfl (fun _ _ => trivial) fun x hpre => ?_
  obtain ⟨a0, a1⟩ := x
  exact f65_t a0 a1 _ fun _ h => h.trans (congrFun f65_fn.symm _)
end Go.Proofs.YtglokajinehbmaaGreat
end

section
namespace Go.Proofs.YtglokajinehbmaaGreat
open Go Go.Pi Go.RowKit
set_option maxRecDepth 100000
set_option linter.unusedVariables false
set_option linter.unusedSimpArgs false

theorem soonF_le {p : Prob} {a t : Int} : ∀ {l : List (Int × Int)}, soonF p l a ≤ t ↔ (p.2.1.getD a.toNat arrD).2.2.1 ≤ t ∧ ∀ s ∈ l, s.2 + apartF p s.1 a ≤ t := by
  intro l
  unfold soonF
  generalize (p.2.1.getD a.toNat arrD).2.2.1 = e
  induction l generalizing e with
  | nil => simp
  | cons s r ih =>
    rw [List.foldl_cons, ih]
    constructor
    · rintro ⟨h1, h2⟩
      refine ⟨by omega, fun x hx => ?_⟩
      rcases List.mem_cons.1 hx with rfl | hx
      · omega
      · exact h2 x hx
    · rintro ⟨h1, h2⟩
      have := h2 s (.head _)
      exact ⟨by omega, fun x hx => h2 x (.tail _ hx)⟩
def slE (p : Prob) (l : List (Int × Int)) (i : Nat) : Int := if slot1 p (l.take i) (l.getD i (0, 0)) ≠ 0 then slot1 p (l.take i) (l.getD i (0, 0)) else
  if ¬ ((p.2.1.getD (l.getD i (0, 0)).1.toNat arrD).2.2.1 ≤ (l.getD i (0, 0)).2 ∧ (l.getD i (0, 0)).2 ≤ (p.2.1.getD (l.getD i (0, 0)).1.toNat arrD).2.2.2.1) then 2 else if (l.getD i (0, 0)).2 < soonF p (l.take i) (l.getD i (0, 0)).1 then 20 else 0
def slotsErr (p : Prob) (l : List (Int × Int)) : Int := (eachE l.length (slE p l)).2
theorem slot1_zero {p : Prob} {b : List (Int × Int)} {s : Int × Int} (h : slot1 p b s = 0) : inA p s.1 ∧ hasS b s.1 = false := by
  unfold slot1 at h
  split at h
  · simp at h
  · rename_i h1
    have h1 := Classical.byContradiction h1
    split at h
    · simp at h
    · rename_i h2
      exact ⟨⟨h1.1, by omega⟩, by simpa using h2⟩
theorem slE_zero {p : Prob} (hv : ProbV p) {l : List (Int × Int)} {i : Nat} (h : slE p l i = 0) : slotV p (l.getD i (0, 0)) := by
  unfold slE at h
  split at h
  · rename_i h1; exact absurd h h1
  · rename_i h1
    obtain ⟨⟨a1, a2⟩, _⟩ := slot1_zero (Classical.byContradiction h1)
    split at h
    · simp at h
    · rename_i h2
      have h2 := Classical.byContradiction h2
      obtain ⟨⟨_, b, _⟩, _⟩ := hv.arr (l.getD i (0, 0)).1.toNat (by omega)
      have b2 := b.2.1
      have b3 := b.2.2.1
      exact ⟨⟨a1, a2⟩, by omega, by omega⟩
theorem slots_valid {p : Prob} (hv : ProbV p) {l : List (Int × Int)} {i : Nat} (hi : i ≤ l.length) (h : ∀ j, j < i → slE p l j = 0) : ∀ s ∈ l.take i, slotV p s := fun s hs => by
  obtain ⟨j, hj, rfl⟩ := List.getElem_of_mem hs
  rw [List.length_take] at hj
  have := slE_zero hv (h j (by omega))
  rw [List.getElem_take]
  rwa [getD_lt (by omega)] at this
def f24 (x : ((List (List Int) × List (List Int)) × List (ByteArray × Int × Int × Int × Int) × List Int) × List (Int × Int)) : Int := slotsErr x.1 x.2
def f24_pre (x : ((List (List Int) × List (List Int)) × List (ByteArray × Int × Int × Int × Int) × List Int) × List (Int × Int)) : Prop := okP x.1
def f24_e : Entry := { doms := [(true, (.pair (.pair (.sl (.sl (.int .i64))) (.sl (.sl (.int .i64)))) (.pair (.sl (.pair .str (.pair (.int .i64) (.pair (.int .i64) (.pair (.int .i64) (.int .i64)))))) (.sl (.int .i64))))), (false, (.sl (.pair (.int .i64) (.int .i64))))], cods := [(false, (.int .i64))], pre := f24_pre, fn := f24, uq := false, total := false }
def f24_E : Env := [(25, f25_e), (65, f65_e), (66, f66_e), (108, f108_e), (103, f103_e)]
def f24_A : Anns := { loops := [(1048576, { tms := [(1, .keep), (2, .keep), (5, .data false (.int .i64))], obs := [(1048576, .keep)], fz := [] }),
  (1048578, { tms := [(1, .keep), (2, .keep), (5, .keep), (7, .data false (.int .i64))], obs := [(1048576, .keep), (1056777, .keep)], fz := [] })], own := [] }
theorem f24_run (a0 : (List (List Int) × List (List Int)) × List (ByteArray × Int × Int × Int × Int) × List Int) (a1 : List (Int × Int)) (K : Int → Prop) : runF Tryz.prog f24_E f24_A 6 Tryz.f24 f24_e.doms f24_e.cods (a0, a1) K =
    (LoopP (V := Int × Unit) (fun again v => (fun (again1 : Int → Prop) (v1_0 : Int) =>
    br (lenOk (a1.length))
    (br (decide (v1_0 < ((a1.length) : Int)))
    (br (decide (0 ≤ v1_0) && decide (v1_0 < ((a1.length) : Int)))
    (br (lenOk (a0.2.1.length))
    (br (!(f25 ((a1.getD v1_0.toNat (0, 0)).1, (0, (IntKind.i64.wrap (((a0.2.1.length) : Int) - 1))))))
    (K 6)
    (br (decide ((0 : Int) ≤ 0 ∧ 0 ≤ v1_0 ∧ v1_0 ≤ ((a1.length) : Int)))
    (br (decide (0 ≤ v1_0) && decide (v1_0 < ((a1.length) : Int)))
    (br (f65 (((a1.take v1_0.toNat).drop 0), (a1.getD v1_0.toNat (0, 0)).1))
    (K 21)
    (br (decide (0 ≤ v1_0) && decide (v1_0 < ((a1.length) : Int)))
    (br (decide (0 ≤ (a1.getD v1_0.toNat (0, 0)).1) && decide ((a1.getD v1_0.toNat (0, 0)).1 < ((a0.2.1.length) : Int)))
    (br (decide (0 ≤ v1_0) && decide (v1_0 < ((a1.length) : Int)))
    (br (!(f25 ((a1.getD v1_0.toNat (0, 0)).2, ((((a0.2.1.getD (((a1.getD v1_0.toNat (0, 0)).1).toNat) ((⟨#[]⟩ : ByteArray), (0, (0, (0, 0))))).2).2).1, ((((a0.2.1.getD (((a1.getD v1_0.toNat (0, 0)).1).toNat) ((⟨#[]⟩ : ByteArray), (0, (0, (0, 0))))).2).2).2).1))))
    (K 2)
    (LoopP (V := Int × Unit) (fun again v => (fun (again2 : Int → Prop) (v2_0 : Int) =>
    br (decide (v2_0 < v1_0))
    (br (decide (0 ≤ v1_0) && decide (v1_0 < ((a1.length) : Int)))
    (br (decide (0 ≤ v2_0) && decide (v2_0 < ((a1.length) : Int)))
    (br (decide (0 ≤ v2_0) && decide (v2_0 < ((a1.length) : Int)))
    (br (decide (0 ≤ v1_0) && decide (v1_0 < ((a1.length) : Int)))
    (f66_pre (a0, ((a1.getD v2_0.toNat (0, 0)).1, (a1.getD v1_0.toNat (0, 0)).1)) ∧
    br (decide ((a1.getD v1_0.toNat (0, 0)).2 < (IntKind.i64.wrap ((a1.getD v2_0.toNat (0, 0)).2 + (f66 (a0, ((a1.getD v2_0.toNat (0, 0)).1, (a1.getD v1_0.toNat (0, 0)).1)))))))
    (K 20)
    (again2 (IntKind.i64.wrap (v2_0 + 1))))
    False)
    False)
    False)
    False)
    (again1 (IntKind.i64.wrap (v1_0 + 1))))
    (fun v2_0 => again (v2_0, ())) v.1) (0, ())))
    False)
    False)
    False))
    False)
    False))
    True)
    False)
    (K 0))
    True)
    (fun v1_0 => again (v1_0, ())) v.1) (0, ())) := by kernel_rfl
theorem f24_t (a0 : (List (List Int) × List (List Int)) × List (ByteArray × Int × Int × Int × Int) × List Int) (a1 : List (Int × Int)) (hpre : f24_pre (a0, a1)) (K : Int → Prop) (hK : ∀ y : Int, y = f24 (a0, a1) → K y) : RunF Tryz.prog f24_E f24_A 6 Tryz.f24 f24_e.doms f24_e.cods (a0, a1) K := by
  refine ⟨?_⟩
  rw [f24_run a0 a1 K]
  have h : okP a0 := hpre
  have hv := h.v
  have h6 := hv.six
  have hd : ((⟨#[]⟩ : ByteArray), ((0 : Int), ((0 : Int), ((0 : Int), (0 : Int))))) = arrD := rfl
  simp only [hd]
  refine each_walk (n := a1.length) (e := slE a0 a1) (fun again i hi hI good => ?_)
  dsimp only
  rw [br_true_, lenOk_iff]
  intro hln
  rw [br_dec]
  refine ⟨fun hlt => ?_, fun hlt => hK _ ?_⟩
  · have hlt : i < a1.length := by omega
    have b0 : (decide (0 ≤ (i : Int)) && decide ((i : Int) < (a1.length : Int))) = true := inb (by omega) (by omega)
    rw [b0]
    simp only [Int.toNat_natCast, br_t, List.drop_zero]
    have out : ∀ n : Int, slE a0 a1 i = n → n ≠ 0 → K n := fun n e hn => hK _ (by
      have := eachE_some hlt hI (show slE a0 a1 i ≠ 0 by rw [e]; exact hn)
      rw [f24, slotsErr, this, e])
    rw [br_true_]
    intro _
    rw [wr (n := (a0.2.1.length : Int) - 1) (by omega) (by omega), br_both]
    refine ⟨fun hb => out 6 ?_ (by decide), fun hb => ?_⟩
    · have hs : slot1 a0 (a1.take i) (a1.getD i (0, 0)) = 6 := by rw [slot1, if_pos (f25_f1.1 (not_true.1 hb))]
      rw [slE, hs, if_pos (by decide)]
    have hb := f25_t1.1 (not_false_.1 hb)
    have hnn : ¬ ¬ (0 ≤ (a1.getD i (0, 0)).1 ∧ (a1.getD i (0, 0)).1 ≤ (a0.2.1.length : Int) - 1) := fun hh => hh hb
    rw [br_false_]
    refine ⟨by simp; omega, ?_⟩
    rw [br_both]
    refine ⟨fun hm => out 21 ?_ (by decide), fun hm => ?_⟩
    · have hs : slot1 a0 (a1.take i) (a1.getD i (0, 0)) = 21 := by rw [slot1, if_neg hnn, if_pos (show hasS (a1.take i) (a1.getD i (0, 0)).1 = true from hm)]
      rw [slE, hs, if_pos (by decide)]
    have hs : slot1 a0 (a1.take i) (a1.getD i (0, 0)) = 0 := by rw [slot1, if_neg hnn, if_neg (fun hh => by rw [show hasS (a1.take i) (a1.getD i (0, 0)).1 = false from hm] at hh; cases hh)]
    have hs0 : ¬ slot1 a0 (a1.take i) (a1.getD i (0, 0)) ≠ 0 := fun hh => hh hs
    rw [br_false_]
    refine ⟨inb hb.1 (by omega), ?_⟩
    rw [br_both]
    refine ⟨fun hr => out 2 (by rw [slE, if_neg hs0, if_pos (f25_f1.1 (not_true.1 hr))]) (by decide), fun hr => ?_⟩
    have hr := f25_t1.1 (not_false_.1 hr)
    have hrr : ¬ ¬ ((a0.2.1.getD (a1.getD i (0, 0)).1.toNat arrD).2.2.1 ≤ (a1.getD i (0, 0)).2 ∧ (a1.getD i (0, 0)).2 ≤ (a0.2.1.getD (a1.getD i (0, 0)).1.toNat arrD).2.2.2.1) := fun hh => hh hr
    have hval := slots_valid hv hi hI
    refine LoopP.up i (fun k _ => ∀ j < k.toNat, (a1.getD j (0, 0)).2 + apartF a0 (a1.getD j (0, 0)).1 (a1.getD i (0, 0)).1 ≤ (a1.getD i (0, 0)).2) (fun again2 k v hk0 hk1 hJ hag2 => ?_) (by omega) (fun j hj => by simp at hj)
    dsimp only
    rw [br_dec]
    refine ⟨fun hk => ?_, fun hk => ?_⟩
    · have c0 : (decide (0 ≤ k) && decide (k < (a1.length : Int))) = true := inb hk0 (by omega)
      rw [c0]
      simp only [br_t]
      have hm := hval (a1.getD k.toNat (0, 0)) (by
        rw [getD_lt (by omega)]
        exact List.mem_take_iff_getElem.2 ⟨k.toNat, by omega, rfl⟩)
      have ha : 0 ≤ (a1.getD i (0, 0)).1 ∧ (a1.getD i (0, 0)).1 < a0.2.1.length := ⟨hb.1, by omega⟩
      have hap := apartF_in hv hm.1 ha
      obtain ⟨s1, s2⟩ := hm
      refine ⟨⟨h, s1, ha⟩, ?_⟩
      have e92 : f66 (a0, (a1.getD k.toNat (0, 0)).1, (a1.getD i (0, 0)).1) = apartF a0 (a1.getD k.toNat (0, 0)).1 (a1.getD i (0, 0)).1 := rfl
      rw [br_dec, e92, wr (n := (a1.getD k.toNat (0, 0)).2 + _) (by omega) (by omega)]
      refine ⟨fun hlt2 => out 20 ?_ (by decide), fun hge => ?_⟩
      · have : (a1.getD i (0, 0)).2 < soonF a0 (a1.take i) (a1.getD i (0, 0)).1 := by
          rcases Int.lt_or_le (a1.getD i (0, 0)).2 (soonF a0 (a1.take i) (a1.getD i (0, 0)).1) with h7 | h7
          · exact h7
          · have := (soonF_le.1 h7).2 (a1.getD k.toNat (0, 0)) (by
              rw [getD_lt (by omega)]
              exact List.mem_take_iff_getElem.2 ⟨k.toNat, by omega, rfl⟩)
            omega
        rw [slE, if_neg hs0, if_neg hrr, if_pos this]
      · rw [wr (n := k + 1) (by omega) (by omega)]
        refine hag2 () hk fun j hj => ?_
        by_cases hjk : j = k.toNat
        · rw [hjk]; omega
        · exact hJ j (by omega)
    · rw [wr (n := (i : Int) + 1) (by omega) (by omega)]
      refine good hlt ?_
      have : ¬ (a1.getD i (0, 0)).2 < soonF a0 (a1.take i) (a1.getD i (0, 0)).1 := by
        have := soonF_le (p := a0) (a := (a1.getD i (0, 0)).1) (t := (a1.getD i (0, 0)).2) (l := a1.take i) |>.2 ⟨hr.1, fun s hs' => by
          obtain ⟨j, hj, rfl⟩ := List.getElem_of_mem hs'
          rw [List.length_take] at hj
          have h9 : j < i ∧ j < a1.length := by omega
          have := hJ j (by omega)
          rw [getD_lt (l := a1) h9.2] at this
          rw [List.getElem_take]
          exact this⟩
        omega
      rw [slE, if_neg hs0, if_neg hrr, if_neg this]
  · have hz := eachE_none (n := a1.length) (e := slE a0 a1) fun j hj => hI j (by omega)
    show (0 : Int) = (eachE a1.length (slE a0 a1)).2
    rw [hz]
theorem f24_fn : f24_e.fn = f24 := rfl
theorem f24_ok : EntryOK Tryz.prog 24 f24_e := by
  refine entryF progOK (EnvOK.cons f25_ok (EnvOK.cons f65_ok (EnvOK.cons f66_ok (EnvOK.cons f108_ok (EnvOK.cons f103_ok (EnvOK.nil)))))) (A := f24_A) (d := 6) Tryz.func24 rfl rfl rfl rfl (fun h => by cases h) fun x hpre => ?_
  obtain ⟨a0, a1⟩ := x
  exact f24_t a0 a1 hpre _ fun _ h => h.trans (congrFun f24_fn.symm _)
end Go.Proofs.YtglokajinehbmaaGreat
end

section
namespace Go.Proofs.YtglokajinehbmaaGreat
open Go Go.Pi Go.RowKit
set_option maxRecDepth 100000
set_option linter.unusedVariables false
set_option linter.unusedSimpArgs false

theorem sl_errs (a b : Bool) : f42 [f43 (a, 2), f43 (b, 20)] = if a = false then 2 else if b = false then 20 else 0 := by
  cases a <;> cases b <;> rfl
def f88 (x : ((List (List Int) × List (List Int)) × List (ByteArray × Int × Int × Int × Int) × List Int) × List (Int × Int)) : Int := slotsErr x.1 x.2
def f88_pre (x : ((List (List Int) × List (List Int)) × List (ByteArray × Int × Int × Int × Int) × List Int) × List (Int × Int)) : Prop := okP x.1
def f88_e : Entry := { doms := [(true, (.pair (.pair (.sl (.sl (.int .i64))) (.sl (.sl (.int .i64)))) (.pair (.sl (.pair .str (.pair (.int .i64) (.pair (.int .i64) (.pair (.int .i64) (.int .i64)))))) (.sl (.int .i64))))), (false, (.sl (.pair (.int .i64) (.int .i64))))], cods := [(false, (.int .i64))], pre := f88_pre, fn := f88, uq := false, total := false }
def f88_E : Env := [(39, f39_e), (42, f42_e), (43, f43_e), (103, f103_e), (108, f108_e), (24, f24_e)]
def f88_A : Anns := { loops := [(1100587466752, { tms := [(1, .keep), (9, .keep), (10, .keep), (11, .data false (.int .i64))], obs := [(1048576, .keep), (1048577, .keep)], fz := [] })], own := [] }
theorem f88_run (a0 : (List (List Int) × List (List Int)) × List (ByteArray × Int × Int × Int × Int) × List Int) (a1 : List (Int × Int)) (K : Int → Prop) : runF Tryz.prog f88_E f88_A 6 Tryz.f88 f88_e.doms f88_e.cods (a0, a1) K =
    (br (lenOk (a1.length))
    (LoopP (V := Int × Unit) (fun again v => (fun (again1 : Int → Prop) (v1_0 : Int) =>
    br (decide (v1_0 < ((a1.length) : Int)))
    (br (decide (0 ≤ v1_0) && decide (v1_0 < ((a1.length) : Int)))
    (br (decide ((0 : Int) ≤ 0 ∧ 0 ≤ v1_0 ∧ v1_0 ≤ ((a1.length) : Int)))
    (f108_pre (a0, (((a1.take v1_0.toNat).drop 0), (a1.getD v1_0.toNat (0, 0)))) ∧
    br ((f108 (a0, (((a1.take v1_0.toNat).drop 0), (a1.getD v1_0.toNat (0, 0))))) != 0)
    (br ((f108 (a0, (((a1.take v1_0.toNat).drop 0), (a1.getD v1_0.toNat (0, 0))))) != 0)
    (K (f108 (a0, (((a1.take v1_0.toNat).drop 0), (a1.getD v1_0.toNat (0, 0))))))
    (again1 (IntKind.i64.wrap (v1_0 + 1))))
    (br (decide (0 ≤ (a1.getD v1_0.toNat (0, 0)).1) && decide ((a1.getD v1_0.toNat (0, 0)).1 < ((a0.2.1.length) : Int)))
    (br (decide ((0 : Int) ≤ 0 ∧ 0 ≤ v1_0 ∧ v1_0 ≤ ((a1.length) : Int)))
    (f103_pre (a0, (((a1.take v1_0.toNat).drop 0), (a1.getD v1_0.toNat (0, 0)).1)) ∧
    br ((f42 ([(f43 ((f39 ((a1.getD v1_0.toNat (0, 0)).2, ((((a0.2.1.getD (((a1.getD v1_0.toNat (0, 0)).1).toNat) ((⟨#[]⟩ : ByteArray), (0, (0, (0, 0))))).2).2).1, ((((a0.2.1.getD (((a1.getD v1_0.toNat (0, 0)).1).toNat) ((⟨#[]⟩ : ByteArray), (0, (0, (0, 0))))).2).2).2).1))), 2)), (f43 ((decide ((a1.getD v1_0.toNat (0, 0)).2 ≥ (f103 (a0, (((a1.take v1_0.toNat).drop 0), (a1.getD v1_0.toNat (0, 0)).1))))), 20))] : List Int)) != 0)
    (K (f42 ([(f43 ((f39 ((a1.getD v1_0.toNat (0, 0)).2, ((((a0.2.1.getD (((a1.getD v1_0.toNat (0, 0)).1).toNat) ((⟨#[]⟩ : ByteArray), (0, (0, (0, 0))))).2).2).1, ((((a0.2.1.getD (((a1.getD v1_0.toNat (0, 0)).1).toNat) ((⟨#[]⟩ : ByteArray), (0, (0, (0, 0))))).2).2).2).1))), 2)), (f43 ((decide ((a1.getD v1_0.toNat (0, 0)).2 ≥ (f103 (a0, (((a1.take v1_0.toNat).drop 0), (a1.getD v1_0.toNat (0, 0)).1))))), 20))] : List Int)))
    (again1 (IntKind.i64.wrap (v1_0 + 1))))
    False)
    False))
    False)
    False)
    (K 0))
    (fun v1_0 => again (v1_0, ())) v.1) (0, ()))
    True) := by kernel_rfl
theorem f88_t (a0 : (List (List Int) × List (List Int)) × List (ByteArray × Int × Int × Int × Int) × List Int) (a1 : List (Int × Int)) (hpre : f88_pre (a0, a1)) (K : Int → Prop) (hK : ∀ y : Int, y = f88 (a0, a1) → K y) : RunF Tryz.prog f88_E f88_A 6 Tryz.f88 f88_e.doms f88_e.cods (a0, a1) K := by
  refine ⟨?_⟩
  rw [f88_run a0 a1 K]
  have h : okP a0 := hpre
  have hv := h.v
  have h6 := hv.six
  have hd : ((⟨#[]⟩ : ByteArray), ((0 : Int), ((0 : Int), ((0 : Int), (0 : Int))))) = arrD := rfl
  simp only [hd]
  rw [br_true_, lenOk_iff]
  intro hln
  refine each_walk (n := a1.length) (e := slE a0 a1) (fun again i hi hI good => ?_)
  dsimp only
  rw [br_dec]
  refine ⟨fun hlt => ?_, fun hlt => hK _ ?_⟩
  · have hlt : i < a1.length := by omega
    have b0 : (decide (0 ≤ (i : Int)) && decide ((i : Int) < (a1.length : Int))) = true := inb (by omega) (by omega)
    have b1 : decide ((0 : Int) ≤ 0 ∧ 0 ≤ (i : Int) ∧ (i : Int) ≤ (a1.length : Int)) = true := by simp; omega
    rw [b0, b1]
    simp only [Int.toNat_natCast, br_t, List.drop_zero]
    have e103 : f108 (a0, a1.take i, a1.getD i (0, 0)) = slot1 a0 (a1.take i) (a1.getD i (0, 0)) := rfl
    have out : slE a0 a1 i ≠ 0 → K (slE a0 a1 i) := fun hn => hK _ (by
      have := eachE_some hlt hI hn
      show _ = (eachE a1.length (slE a0 a1)).2
      rw [this])
    refine ⟨show a0.2.1.length ≤ 1000 by omega, ?_⟩
    rw [e103]
    by_cases hs : slot1 a0 (a1.take i) (a1.getD i (0, 0)) = 0
    · rw [show (slot1 a0 (a1.take i) (a1.getD i (0, 0)) != 0) = false by rw [hs]; rfl]
      show br _ _ False
      obtain ⟨⟨a1', a2'⟩, hh⟩ := slot1_zero hs
      have hs0 : ¬ slot1 a0 (a1.take i) (a1.getD i (0, 0)) ≠ 0 := fun hh => hh hs
      have hval := slots_valid hv hi hI
      rw [br_false_]
      refine ⟨inb a1' a2', ?_⟩
      refine ⟨⟨h, hval, a1', a2'⟩, ?_⟩
      have e120 : f103 (a0, a1.take i, (a1.getD i (0, 0)).1) = soonF a0 (a1.take i) (a1.getD i (0, 0)).1 := rfl
      have hX : f42 [f43 (f39 ((a1.getD i (0, 0)).2, (a0.2.1.getD (a1.getD i (0, 0)).1.toNat arrD).2.2.1, (a0.2.1.getD (a1.getD i (0, 0)).1.toNat arrD).2.2.2.1), 2), f43 (decide ((a1.getD i (0, 0)).2 ≥ f103 (a0, a1.take i, (a1.getD i (0, 0)).1)), 20)] = slE a0 a1 i := by
        rw [sl_errs, slE, if_neg hs0, e120]
        by_cases h3 : (a0.2.1.getD (a1.getD i (0, 0)).1.toNat arrD).2.2.1 ≤ (a1.getD i (0, 0)).2 ∧ (a1.getD i (0, 0)).2 ≤ (a0.2.1.getD (a1.getD i (0, 0)).1.toNat arrD).2.2.2.1
        · rw [f39_t1.2 h3, if_neg (show ¬ (true = false) by decide), if_neg (fun hh : ¬ _ => hh h3)]
          by_cases h4 : (a1.getD i (0, 0)).2 < soonF a0 (a1.take i) (a1.getD i (0, 0)).1
          · rw [decide_eq_false (by omega), if_pos rfl, if_pos h4]
          · rw [decide_eq_true (by omega), if_neg (show ¬ (true = false) by decide), if_neg h4]
        · rw [f39_f1.2 h3, if_pos rfl, if_pos h3]
      rw [hX, br_both]
      refine ⟨fun h5 => ?_, fun h5 => ?_⟩
      · exact out (by simpa using h5)
      · rw [wr (n := (i : Int) + 1) (by omega) (by omega)]
        exact good hlt (by simpa using h5)
    · rw [show (slot1 a0 (a1.take i) (a1.getD i (0, 0)) != 0) = true from bne_iff_ne.2 hs]
      have e : slE a0 a1 i = slot1 a0 (a1.take i) (a1.getD i (0, 0)) := by rw [slE, if_pos hs]
      show K _
      rw [← e]
      exact out (by rw [e]; exact hs)
  · have hz := eachE_none (n := a1.length) (e := slE a0 a1) fun j hj => hI j (by omega)
    show (0 : Int) = (eachE a1.length (slE a0 a1)).2
    rw [hz]
theorem f88_fn : f88_e.fn = f88 := rfl
theorem f88_ok : EntryOK Tryz.prog 88 f88_e := by
  refine entryF progOK (EnvOK.cons f39_ok (EnvOK.cons f42_ok (EnvOK.cons f43_ok (EnvOK.cons f103_ok (EnvOK.cons f108_ok (EnvOK.cons f24_ok (EnvOK.nil))))))) (A := f88_A) (d := 6) Tryz.func88 rfl rfl rfl rfl (fun h => by cases h) fun x hpre => ?_
  obtain ⟨a0, a1⟩ := x
  exact f88_t a0 a1 hpre _ fun _ h => h.trans (congrFun f88_fn.symm _)
end Go.Proofs.YtglokajinehbmaaGreat
end

section
namespace Go.Proofs.YtglokajinehbmaaGreat
open Go Go.Pi Go.RowKit
set_option maxRecDepth 100000
set_option linter.unusedVariables false
set_option linter.unusedSimpArgs false

def planE (p : Prob) (l : List (Int × Int)) : Int := if (probOf p).2 = 0 then slotsErr p l else (probOf p).2
def f53 (x : ((List (List Int) × List (List Int)) × List (ByteArray × Int × Int × Int × Int) × List Int) × List (Int × Int)) : ((List (List Int) × List (List Int)) × List (ByteArray × Int × Int × Int × Int) × List Int) × Int := (x.1, planE x.1 x.2)
def f53_pre (x : ((List (List Int) × List (List Int)) × List (ByteArray × Int × Int × Int × Int) × List Int) × List (Int × Int)) : Prop := f97_pre x.1.2.1
def f53_e : Entry := { doms := [(true, (.pair (.pair (.sl (.sl (.int .i64))) (.sl (.sl (.int .i64)))) (.pair (.sl (.pair .str (.pair (.int .i64) (.pair (.int .i64) (.pair (.int .i64) (.int .i64)))))) (.sl (.int .i64))))), (false, (.sl (.pair (.int .i64) (.int .i64))))], cods := [(true, (.pair (.pair (.sl (.sl (.int .i64))) (.sl (.sl (.int .i64)))) (.pair (.sl (.pair .str (.pair (.int .i64) (.pair (.int .i64) (.pair (.int .i64) (.int .i64)))))) (.sl (.int .i64))))), (false, (.int .i64))], pre := f53_pre, fn := f53, uq := false, total := false }
def f53_E : Env := [(76, f76_e), (88, f88_e)]
def f53_A : Anns := { loops := [], own := [] }
theorem f53_run (a0 : (List (List Int) × List (List Int)) × List (ByteArray × Int × Int × Int × Int) × List Int) (a1 : List (Int × Int)) (K : (((List (List Int) × List (List Int)) × List (ByteArray × Int × Int × Int × Int) × List Int) × Int) → Prop) : runF Tryz.prog f53_E f53_A 6 Tryz.f53 f53_e.doms f53_e.cods (a0, a1) K =
    (f76_pre a0 ∧
    br ((f76 a0).2 == 0)
    (f88_pre (a0, a1) ∧
    K (a0, (f88 (a0, a1))))
    (K (a0, (f76 a0).2))) := by kernel_rfl
theorem f53_t (a0 : (List (List Int) × List (List Int)) × List (ByteArray × Int × Int × Int × Int) × List Int) (a1 : List (Int × Int)) (hpre : f53_pre (a0, a1)) (K : (((List (List Int) × List (List Int)) × List (ByteArray × Int × Int × Int × Int) × List Int) × Int) → Prop) (hK : ∀ y : ((List (List Int) × List (List Int)) × List (ByteArray × Int × Int × Int × Int) × List Int) × Int, y = f53 (a0, a1) → K y) : RunF Tryz.prog f53_E f53_A 6 Tryz.f53 f53_e.doms f53_e.cods (a0, a1) K := by
  refine ⟨?_⟩
  rw [f53_run a0 a1 K]
  refine ⟨hpre, ?_⟩
  have e24 : f76 a0 = probOf a0 := rfl
  rw [e24, br_both]
  refine ⟨fun h => ?_, fun h => hK _ ?_⟩
  · have h : (probOf a0).2 = 0 := by simpa using h
    exact ⟨h, hK _ (by rw [f53, planE, if_pos h]; rfl)⟩
  · have h : (probOf a0).2 ≠ 0 := by simpa using h
    rw [f53, planE, if_neg h]
theorem f53_fn : f53_e.fn = f53 := rfl
theorem f53_ok : EntryOK Tryz.prog 53 f53_e := by
  refine entryF progOK (EnvOK.cons f76_ok (EnvOK.cons f88_ok (EnvOK.nil))) (A := f53_A) (d := 6) Tryz.func53 rfl rfl rfl rfl (fun h => by cases h) fun x hpre => ?_
  obtain ⟨a0, a1⟩ := x
  exact f53_t a0 a1 hpre _ fun _ h => h.trans (congrFun f53_fn.symm _)
end Go.Proofs.YtglokajinehbmaaGreat
end

section
namespace Go.Proofs.YtglokajinehbmaaGreat
set_option linter.unusedVariables false
set_option linter.unusedSimpArgs false
open Go Go.Pi
def outAt (l : List Int) (i : Nat) : List Int := l.take i ++ l.drop (i + 1)
theorem outAt_len {l : List Int} {i : Nat} (h : i < l.length) : (outAt l i).length = l.length - 1 := by
  simp only [outAt, List.length_append, List.length_take, List.length_drop]
  omega
def perms : Nat → List Int → List (List Int)
  | 0, _ => [[]]
  | n + 1, l => if l.length = 0 then [[]] else (List.range l.length).flatMap fun i => (perms n (outAt l i)).map (l.getD i 0 :: ·)
theorem perms_nil (n : Nat) : perms n [] = [[]] := by cases n <;> simp [perms]
theorem perms_fuel : ∀ (n m : Nat) (l : List Int), l.length ≤ n → l.length ≤ m → perms n l = perms m l
  | 0, m, l, h, h2 => by
    have : l = [] := List.length_eq_zero_iff.1 (by omega)
    subst this
    rw [perms_nil, perms_nil]
  | n + 1, 0, l, h, h2 => by
    have : l = [] := List.length_eq_zero_iff.1 (by omega)
    subst this
    rw [perms_nil, perms_nil]
  | n + 1, m + 1, l, h, h2 => by
    simp only [perms]
    split
    · rfl
    · unfold List.flatMap
      congr 1
      apply List.map_congr_left
      intro i hi
      have hi := List.mem_range.1 hi
      rw [perms_fuel n m _ (by rw [outAt_len hi]; omega) (by rw [outAt_len hi]; omega)]
theorem outAt_mem {l : List Int} {i : Nat} {x : Int} (h : x ∈ outAt l i) : x ∈ l := by
  rcases List.mem_append.1 h with h | h
  · exact List.mem_of_mem_take h
  · exact List.mem_of_mem_drop h
theorem perms_len : ∀ (n : Nat) (l : List Int), l.length ≤ n → ∀ o ∈ perms n l, o.length = l.length
  | 0, l, h, o, ho => by
    simp only [perms, List.mem_singleton] at ho
    subst ho
    simp only [List.length_nil]
    omega
  | n + 1, l, h, o, ho => by
    simp only [perms] at ho
    split at ho
    · simp only [List.mem_singleton] at ho
      subst ho
      simp only [List.length_nil]
      omega
    · obtain ⟨i, hi, ho⟩ := List.mem_flatMap.1 ho
      have hi := List.mem_range.1 hi
      obtain ⟨r, hr, rfl⟩ := List.mem_map.1 ho
      have := perms_len n _ (by rw [outAt_len hi]; omega) r hr
      rw [List.length_cons, this, outAt_len hi]
      omega
theorem perms_mem : ∀ (n : Nat) (l : List Int), ∀ o ∈ perms n l, ∀ x ∈ o, x ∈ l
  | 0, l, o, ho, x, hx => by
    simp only [perms, List.mem_singleton] at ho
    subst ho
    cases hx
  | n + 1, l, o, ho, x, hx => by
    simp only [perms] at ho
    split at ho
    · simp only [List.mem_singleton] at ho
      subst ho
      cases hx
    · obtain ⟨i, hi, ho⟩ := List.mem_flatMap.1 ho
      have hi := List.mem_range.1 hi
      obtain ⟨r, hr, rfl⟩ := List.mem_map.1 ho
      rcases List.mem_cons.1 hx with rfl | hx
      · rw [getD_lt hi]
        exact List.getElem_mem _
      · exact outAt_mem (perms_mem n _ r hr x hx)
/-- The orders of numbers that begin with the first so many of them. -/
def permsTo (n : Nat) (l : List Int) (i : Nat) : List (List Int) := (List.range i).flatMap fun j => (perms n (outAt l j)).map (l.getD j 0 :: ·)
theorem permsTo_zero (n : Nat) (l : List Int) : permsTo n l 0 = [] := rfl
theorem permsTo_succ (n : Nat) (l : List Int) (i : Nat) : permsTo n l (i + 1) = permsTo n l i ++ (perms n (outAt l i)).map (l.getD i 0 :: ·) := by
  simp [permsTo, List.range_succ]
theorem perms_to {n : Nat} {l : List Int} (h : l.length ≠ 0) : perms (n + 1) l = permsTo n l l.length := by
  rw [perms, if_neg h, permsTo]
theorem flat_two (l : List Int) (i : Nat) : [(l.take i).drop 0, (l.take l.length).drop (i + 1)].flatten = outAt l i := by
  simp [outAt]
def factN : Nat → Nat
  | 0 => 1
  | n + 1 => (n + 1) * factN n
theorem permsTo_count {n : Nat} {l : List Int} (ih : ∀ l' : List Int, l'.length ≤ n → (perms n l').length ≤ factN n) (h : l.length ≤ n + 1) : ∀ i, i ≤ l.length → (permsTo n l i).length ≤ i * factN n
  | 0, _ => by simp [permsTo_zero]
  | i + 1, hi => by
    have := permsTo_count ih h i (by omega)
    have h2 := ih (outAt l i) (by rw [outAt_len (by omega)]; omega)
    rw [permsTo_succ, List.length_append, List.length_map, Nat.add_mul]
    omega
theorem perms_count : ∀ (n : Nat) (l : List Int), l.length ≤ n → (perms n l).length ≤ factN n
  | 0, l, h => by simp [perms, factN]
  | n + 1, l, h => by
    by_cases h0 : l.length = 0
    · have : l = [] := List.length_eq_zero_iff.1 h0
      subst this
      rw [perms_nil]
      have : ∀ m, 1 ≤ factN m := fun m => by
        induction m with
        | zero => exact Nat.le_refl _
        | succ m ih => exact Nat.le_trans ih (Nat.le_mul_of_pos_left _ (by omega))
      exact this _
    · rw [perms_to h0]
      have := permsTo_count (perms_count n) h l.length (Nat.le_refl _)
      exact Nat.le_trans this (Nat.mul_le_mul_right _ h)
end Go.Proofs.YtglokajinehbmaaGreat
end

section
namespace Go.Proofs.YtglokajinehbmaaGreat
open Go Go.Pi Go.RowKit
set_option linter.unusedVariables false
set_option linter.unusedSimpArgs false
def gx45 (l : List (Int × Int)) : List Int := l.map (·.2)
def gx45_pre (l : List (Int × Int)) : Prop := l.length ≤ 2000
theorem map_take {l : List (Int × Int)} {i : Nat} (hi : i < l.length) : (l.take (i + 1)).map (·.2) = (l.take i).map (·.2) ++ [(l.getD i (0, 0)).2] := by
  rw [List.take_add_one, List.getElem?_eq_getElem hi, List.map_append, getD_lt hi]
  rfl
end Go.Proofs.YtglokajinehbmaaGreat
end

section
namespace Go.Proofs.YtglokajinehbmaaGreat
open Go Go.Pi Go.RowKit
set_option linter.unusedVariables false
set_option linter.unusedSimpArgs false
theorem contL_ok {p : Prob} (hv : ProbV p) : ∀ (o : List Int) (out : List (Int × Int)), (∀ s ∈ out, slotV p s) → (∀ a ∈ o, inA p a) → ∀ l, contL p out o = some l → (∀ s ∈ l, slotV p s) ∧ l.length = out.length + o.length
  | [], out, h, _, l, e => by
    simp only [contL, Option.some.injEq] at e
    subst e
    exact ⟨h, rfl⟩
  | a :: r, out, h, ho, l, e => by
    simp only [contL] at e
    split at e
    · cases e
    · rename_i ht
      obtain ⟨h1, h2⟩ := contL_ok hv r _ (slotsV_app h (slotV_soon hv h (ho a (.head _)) ht)) (fun x hx => ho x (.tail _ hx)) l e
      exact ⟨h1, by simp at h2 ⊢; omega⟩
theorem contF_ok {p : Prob} (hv : ProbV p) {out : List (Int × Int)} {o : List Int} (h : ∀ s ∈ out, slotV p s) (ho : ∀ a ∈ o, inA p a) : (∀ s ∈ (contF p out o).1, slotV p s) ∧ (contF p out o).1.length ≤ out.length + o.length := by
  unfold contF
  cases e : contL p out o with
  | none => exact ⟨fun s hs => (by cases hs), Nat.zero_le _⟩
  | some l =>
    obtain ⟨h1, h2⟩ := contL_ok hv o out h ho l e
    exact ⟨h1, by simp only; omega⟩
theorem f70_ok2 {p : Prob} {o : List Int} (h : (f70 (p, o)).2.2 = 0) : okP p ∧ (∀ a ∈ o, inA p a) ∧ f70 (p, o) = (p, (contF p [] o).1, 0) ∧ (contF p [] o).2 = true := by
  unfold f70 at h
  split at h
  · rename_i h1; exact absurd h h1
  · rename_i h1
    split at h
    · rename_i h2; exact absurd h h2
    · rename_i h2
      have hb : (contF p [] o).2 = true := by
        simp only at h
        split at h
        · assumption
        · simp at h
      refine ⟨Classical.byContradiction h1, ordChk_zero (Classical.byContradiction h2), ?_, hb⟩
      rw [f70, if_neg h1, if_neg h2, if_pos hb]
def gx40 (x : ((List (List Int) × List (List Int)) × List (ByteArray × Int × Int × Int × Int) × List Int) × List Int) : List Int × Int := if (f70 x).2.2 ≠ 0 then ([], (f70 x).2.2) else ((f70 x).2.1.map (·.2), 0)
def gx40_pre (x : ((List (List Int) × List (List Int)) × List (ByteArray × Int × Int × Int × Int) × List Int) × List Int) : Prop := f70_pre x
end Go.Proofs.YtglokajinehbmaaGreat
end

section
namespace Go.Proofs.YtglokajinehbmaaGreat
open Go Go.Pi Go.RowKit
set_option maxRecDepth 100000
set_option linter.unusedVariables false
set_option linter.unusedSimpArgs false

/-- One order is looked at. -/
def gLeaf (p : Prob) (fixed : List (Int × Int)) (o : List Int) (pl : List (Int × Int)) (le : Int) (fo : Bool) (K : List (Int × Int) → Int → Bool → Prop) : Prop :=
  f78_pre (p, (fixed, o)) ∧
  br (f78 (p, (fixed, o))).2
  (f71_pre (p, (f78 (p, (fixed, o))).1) ∧
  br (!fo)
  (K ((f78 (p, (fixed, o))).1) (f71 (p, (f78 (p, (fixed, o))).1)) true)
  (br (decide ((f71 (p, (f78 (p, (fixed, o))).1)) < le))
  (K ((f78 (p, (fixed, o))).1) (f71 (p, (f78 (p, (fixed, o))).1)) true)
  (K pl le fo)))
  (K pl le fo)
def gGo (p : Prob) (fixed : List (Int × Int)) : Nat → List Int → List Int → List (Int × Int) → Int → Bool → (List (Int × Int) → Int → Bool → Prop) → Prop
  | 0, begun, rest, pl, le, fo, K => br (lenOk (rest.length)) (br (((rest.length) : Int) == 0)
    (gLeaf p fixed begun pl le fo K)
    (br (lenOk (rest.length)) (LoopP (V := Int × Unit) (fun again v => (fun (again4 : Int → Prop) (v4_0 : Int) =>
      br (decide (v4_0 < ((rest.length) : Int)))
      (br (decide (0 ≤ v4_0) && decide (v4_0 < ((rest.length) : Int)))
      (br (decide ((0 : Int) ≤ 0 ∧ 0 ≤ v4_0 ∧ v4_0 ≤ ((rest.length) : Int)))
      (br (decide ((0 : Int) ≤ (IntKind.i64.wrap (v4_0 + 1)) ∧ (IntKind.i64.wrap (v4_0 + 1)) ≤ ((rest.length) : Int) ∧ ((rest.length) : Int) ≤ ((rest.length) : Int)))
      (f118_pre ([((rest.take v4_0.toNat).drop 0), ((rest.take (((rest.length) : Int).toNat)).drop ((IntKind.i64.wrap (v4_0 + 1)).toNat))] : List (List Int)) ∧
      br (roomOk (((f119 begun).length) + 1) 8)
      (False)
      False)
      False)
      False)
      False)
      (K pl le fo))
      (fun v4_0 => again (v4_0, ())) v.1) (0, ())) True)) True
  | n + 1, begun, rest, pl, le, fo, K => br (lenOk (rest.length)) (br (((rest.length) : Int) == 0)
    (gLeaf p fixed begun pl le fo K)
    (br (lenOk (rest.length)) (LoopP (V := Int × List (Int × Int) × Int × Bool × Unit) (fun again v => (fun (again4 : Int → List (Int × Int) → Int → Bool → Prop) (v4_0 : Int) (v4_1 : List (Int × Int)) (v4_2 : Int) (v4_3 : Bool) =>
      br (decide (v4_0 < ((rest.length) : Int)))
      (br (decide (0 ≤ v4_0) && decide (v4_0 < ((rest.length) : Int)))
      (br (decide ((0 : Int) ≤ 0 ∧ 0 ≤ v4_0 ∧ v4_0 ≤ ((rest.length) : Int)))
      (br (decide ((0 : Int) ≤ (IntKind.i64.wrap (v4_0 + 1)) ∧ (IntKind.i64.wrap (v4_0 + 1)) ≤ ((rest.length) : Int) ∧ ((rest.length) : Int) ≤ ((rest.length) : Int)))
      (f118_pre ([((rest.take v4_0.toNat).drop 0), ((rest.take (((rest.length) : Int).toNat)).drop ((IntKind.i64.wrap (v4_0 + 1)).toNat))] : List (List Int)) ∧
      br (roomOk (((f119 begun).length) + 1) 8)
      (gGo p fixed n ((f119 begun) ++ ([(rest.getD v4_0.toNat 0)] : List Int)) (f118 ([((rest.take v4_0.toNat).drop 0), ((rest.take (((rest.length) : Int).toNat)).drop ((IntKind.i64.wrap (v4_0 + 1)).toNat))] : List (List Int))) v4_1 v4_2 v4_3 (fun pl le fo => again4 (IntKind.i64.wrap (v4_0 + 1)) pl le fo))
      False)
      False)
      False)
      False)
      (K v4_1 v4_2 v4_3))
      (fun v4_0 v4_1 v4_2 v4_3 => again (v4_0, v4_1, v4_2, v4_3, ())) v.1 v.2.1 v.2.2.1 v.2.2.2.1) (0, pl, le, fo, ())) True)) True
def bestStep (p : Prob) (fixed : List (Int × Int)) (s : List (Int × Int) × Int × Bool) (o : List Int) : List (Int × Int) × Int × Bool :=
  if (contF p fixed o).2 = true then (if s.2.2 = false ∨ costF p (contF p fixed o).1 < s.2.1 then ((contF p fixed o).1, costF p (contF p fixed o).1, true) else s) else s
def leftF (p : Prob) (fixed : List (Int × Int)) (i : Nat) : List Int := ((List.range i).filter fun (j : Nat) => !(hasS fixed j)).map fun (j : Nat) => (j : Int)
def restF (p : Prob) (fixed : List (Int × Int)) : List Int := leftF p fixed p.2.1.length
def bestF (p : Prob) (fixed : List (Int × Int)) : List (Int × Int) × Int × Bool := (perms 8 (restF p fixed)).foldl (bestStep p fixed) ([], 0, false)
theorem leftF_succ (p : Prob) (fixed : List (Int × Int)) (i : Nat) : leftF p fixed (i + 1) = if hasS fixed i = true then leftF p fixed i else leftF p fixed i ++ [(i : Int)] := by
  unfold leftF
  rw [List.range_succ, List.filter_append, List.map_append]
  by_cases h : hasS fixed i = true <;> simp [h]
theorem leftF_len (p : Prob) (fixed : List (Int × Int)) : ∀ i, (leftF p fixed i).length ≤ i
  | 0 => by simp [leftF]
  | i + 1 => by
    have := leftF_len p fixed i
    rw [leftF_succ]
    split
    · omega
    · rw [List.length_append, List.length_singleton]
      omega
theorem leftF_in (p : Prob) (fixed : List (Int × Int)) : ∀ a ∈ restF p fixed, inA p a := fun a ha => by
  obtain ⟨j, hj, rfl⟩ := List.mem_map.1 ha
  have := List.mem_range.1 ((List.mem_filter.1 hj).1)
  exact ⟨by omega, by omega⟩
/-- What is known of fixed slots. -/
structure FixV (p : Prob) (fixed : List (Int × Int)) : Prop where
  ok : okP p
  slots : ∀ s ∈ fixed, slotV p s
  len : fixed.length ≤ 900
theorem gLeaf_ok {p : Prob} {fixed : List (Int × Int)} (hf : FixV p fixed) {o : List Int} (ho : ∀ a ∈ o, inA p a) (hl : o.length ≤ 50) {pl : List (Int × Int)} {le : Int} {fo : Bool} {K : List (Int × Int) → Int → Bool → Prop}
    (hK : ∀ r, r = bestStep p fixed (pl, le, fo) o → K r.1 r.2.1 r.2.2) : gLeaf p fixed o pl le fo K := by
  have hv := hf.ok.v
  have e : f78 (p, (fixed, o)) = contF p fixed o := rfl
  unfold gLeaf
  rw [e]
  refine ⟨⟨hf.ok, ⟨hf.slots, show fixed.length ≤ 1000 by have := hf.len; omega⟩, ho, show o.length ≤ 1000 by omega⟩, ?_⟩
  unfold bestStep at hK
  rw [br_both]
  refine ⟨fun h => ?_, fun h => ?_⟩
  · rw [if_pos h] at hK
    have hvl : (∀ s ∈ (contF p fixed o).1, slotV p s) ∧ (contF p fixed o).1.length ≤ 1000 := by
      unfold contF at h ⊢
      cases e : contL p fixed o with
      | none => rw [e] at h; cases h
      | some l =>
        obtain ⟨v1, v2⟩ := contL_ok hv o fixed hf.slots ho l e
        exact ⟨v1, show l.length ≤ 1000 by have := hf.len; omega⟩
    refine ⟨⟨hf.ok, hvl.1, hvl.2⟩, ?_⟩
    have e90 : f71 (p, (contF p fixed o).1) = costF p (contF p fixed o).1 := rfl
    rw [e90]
    cases fo with
    | false =>
      exact hK _ (if_pos (.inl rfl)).symm
    | true =>
      rw [Bool.not_true, br_f, br_dec]
      refine ⟨fun hlt => hK _ (if_pos (.inr hlt)).symm, fun hlt => hK (pl, le, true) (if_neg ?_).symm⟩
      rintro (h1 | h1)
      · cases h1
      · exact hlt h1
  · rw [if_neg (by rw [h]; simp)] at hK
    exact hK _ rfl
theorem gGo_ok {p : Prob} {fixed : List (Int × Int)} (hf : FixV p fixed) : ∀ (n : Nat) (begun rest : List Int) (pl : List (Int × Int)) (le : Int) (fo : Bool) (K : List (Int × Int) → Int → Bool → Prop),
    rest.length ≤ n → (∀ a ∈ begun, inA p a) → (∀ a ∈ rest, inA p a) → begun.length + rest.length ≤ 50 →
    (∀ r, r = ((perms n rest).map (begun ++ ·)).foldl (bestStep p fixed) (pl, le, fo) → K r.1 r.2.1 r.2.2) → gGo p fixed n begun rest pl le fo K
  | 0, begun, rest, pl, le, fo, K, h0, hb, hr, hl, hK => by
    have : rest = [] := List.length_eq_zero_iff.1 (by omega)
    subst this
    unfold gGo
    rw [br_true_]
    intro _
    exact gLeaf_ok hf hb (by simp at hl; omega) fun r e => hK r (by simpa [perms] using e)
  | n + 1, begun, rest, pl, le, fo, K, h0, hb, hr, hl, hK => by
    unfold gGo
    rw [br_true_]
    intro _
    rw [br_both]
    refine ⟨fun h => ?_, fun h => ?_⟩
    · have : rest = [] := List.length_eq_zero_iff.1 (by have : ((rest.length : Nat) : Int) = 0 := by simpa using h
                                                        omega)
      subst this
      exact gLeaf_ok hf hb (by simp at hl; omega) fun r e => hK r (by simpa [perms] using e)
    · have hne : rest.length ≠ 0 := fun hh => by simp [hh] at h
      rw [br_true_]
      intro _
      rw [perms_to hne] at hK
      refine LoopP.of (fun q : Int × List (Int × Int) × Int × Bool × Unit => ∃ i : Nat, i ≤ rest.length ∧ q.1 = (i : Int) ∧ (q.2.1, q.2.2.1, q.2.2.2.1) = ((permsTo n rest i).map (begun ++ ·)).foldl (bestStep p fixed) (pl, le, fo)) (fun q => ((rest.length : Int) - q.1).toNat) (fun again q hq hag => ?_) ⟨0, by omega, rfl, by simp [permsTo_zero]⟩
      obtain ⟨ii, pl1, le1, fo1, u⟩ := q
      obtain ⟨i, hi, e1, e2⟩ := hq
      simp only at e1 e2
      subst e1
      dsimp only
      rw [br_dec]
      refine ⟨fun hlt => ?_, fun hlt => ?_⟩
      · have hlt : i < rest.length := by omega
        have w1 : IntKind.i64.wrap ((i : Int) + 1) = (i : Int) + 1 := wr (by omega) (by omega)
        have n1 : ((i : Int) + 1).toNat = i + 1 := by omega
        simp only [w1, n1, Int.toNat_natCast]
        rw [br_false_]
        refine ⟨inb (by omega) (by omega), ?_⟩
        rw [br_false_]
        refine ⟨decide_eq_true (by omega), ?_⟩
        rw [br_false_]
        refine ⟨decide_eq_true (by omega), ?_⟩
        have hfl := flat_two rest i
        have hol := outAt_len hlt
        refine ⟨⟨by simp, by rw [hfl, hol]; omega⟩, ?_⟩
        have e128 : f119 begun = begun := rfl
        have e127 : f118 [(rest.take i).drop 0, (rest.take rest.length).drop (i + 1)] = outAt rest i := hfl
        rw [e128, e127, br_false_, roomOk_iff]
        refine ⟨by omega, ?_⟩
        have hai : inA p (rest.getD i 0) := hr _ (by rw [getD_lt hlt]; exact List.getElem_mem _)
        refine gGo_ok hf n _ _ _ _ _ _ (by rw [hol]; omega) (fun a ha => ?_) (fun a ha => hr a (outAt_mem ha)) (by rw [List.length_append, List.length_singleton, hol]; omega) (fun r er => ?_)
        · rcases List.mem_append.1 ha with ha | ha
          · exact hb a ha
          · simp only [List.mem_singleton] at ha
            rw [ha]
            exact hai
        · refine hag (_, _, _, _, ()) ⟨i + 1, by omega, by simp only; omega, ?_⟩ (by simp only; omega)
          simp only
          rw [permsTo_succ, List.map_append, List.foldl_append, ← e2, er, List.map_map]
          have : ((begun ++ ·) ∘ (rest.getD i 0 :: ·)) = fun o => (begun ++ [rest.getD i 0]) ++ o := by
            funext o
            simp
          rw [this]
      · have : i = rest.length := by omega
        subst this
        exact hK (pl1, le1, fo1) e2
def f56 (x : ((List (List Int) × List (List Int)) × List (ByteArray × Int × Int × Int × Int) × List Int) × List (Int × Int)) : List (Int × Int) × Int × Bool := bestF x.1 x.2
def f56_pre (x : ((List (List Int) × List (List Int)) × List (ByteArray × Int × Int × Int × Int) × List Int) × List (Int × Int)) : Prop := FixV x.1 x.2
def f56_e : Entry := { doms := [(true, (.pair (.pair (.sl (.sl (.int .i64))) (.sl (.sl (.int .i64)))) (.pair (.sl (.pair .str (.pair (.int .i64) (.pair (.int .i64) (.pair (.int .i64) (.int .i64)))))) (.sl (.int .i64))))), (false, (.sl (.pair (.int .i64) (.int .i64))))], cods := [(false, (.sl (.pair (.int .i64) (.int .i64)))), (false, (.int .i64)), (false, .bool)], pre := f56_pre, fn := f56, uq := false, total := false }
def f56_E : Env := [(71, f71_e), (78, f78_e), (89, f89_e), (118, f118_e), (119, f119_e)]
def f56_A : Anns := { loops := [(1048576, { tms := [(2, .keep), (3, .keep), (4, .keep), (5, .keep), (6, .keep), (7, .ref 1054723), (19, .keep), (20, .data false (.int .i64))], obs := [(1048576, .keep), (1048577, .keep), (1054723, .arr (.uniq) (.int .i64))], fz := [] }),
  (2017625827203612672, { tms := [(0, .keep), (1, .keep), (2, .keep), (16, .keep), (17, .keep), (18, .data false (.int .i64))], obs := [(1048576, .keep), (1048577, .keep), (1054723, .keep), (1056768, .cells [.data (.sl (.pair (.int .i64) (.int .i64)))]), (1057792, .cells [.data (.int .i64)]), (1057793, .cells [.data .bool]), (1110250094592, .keep)], fz := [1054723] }),
  (2115634019385862884687872, { tms := [(0, .keep), (1, .keep), (2, .keep), (16, .keep), (17, .keep), (18, .data false (.int .i64))], obs := [(1048576, .keep), (1048577, .keep), (1054723, .keep), (1056768, .cells [.data (.sl (.pair (.int .i64) (.int .i64)))]), (1057792, .cells [.data (.int .i64)]), (1057793, .cells [.data .bool]), (1110250094592, .keep)], fz := [] }),
  (2218403057511550560181993603072, { tms := [(0, .keep), (1, .keep), (2, .keep), (16, .keep), (17, .keep), (18, .data false (.int .i64))], obs := [(1048576, .keep), (1048577, .keep), (1054723, .keep), (1056768, .cells [.data (.sl (.pair (.int .i64) (.int .i64)))]), (1057792, .cells [.data (.int .i64)]), (1057793, .cells [.data .bool]), (1110250094592, .keep)], fz := [] }),
  (2326164204433231640193394131858358272, { tms := [(0, .keep), (1, .keep), (2, .keep), (16, .keep), (17, .keep), (18, .data false (.int .i64))], obs := [(1048576, .keep), (1048577, .keep), (1054723, .keep), (1056768, .cells [.data (.sl (.pair (.int .i64) (.int .i64)))]), (1057792, .cells [.data (.int .i64)]), (1057793, .cells [.data .bool]), (1110250094592, .keep)], fz := [] }),
  (2439159956827780300347428445207517406953472, { tms := [(0, .keep), (1, .keep), (2, .keep), (16, .keep), (17, .keep), (18, .data false (.int .i64))], obs := [(1048576, .keep), (1048577, .keep), (1054723, .keep), (1056768, .cells [.data (.sl (.pair (.int .i64) (.int .i64)))]), (1057792, .cells [.data (.int .i64)]), (1057793, .cells [.data .bool]), (1110250094592, .keep)], fz := [] }),
  (2557644590890646556217105129361917772521167388672, { tms := [(0, .keep), (1, .keep), (2, .keep), (16, .keep), (17, .keep), (18, .data false (.int .i64))], obs := [(1048576, .keep), (1048577, .keep), (1054723, .keep), (1056768, .cells [.data (.sl (.pair (.int .i64) (.int .i64)))]), (1057792, .cells [.data (.int .i64)]), (1057793, .cells [.data .bool]), (1110250094592, .keep)], fz := [] }),
  (2681884734537750603331907228125802290239155623267663872, { tms := [(0, .keep), (1, .keep), (2, .keep), (16, .keep), (17, .keep), (18, .data false (.int .i64))], obs := [(1048576, .keep), (1048577, .keep), (1054723, .keep), (1056768, .keep), (1057792, .keep), (1057793, .keep), (1110250094592, .keep)], fz := [] })], own := [] }
theorem f56_run (a0 : (List (List Int) × List (List Int)) × List (ByteArray × Int × Int × Int × Int) × List Int) (a1 : List (Int × Int)) (K : (List (Int × Int) × Int × Bool) → Prop) : runF Tryz.prog f56_E f56_A 8 Tryz.f56 f56_e.doms f56_e.cods (a0, a1) K =
    (br (lenOk (a0.2.1.length))
    (LoopP (V := Int × List Int × Unit) (fun again v => (fun (again1 : Int → List Int → Prop) (v1_0 : Int) (v1_1 : List Int) =>
    br (decide (v1_0 < ((a0.2.1.length) : Int)))
    (br (!(f89 (a1, v1_0)))
    (br (roomOk ((v1_1.length) + 1) 8)
    (again1 (IntKind.i64.wrap (v1_0 + 1)) (v1_1 ++ ([v1_0] : List Int)))
    False)
    (again1 (IntKind.i64.wrap (v1_0 + 1)) v1_1))
    (gGo a0 a1 6 [] v1_1 [] 0 false (fun pl le fo => K (pl, (le, fo)))))
    (fun v1_0 v1_1 => again (v1_0, v1_1, ())) v.1 v.2.1) (0, ([] : List Int), ()))
    True) := by kernel_rfl
theorem f56_t (a0 : (List (List Int) × List (List Int)) × List (ByteArray × Int × Int × Int × Int) × List Int) (a1 : List (Int × Int)) (hpre : f56_pre (a0, a1)) (K : (List (Int × Int) × Int × Bool) → Prop) (hK : ∀ y : List (Int × Int) × Int × Bool, y = f56 (a0, a1) → K y) : RunF Tryz.prog f56_E f56_A 8 Tryz.f56 f56_e.doms f56_e.cods (a0, a1) K := by
  refine ⟨?_⟩
  rw [f56_run a0 a1 K]
  have hf : FixV a0 a1 := hpre
  have h6 := hf.ok.v.six
  rw [br_true_]
  intro _
  refine LoopP.of (fun q : Int × List Int × Unit => ∃ i : Nat, i ≤ a0.2.1.length ∧ q.1 = (i : Int) ∧ q.2.1 = leftF a0 a1 i) (fun q => ((a0.2.1.length : Int) - q.1).toNat) (fun again q hq hag => ?_) ⟨0, by omega, rfl, rfl⟩
  obtain ⟨ii, l, u⟩ := q
  obtain ⟨i, hi, e1, e2⟩ := hq
  simp only at e1 e2
  subst e1 e2
  dsimp only
  have hll := leftF_len a0 a1 i
  rw [br_dec]
  refine ⟨fun hlt => ?_, fun hlt => ?_⟩
  · have hlt : i < a0.2.1.length := by omega
    have e112 : f89 (a1, (i : Int)) = hasS a1 i := rfl
    rw [e112, wr (n := (i : Int) + 1) (by omega) (by omega)]
    have hs := leftF_succ a0 a1 i
    rw [br_both]
    refine ⟨fun h => ?_, fun h => ?_⟩
    · rw [if_neg (by rw [not_true.1 h]; simp)] at hs
      rw [br_false_, roomOk_iff]
      exact ⟨by omega, hag (_, _, ()) ⟨i + 1, by omega, by simp only; omega, hs.symm⟩ (by simp only; omega)⟩
    · rw [if_pos (not_false_.1 h)] at hs
      exact hag (_, _, ()) ⟨i + 1, by omega, by simp only; omega, hs.symm⟩ (by simp only; omega)
  · have hi : i = a0.2.1.length := by omega
    subst hi
    refine gGo_ok hf 6 _ _ _ _ _ _ (by omega) (fun a ha => by cases ha) (leftF_in a0 a1) (by simp only [List.length_nil]; omega) (fun r er => hK _ ?_)
    rw [perms_fuel 6 8 _ (by omega) (by omega)] at er
    simp only [List.nil_append, List.map_id'] at er
    exact er
theorem f56_fn : f56_e.fn = f56 := rfl
theorem f56_ok : EntryOK Tryz.prog 56 f56_e := by
  refine entryF progOK (EnvOK.cons f71_ok (EnvOK.cons f78_ok (EnvOK.cons f89_ok (EnvOK.cons f118_ok (EnvOK.cons f119_ok (EnvOK.nil)))))) (A := f56_A) (d := 8) Tryz.func56 rfl rfl rfl rfl (fun h => by cases h) fun x hpre => ?_
  obtain ⟨a0, a1⟩ := x
  exact f56_t a0 a1 hpre _ fun _ h => h.trans (congrFun f56_fn.symm _)
end Go.Proofs.YtglokajinehbmaaGreat
end

section
namespace Go.Proofs.YtglokajinehbmaaGreat
open Go Go.Pi Go.RowKit
set_option linter.unusedVariables false
set_option linter.unusedSimpArgs false
def gx49 (x : ((List (List Int) × List (List Int)) × List (ByteArray × Int × Int × Int × Int) × List Int) × List (Int × Int)) : Int := if slotsErr x.1 x.2 ≠ 0 then slotsErr x.1 x.2 else if x.2.length ≠ x.1.2.1.length then 10 else 0
def gx49_pre (x : ((List (List Int) × List (List Int)) × List (ByteArray × Int × Int × Int × Int) × List Int) × List (Int × Int)) : Prop := okP x.1
end Go.Proofs.YtglokajinehbmaaGreat
end
