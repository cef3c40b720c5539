/- What functions of the program compute, each proved once, part 2. -/
import Derived.Test.YtglokajinehbmaaGreatPiD
import Derived.Test.YtglokajinehbmaaGreatFnA

section
namespace Go.Proofs.YtglokajinehbmaaGreat
open Go Go.Pi Go.RowKit
set_option maxRecDepth 100000
set_option linter.unusedVariables false
set_option linter.unusedSimpArgs false

def apartF (p : Prob) (l f : Int) : Int := secAt p.1 (p.2.1.getD l.toNat arrD).2.1 (p.2.1.getD f.toNat arrD).2.1 (decide (l ∈ p.2.2))
def okP (p : Prob) : Prop := (probOf p).2 = 0
structure ProbV (p : Prob) : Prop where
  rule : (ruleOf p.1).2 = 0
  six : p.2.1.length ≤ 6
  arr : ∀ i, i < p.2.1.length → (nameOK (p.2.1.getD i arrD).1 = true ∧ arrV (p.2.1.getD i arrD) ∧ (p.2.1.getD i arrD).2.2.1 ≤ (p.2.1.getD i arrD).2.2.2.1) ∧ (p.2.1.getD i arrD).2.1 < p.1.1.length
  known : ∀ i, i < p.2.1.length → knownA p.2.1 i = false
  free : ∀ j, j < p.2.2.length → freeE p j = 0
theorem okP.v {p : Prob} (h : okP p) : ProbV p := by
  unfold okP probOf at h
  split at h
  · rename_i h1; exact absurd h h1
  · rename_i h1
    split at h
    · rename_i h2; exact absurd h h2
    · rename_i h2
      split at h
      · rename_i h3; exact absurd h h3
      · rename_i h3
        obtain ⟨a1, a2⟩ := arrOf_zero (show (arrOf p.2.1).2 = 0 by omega)
        have c := eachE_zero (show (eachE p.2.1.length (catE p)).2 = 0 by omega)
        refine ⟨by omega, a1, fun i hi => ?_, fun i hi => (arrE_zero (a2 i hi)).2.1, eachE_zero h⟩
        obtain ⟨b1, b2, b3, b4⟩ := arrE_zero (a2 i hi)
        refine ⟨⟨b1, b3, b4⟩, ?_⟩
        have := c i hi
        unfold catE at this
        split at this
        · assumption
        · simp at this
theorem secAt_in {r : List (List Int) × List (List Int)} (h : (ruleOf r).2 = 0) {l f : Int} (hl : 0 ≤ l ∧ l < r.1.length) (hf : 0 ≤ f ∧ f < r.1.length) (fr : Bool) : 0 ≤ secAt r l f fr ∧ secAt r l f fr ≤ 600 := by
  obtain ⟨_, hr⟩ := ruleOf_zero h
  obtain ⟨_, hr⟩ := hr l.toNat (by omega)
  obtain ⟨⟨h1, h2⟩, h3, h4⟩ := hr f.toNat (by omega)
  unfold secAt
  cases fr <;> simp only [if_true, Bool.false_eq_true, if_false] <;> omega
theorem apartF_in {p : Prob} (h : ProbV p) {l f : Int} (hl : 0 ≤ l ∧ l < p.2.1.length) (hf : 0 ≤ f ∧ f < p.2.1.length) : 0 ≤ apartF p l f ∧ apartF p l f ≤ 600 := by
  obtain ⟨⟨_, a2, _⟩, a4⟩ := h.arr l.toNat (by omega)
  obtain ⟨⟨_, b2, _⟩, b4⟩ := h.arr f.toNat (by omega)
  exact secAt_in h.rule ⟨a2.1.1, a4⟩ ⟨b2.1.1, b4⟩ _
def f120 (x : ((List (List Int) × List (List Int)) × List (ByteArray × Int × Int × Int × Int) × List Int) × Int × Int) : Int := apartF x.1 x.2.1 x.2.2
def f120_pre (x : ((List (List Int) × List (List Int)) × List (ByteArray × Int × Int × Int × Int) × List Int) × Int × Int) : Prop := okP x.1 ∧ (0 ≤ x.2.1 ∧ x.2.1 < x.1.2.1.length) ∧ 0 ≤ x.2.2 ∧ x.2.2 < x.1.2.1.length
def f120_e : Entry := { doms := [(true, (.pair (.pair (.sl (.sl (.int .i64))) (.sl (.sl (.int .i64)))) (.pair (.sl (.pair .str (.pair (.int .i64) (.pair (.int .i64) (.pair (.int .i64) (.int .i64)))))) (.sl (.int .i64))))), (false, (.int .i64)), (false, (.int .i64))], cods := [(false, (.int .i64))], pre := f120_pre, fn := f120, uq := false, total := false }
def f120_E : Env := [(75, f75_e), (124, f124_e), (49, f49_e)]
def f120_A : Anns := { loops := [], own := [] }
theorem f120_run (a0 : (List (List Int) × List (List Int)) × List (ByteArray × Int × Int × Int × Int) × List Int) (a1 : Int) (a2 : Int) (K : Int → Prop) : runF Tryz.prog f120_E f120_A 6 Tryz.f120 f120_e.doms f120_e.cods (a0, a1, a2) K =
    (br (decide (0 ≤ a1) && decide (a1 < ((a0.2.1.length) : Int)))
    (br (decide (0 ≤ a2) && decide (a2 < ((a0.2.1.length) : Int)))
    (f124_pre (a0.1, (((a0.2.1.getD a1.toNat ((⟨#[]⟩ : ByteArray), (0, (0, (0, 0))))).2).1, (((a0.2.1.getD a2.toNat ((⟨#[]⟩ : ByteArray), (0, (0, (0, 0))))).2).1, (f75 (a0.2.2, a1))))) ∧
    K (f124 (a0.1, (((a0.2.1.getD a1.toNat ((⟨#[]⟩ : ByteArray), (0, (0, (0, 0))))).2).1, (((a0.2.1.getD a2.toNat ((⟨#[]⟩ : ByteArray), (0, (0, (0, 0))))).2).1, (f75 (a0.2.2, a1)))))))
    False)
    False) := by kernel_rfl
theorem f120_t (a0 : (List (List Int) × List (List Int)) × List (ByteArray × Int × Int × Int × Int) × List Int) (a1 : Int) (a2 : Int) (hpre : f120_pre (a0, a1, a2)) (K : Int → Prop) (hK : ∀ y : Int, y = f120 (a0, a1, a2) → K y) : RunF Tryz.prog f120_E f120_A 6 Tryz.f120 f120_e.doms f120_e.cods (a0, a1, a2) K := by
  refine ⟨?_⟩
  rw [f120_run a0 a1 a2 K]
  obtain ⟨h, ⟨h1, h2⟩, h3, h4⟩ := hpre
  simp only at h h1 h2 h3 h4
  have hv := h.v
  obtain ⟨⟨_, c2, _⟩, c4⟩ := hv.arr a1.toNat (by omega)
  obtain ⟨⟨_, b2, _⟩, b4⟩ := hv.arr a2.toNat (by omega)
  rw [br_false_, br_false_]
  exact ⟨inb h1 h2, inb h3 h4, ⟨hv.rule, ⟨c2.1.1, c4⟩, b2.1.1, b4⟩, hK _ rfl⟩
theorem f120_fn : f120_e.fn = f120 := rfl
theorem f120_ok : EntryOK Tryz.prog 120 f120_e := by
  refine entryF progOK (EnvOK.cons f75_ok (EnvOK.cons f124_ok (EnvOK.cons f49_ok (EnvOK.nil)))) (A := f120_A) (d := 6) Tryz.func120 rfl rfl rfl rfl (fun h => by cases h) fun x hpre => ?_
  obtain ⟨a0, a1, a2⟩ := x
  exact f120_t a0 a1 a2 hpre _ fun _ h => h.trans (congrFun f120_fn.symm _)
end Go.Proofs.YtglokajinehbmaaGreat
end

section
namespace Go.Proofs.YtglokajinehbmaaGreat
open Go Go.Pi Go.RowKit
set_option maxRecDepth 100000
set_option linter.unusedVariables false
set_option linter.unusedSimpArgs false

def slotV (p : Prob) (s : Int × Int) : Prop := (0 ≤ s.1 ∧ s.1 < p.2.1.length) ∧ 0 ≤ s.2 ∧ s.2 ≤ 100000
def soonF (p : Prob) (l : List (Int × Int)) (a : Int) : Int := l.foldl (fun t s => max t (s.2 + apartF p s.1 a)) (p.2.1.getD a.toNat arrD).2.2.1
theorem minmax_max (a b : Int) : minmax true a b = max a b := by
  simp only [minmax]
  split <;> omega
theorem soonF_take (p : Prob) (l : List (Int × Int)) (a : Int) {i : Nat} (hi : i < l.length) : soonF p (l.take (i + 1)) a = max (soonF p (l.take i) a) ((l.getD i (0, 0)).2 + apartF p (l.getD i (0, 0)).1 a) := by
  unfold soonF
  rw [List.take_add_one, List.getElem?_eq_getElem hi, List.foldl_append, getD_lt hi]
  rfl
theorem soonF_in {p : Prob} (h : ProbV p) {a : Int} (ha : 0 ≤ a ∧ a < p.2.1.length) : ∀ {l : List (Int × Int)}, (∀ s ∈ l, slotV p s) → 0 ≤ soonF p l a ∧ soonF p l a ≤ 100600 := by
  intro l hl
  obtain ⟨⟨_, a2, _⟩, _⟩ := h.arr a.toNat (by omega)
  have h0 : 0 ≤ (p.2.1.getD a.toNat arrD).2.2.1 ∧ (p.2.1.getD a.toNat arrD).2.2.1 ≤ 100600 := by
    have := a2.2.1
    omega
  unfold soonF
  generalize (p.2.1.getD a.toNat arrD).2.2.1 = t at h0
  induction l generalizing t with
  | nil => exact h0
  | cons s r ih =>
    obtain ⟨s1, s2⟩ := hl s (.head _)
    have := apartF_in h s1 ha
    have hm : 0 ≤ max t (s.2 + apartF p s.1 a) ∧ max t (s.2 + apartF p s.1 a) ≤ 100600 := by omega
    exact ih (fun x hx => hl x (.tail _ hx)) _ hm
def f103 (x : ((List (List Int) × List (List Int)) × List (ByteArray × Int × Int × Int × Int) × List Int) × List (Int × Int) × Int) : Int := soonF x.1 x.2.1 x.2.2
def f103_pre (x : ((List (List Int) × List (List Int)) × List (ByteArray × Int × Int × Int × Int) × List Int) × List (Int × Int) × Int) : Prop := okP x.1 ∧ (∀ s ∈ x.2.1, slotV x.1 s) ∧ 0 ≤ x.2.2 ∧ x.2.2 < x.1.2.1.length
def f103_e : Entry := { doms := [(true, (.pair (.pair (.sl (.sl (.int .i64))) (.sl (.sl (.int .i64)))) (.pair (.sl (.pair .str (.pair (.int .i64) (.pair (.int .i64) (.pair (.int .i64) (.int .i64)))))) (.sl (.int .i64))))), (false, (.sl (.pair (.int .i64) (.int .i64)))), (false, (.int .i64))], cods := [(false, (.int .i64))], pre := f103_pre, fn := f103, uq := false, total := false }
def f103_E : Env := [(120, f120_e)]
def f103_A : Anns := { loops := [(1048576, { tms := [(2, .keep), (3, .keep), (7, .data false (.int .i64)), (17, .keep), (18, .keep), (19, .data false (.int .i64))], obs := [(1048576, .keep)], fz := [] })], own := [] }
theorem f103_run (a0 : (List (List Int) × List (List Int)) × List (ByteArray × Int × Int × Int × Int) × List Int) (a1 : List (Int × Int)) (a2 : Int) (K : Int → Prop) : runF Tryz.prog f103_E f103_A 6 Tryz.f103 f103_e.doms f103_e.cods (a0, a1, a2) K =
    (br (decide (0 ≤ a2) && decide (a2 < ((a0.2.1.length) : Int)))
    (br (lenOk (a1.length))
    (LoopP (V := Int × Int × Unit) (fun again v => (fun (again1 : Int → Int → Prop) (v1_0 : Int) (v1_1 : Int) =>
    br (decide (v1_1 < ((a1.length) : Int)))
    (br (decide (0 ≤ v1_1) && decide (v1_1 < ((a1.length) : Int)))
    (f120_pre (a0, ((a1.getD v1_1.toNat (0, 0)).1, a2)) ∧
    again1 (minmax true v1_0 (IntKind.i64.wrap ((a1.getD v1_1.toNat (0, 0)).2 + (f120 (a0, ((a1.getD v1_1.toNat (0, 0)).1, a2)))))) (IntKind.i64.wrap (v1_1 + 1)))
    False)
    (K v1_0))
    (fun v1_0 v1_1 => again (v1_0, v1_1, ())) v.1 v.2.1) ((((a0.2.1.getD a2.toNat ((⟨#[]⟩ : ByteArray), (0, (0, (0, 0))))).2).2).1, 0, ()))
    True)
    False) := by kernel_rfl
theorem f103_t (a0 : (List (List Int) × List (List Int)) × List (ByteArray × Int × Int × Int × Int) × List Int) (a1 : List (Int × Int)) (a2 : Int) (hpre : f103_pre (a0, a1, a2)) (K : Int → Prop) (hK : ∀ y : Int, y = f103 (a0, a1, a2) → K y) : RunF Tryz.prog f103_E f103_A 6 Tryz.f103 f103_e.doms f103_e.cods (a0, a1, a2) K := by
  refine ⟨?_⟩
  rw [f103_run a0 a1 a2 K]
  obtain ⟨h, hs, h3, h4⟩ := hpre
  simp only at h hs h3 h4
  have hv := h.v
  have hd : ((⟨#[]⟩ : ByteArray), ((0 : Int), ((0 : Int), ((0 : Int), (0 : Int))))) = arrD := rfl
  rw [hd, br_false_]
  refine ⟨inb h3 h4, ?_⟩
  rw [br_true_, lenOk_iff]
  intro hl
  refine LoopP.of (fun q : Int × Int × Unit => ∃ i : Nat, i ≤ a1.length ∧ q.2.1 = (i : Int) ∧ q.1 = soonF a0 (a1.take i) a2) (fun q => ((a1.length : Int) - q.2.1).toNat) (fun again q hq hag => ?_) ⟨0, by omega, rfl, rfl⟩
  obtain ⟨t, j, u⟩ := q
  obtain ⟨i, hi, e1, e2⟩ := hq
  simp only at e1 e2
  subst e1 e2
  dsimp only
  rw [br_dec]
  refine ⟨fun hlt => ?_, fun hlt => hK _ ?_⟩
  · have hlt : i < a1.length := by omega
    rw [br_false_]
    refine ⟨inb (by omega) (by omega), ?_⟩
    simp only [Int.toNat_natCast]
    have hm := hs (a1.getD i (0, 0)) (by rw [getD_lt hlt]; exact List.getElem_mem _)
    have hap := apartF_in hv hm.1 ⟨h3, h4⟩
    have e104 : f120 (a0, (a1.getD i (0, 0)).1, a2) = apartF a0 (a1.getD i (0, 0)).1 a2 := rfl
    obtain ⟨s1, s2⟩ := hm
    refine ⟨⟨h, s1, h3, h4⟩, ?_⟩
    rw [e104, wr (n := (a1.getD i (0, 0)).2 + _) (by omega) (by omega), wr (n := (i : Int) + 1) (by omega) (by omega), minmax_max]
    exact hag (_, _, ()) ⟨i + 1, by omega, by simp only; omega, (soonF_take a0 a1 a2 hlt).symm⟩ (by simp only; omega)
  · rw [f103, List.take_of_length_le (by omega)]
theorem f103_fn : f103_e.fn = f103 := rfl
theorem f103_ok : EntryOK Tryz.prog 103 f103_e := by
  refine entryF progOK (EnvOK.cons f120_ok (EnvOK.nil)) (A := f103_A) (d := 6) Tryz.func103 rfl rfl rfl rfl (fun h => by cases h) fun x hpre => ?_
  obtain ⟨a0, a1, a2⟩ := x
  exact f103_t a0 a1 a2 hpre _ fun _ h => h.trans (congrFun f103_fn.symm _)
end Go.Proofs.YtglokajinehbmaaGreat
end

section
namespace Go.Proofs.YtglokajinehbmaaGreat
open Go Go.Pi Go.RowKit
set_option maxRecDepth 100000
set_option linter.unusedVariables false
set_option linter.unusedSimpArgs false

def costF (p : Prob) (l : List (Int × Int)) : Int := l.foldl (fun n s => n + (p.2.1.getD s.1.toNat arrD).2.2.2.2 * (s.2 - (p.2.1.getD s.1.toNat arrD).2.2.1)) 0
theorem costF_take (p : Prob) (l : List (Int × Int)) {i : Nat} (hi : i < l.length) : costF p (l.take (i + 1)) = costF p (l.take i) + (p.2.1.getD (l.getD i (0, 0)).1.toNat arrD).2.2.2.2 * ((l.getD i (0, 0)).2 - (p.2.1.getD (l.getD i (0, 0)).1.toNat arrD).2.2.1) := by
  unfold costF
  rw [List.take_add_one, List.getElem?_eq_getElem hi, List.foldl_append, getD_lt hi]
  rfl
theorem cost1_in {p : Prob} (h : ProbV p) {s : Int × Int} (hs : slotV p s) : -10000000 ≤ (p.2.1.getD s.1.toNat arrD).2.2.2.2 * (s.2 - (p.2.1.getD s.1.toNat arrD).2.2.1) ∧ (p.2.1.getD s.1.toNat arrD).2.2.2.2 * (s.2 - (p.2.1.getD s.1.toNat arrD).2.2.1) ≤ 10000000 := by
  obtain ⟨⟨s1, s2⟩, s3, s4⟩ := hs
  obtain ⟨⟨_, a2, _⟩, _⟩ := h.arr s.1.toNat (by omega)
  obtain ⟨_, b2, _, b4⟩ := a2
  generalize (p.2.1.getD s.1.toNat arrD).2.2.2.2 = c at *
  generalize (p.2.1.getD s.1.toNat arrD).2.2.1 = e at *
  have hd1 : s.2 - e ≤ 100000 := by omega
  have hd2 : -100000 ≤ s.2 - e := by omega
  generalize s.2 - e = d at *
  constructor
  · have h1 : c * -100000 ≤ c * d := Int.mul_le_mul_of_nonneg_left hd2 (by omega)
    omega
  · have h1 : c * d ≤ c * 100000 := Int.mul_le_mul_of_nonneg_left hd1 (by omega)
    omega
theorem costF_in {p : Prob} (h : ProbV p) {l : List (Int × Int)} (hl : ∀ s ∈ l, slotV p s) : ∀ i, i ≤ l.length → -10000000 * (i : Int) ≤ costF p (l.take i) ∧ costF p (l.take i) ≤ 10000000 * (i : Int)
  | 0, _ => by simp [costF]
  | i + 1, hi => by
    have ih := costF_in h hl i (by omega)
    have hm := cost1_in h (hl (l.getD i (0, 0)) (by rw [getD_lt (by omega)]; exact List.getElem_mem _))
    rw [costF_take p l (by omega)]
    omega
def f71 (x : ((List (List Int) × List (List Int)) × List (ByteArray × Int × Int × Int × Int) × List Int) × List (Int × Int)) : Int := costF x.1 x.2
def f71_pre (x : ((List (List Int) × List (List Int)) × List (ByteArray × Int × Int × Int × Int) × List Int) × List (Int × Int)) : Prop := okP x.1 ∧ (∀ s ∈ x.2, slotV x.1 s) ∧ x.2.length ≤ 1000
def f71_e : Entry := { doms := [(true, (.pair (.pair (.sl (.sl (.int .i64))) (.sl (.sl (.int .i64)))) (.pair (.sl (.pair .str (.pair (.int .i64) (.pair (.int .i64) (.pair (.int .i64) (.int .i64)))))) (.sl (.int .i64))))), (false, (.sl (.pair (.int .i64) (.int .i64))))], cods := [(false, (.int .i64))], pre := f71_pre, fn := f71, uq := false, total := false }
def f71_E : Env := [(103, f103_e)]
def f71_A : Anns := { loops := [(1048576, { tms := [(2, .keep), (5, .data false (.int .i64)), (9, .keep), (10, .keep), (11, .data false (.int .i64))], obs := [(1048576, .keep)], fz := [] })], own := [] }
theorem f71_run (a0 : (List (List Int) × List (List Int)) × List (ByteArray × Int × Int × Int × Int) × List Int) (a1 : List (Int × Int)) (K : Int → Prop) : runF Tryz.prog f71_E f71_A 6 Tryz.f71 f71_e.doms f71_e.cods (a0, a1) K =
    (br (lenOk (a1.length))
    (LoopP (V := Int × Int × Unit) (fun again v => (fun (again1 : Int → Int → Prop) (v1_0 : Int) (v1_1 : Int) =>
    br (decide (v1_1 < ((a1.length) : Int)))
    (br (decide (0 ≤ v1_1) && decide (v1_1 < ((a1.length) : Int)))
    (br (decide (0 ≤ (a1.getD v1_1.toNat (0, 0)).1) && decide ((a1.getD v1_1.toNat (0, 0)).1 < ((a0.2.1.length) : Int)))
    (again1 (IntKind.i64.wrap (v1_0 + (IntKind.i64.wrap (((((a0.2.1.getD (((a1.getD v1_1.toNat (0, 0)).1).toNat) ((⟨#[]⟩ : ByteArray), (0, (0, (0, 0))))).2).2).2).2 * (IntKind.i64.wrap ((a1.getD v1_1.toNat (0, 0)).2 - (((a0.2.1.getD (((a1.getD v1_1.toNat (0, 0)).1).toNat) ((⟨#[]⟩ : ByteArray), (0, (0, (0, 0))))).2).2).1)))))) (IntKind.i64.wrap (v1_1 + 1)))
    False)
    False)
    (K v1_0))
    (fun v1_0 v1_1 => again (v1_0, v1_1, ())) v.1 v.2.1) (0, 0, ()))
    True) := by kernel_rfl
theorem f71_t (a0 : (List (List Int) × List (List Int)) × List (ByteArray × Int × Int × Int × Int) × List Int) (a1 : List (Int × Int)) (hpre : f71_pre (a0, a1)) (K : Int → Prop) (hK : ∀ y : Int, y = f71 (a0, a1) → K y) : RunF Tryz.prog f71_E f71_A 6 Tryz.f71 f71_e.doms f71_e.cods (a0, a1) K := by
  refine ⟨?_⟩
  rw [f71_run a0 a1 K]
  obtain ⟨h, hs, h3⟩ := hpre
  simp only at h hs h3
  have hv := h.v
  have hd : ((⟨#[]⟩ : ByteArray), ((0 : Int), ((0 : Int), ((0 : Int), (0 : Int))))) = arrD := rfl
  simp only [hd]
  rw [br_true_, lenOk_iff]
  intro hl
  refine LoopP.of (fun q : Int × Int × Unit => ∃ i : Nat, i ≤ a1.length ∧ q.2.1 = (i : Int) ∧ q.1 = costF a0 (a1.take i)) (fun q => ((a1.length : Int) - q.2.1).toNat) (fun again q hq hag => ?_) ⟨0, by omega, rfl, rfl⟩
  obtain ⟨t, j, u⟩ := q
  obtain ⟨i, hi, e1, e2⟩ := hq
  simp only at e1 e2
  subst e1 e2
  dsimp only
  rw [br_dec]
  refine ⟨fun hlt => ?_, fun hlt => hK _ ?_⟩
  · have hlt : i < a1.length := by omega
    rw [br_false_]
    refine ⟨inb (by omega) (by omega), ?_⟩
    simp only [Int.toNat_natCast]
    have hm := hs (a1.getD i (0, 0)) (by rw [getD_lt hlt]; exact List.getElem_mem _)
    have hc1 := cost1_in hv hm
    have hc := costF_in hv hs i hi
    have hst := costF_take a0 a1 hlt
    obtain ⟨⟨s1, s2⟩, s3, s4⟩ := hm
    obtain ⟨⟨_, b, _⟩, _⟩ := hv.arr (a1.getD i (0, 0)).1.toNat (by omega)
    have be := b.2.1
    rw [br_false_]
    refine ⟨inb s1 s2, ?_⟩
    generalize (a1.getD i (0, 0)) = s at *
    rw [wr (n := s.2 - (a0.2.1.getD s.1.toNat arrD).2.2.1) (by omega) (by omega)]
    rw [wr (n := (a0.2.1.getD s.1.toNat arrD).2.2.2.2 * (s.2 - (a0.2.1.getD s.1.toNat arrD).2.2.1)) (by omega) (by omega), wr (n := costF a0 (a1.take i) + _) (by omega) (by omega), wr (n := (i : Int) + 1) (by omega) (by omega)]
    exact hag (_, _, ()) ⟨i + 1, by omega, by simp only; omega, hst.symm⟩ (by simp only; omega)
  · rw [f71, List.take_of_length_le (by omega)]
theorem f71_fn : f71_e.fn = f71 := rfl
theorem f71_ok : EntryOK Tryz.prog 71 f71_e := by
  refine entryF progOK (EnvOK.cons f103_ok (EnvOK.nil)) (A := f71_A) (d := 6) Tryz.func71 rfl rfl rfl rfl (fun h => by cases h) fun x hpre => ?_
  obtain ⟨a0, a1⟩ := x
  exact f71_t a0 a1 hpre _ fun _ h => h.trans (congrFun f71_fn.symm _)
end Go.Proofs.YtglokajinehbmaaGreat
end

section
namespace Go.Proofs.YtglokajinehbmaaGreat
open Go Go.Pi Go.RowKit
set_option maxRecDepth 100000
set_option linter.unusedVariables false
set_option linter.unusedSimpArgs false

def f80 (l : List (Int × Int)) : List (Int × Int) := l
def f80_pre (l : List (Int × Int)) : Prop := l.length ≤ 1048576
def f80_e : Entry := { doms := [(false, (.sl (.pair (.int .i64) (.int .i64))))], cods := [(false, (.sl (.pair (.int .i64) (.int .i64))))], pre := f80_pre, fn := f80, uq := true, total := false }
def f80_E : Env := []
def f80_A : Anns := { loops := [], own := [1049601, 1051648] }
theorem f80_run (a0 : List (Int × Int)) (K : (List (Int × Int)) → Prop) : runU Tryz.prog f80_E f80_A 6 Tryz.f80 f80_e.doms f80_e.cods a0 K =
    ((((a0.length) = 0 →
    K ([] : List (Int × Int))) ∧
    br (roomOk (0 + (a0.length)) 16)
    (K (([] : List (Int × Int)) ++ a0))
    False)) := by kernel_rfl
theorem f80_t (a0 : List (Int × Int)) (hpre : f80_pre a0) (K : (List (Int × Int)) → Prop) (hK : ∀ y : List (Int × Int), y = f80 a0 → K y) : RunU Tryz.prog f80_E f80_A 6 Tryz.f80 f80_e.doms f80_e.cods a0 K := by
  refine ⟨?_⟩
  rw [f80_run a0 K]
  simp only [br_false_, roomOk_iff]
  have : a0.length ≤ 1048576 := hpre
  refine ⟨fun h0 => hK _ ?_, by omega, hK _ (by simp [f80])⟩
  exact (List.length_eq_zero_iff.1 h0).symm
theorem f80_fn : f80_e.fn = f80 := rfl
theorem f80_ok : EntryOK Tryz.prog 80 f80_e := by
  refine entryFU progOK (EnvOK.nil) (A := f80_A) (d := 6) Tryz.func80 rfl rfl rfl (fun h => by cases h) fun x hpre => ?_
  exact f80_t x hpre _ fun _ h => h.trans (congrFun f80_fn.symm _)
end Go.Proofs.YtglokajinehbmaaGreat
end

section
namespace Go.Proofs.YtglokajinehbmaaGreat
open Go Go.Pi Go.RowKit
set_option maxRecDepth 100000
set_option linter.unusedVariables false
set_option linter.unusedSimpArgs false

def f84 (l : List (Int × Int)) : List (Int × Int) := l
def f84_e : Entry := { doms := [(false, (.sl (.pair (.int .i64) (.int .i64))))], cods := [(false, (.sl (.pair (.int .i64) (.int .i64))))], pre := fun _ => True, fn := f84, uq := false, total := true, ex := true }
def f84_E : Env := []
def f84_A : Anns := { loops := [], own := [] }
theorem f84_run (a0 : List (Int × Int)) (K : (List (Int × Int)) → Prop) : runX Tryz.prog f84_E f84_A 6 Tryz.f84 f84_e.doms f84_e.cods a0 K =
    (br (lenOk (a0.length))
    (br (lenOk (a0.length))
    (br (decide (((a0.length) : Int) = ((a0.length) : Int) ∧ ((a0.length) : Int) = ((a0.length) : Int)))
    (K a0)
    False)
    True)
    True) := by kernel_rfl
theorem f84_t (a0 : List (Int × Int)) (K : (List (Int × Int)) → Prop) (hK : ∀ y : List (Int × Int), y = f84 a0 → K y) : RunX Tryz.prog f84_E f84_A 6 Tryz.f84 f84_e.doms f84_e.cods a0 K := by
  refine ⟨?_⟩
  rw [f84_run a0 K]
  simp only [br_true_, br_false_, decide_eq_true_eq, and_self, true_and]
  exact fun _ _ => hK _ rfl
theorem f84_fn : f84_e.fn = f84 := rfl
theorem f84_ok : EntryOK Tryz.prog 84 f84_e := by
  refine entryFX progOK (EnvOK.nil) (A := f84_A) (d := 6) Tryz.func84 rfl rfl rfl (fun _ _ => trivial) fun x hpre => ?_
  exact f84_t x _ fun _ h => h.trans (congrFun f84_fn.symm _)
end Go.Proofs.YtglokajinehbmaaGreat
end

section
namespace Go.Proofs.YtglokajinehbmaaGreat
open Go Go.Pi Go.RowKit
set_option maxRecDepth 100000
set_option linter.unusedVariables false
set_option linter.unusedSimpArgs false

def hasS (l : List (Int × Int)) (n : Int) : Bool := l.any fun s => s.1 == n
def f89 (x : List (Int × Int) × Int) : Bool := hasS x.1 x.2
def f89_e : Entry := { doms := [(false, (.sl (.pair (.int .i64) (.int .i64)))), (false, (.int .i64))], cods := [(false, .bool)], pre := fun _ => True, fn := f89, uq := false, total := true }
def f89_E : Env := []
def f89_A : Anns := { loops := [(1154049604612784128, { tms := [(0, .keep), (1, .keep), (7, .keep), (8, .data false (.int .i64))], obs := [(1048576, .keep)], fz := [] })], own := [] }
theorem f89_run (a0 : List (Int × Int)) (a1 : Int) (K : Bool → Prop) : runF Tryz.prog f89_E f89_A 6 Tryz.f89 f89_e.doms f89_e.cods (a0, a1) K =
    (br (lenOk (a0.length))
    (LoopP (V := Int × Unit) (fun again v => (fun (again1 : Int → Prop) (v1_0 : Int) =>
    br (decide (v1_0 < ((a0.length) : Int)))
    (br (decide (0 ≤ v1_0) && decide (v1_0 < ((a0.length) : Int)))
    (br ((a0.getD v1_0.toNat (0, 0)).1 == a1)
    (K (decide (v1_0 ≥ 0)))
    (again1 (IntKind.i64.wrap (v1_0 + 1))))
    False)
    (K false))
    (fun v1_0 => again (v1_0, ())) v.1) (0, ()))
    True) := by kernel_rfl
theorem f89_t (a0 : List (Int × Int)) (a1 : Int) (K : Bool → Prop) (hK : ∀ y : Bool, y = f89 (a0, a1) → K y) : RunF Tryz.prog f89_E f89_A 6 Tryz.f89 f89_e.doms f89_e.cods (a0, a1) K := by
  refine ⟨?_⟩
  rw [f89_run a0 a1 K]
  rw [br_true_, lenOk_iff]
  intro hl
  refine LoopP.up a0.length (fun i _ => ∀ x ∈ a0.take i.toNat, (x.1 == a1) = false) (fun again i v hi0 hn hI hag => ?_) (by omega) all_zero
  dsimp only
  rw [br_dec]
  refine ⟨fun hi => ?_, fun hi => hK _ ?_⟩
  · have hil : i.toNat < a0.length := by omega
    rw [br_false_]
    refine ⟨by simp; omega, ?_⟩
    rw [br_both]
    refine ⟨fun h => hK _ ?_, fun h => ?_⟩
    · have : hasS a0 a1 = true := List.any_eq_true.2 ⟨_, List.getElem_mem hil, by rw [← getD_lt (d := (0, 0)) hil]; exact h⟩
      rw [f89, this]
      simp [hi0]
    · rw [wr (n := i + 1) (by omega) (by omega)]
      exact hag () hi (all_step (d := (0, 0)) hi0 hi hI h)
  · have hall := all_done hi hI
    unfold f89 hasS
    symm
    rw [← Bool.not_eq_true, List.any_eq_true]
    rintro ⟨x, hx, he⟩
    rw [hall x hx] at he
    cases he
theorem f89_fn : f89_e.fn = f89 := rfl
theorem f89_ok : EntryOK Tryz.prog 89 f89_e := by
  refine entryF progOK (EnvOK.nil) (A := f89_A) (d := 6) Tryz.func89 rfl rfl rfl rfl (fun _ _ => trivial) fun x hpre => ?_
  obtain ⟨a0, a1⟩ := x
  exact f89_t a0 a1 _ fun _ h => h.trans (congrFun f89_fn.symm _)
end Go.Proofs.YtglokajinehbmaaGreat
end

section
namespace Go.Proofs.YtglokajinehbmaaGreat
open Go Go.Pi Go.RowKit
set_option maxRecDepth 100000
set_option linter.unusedVariables false
set_option linter.unusedSimpArgs false

def f118 (l : List (List Int)) : List Int := l.flatten
def f118_pre (l : List (List Int)) : Prop := l.length ≤ 1000 ∧ l.flatten.length ≤ 1000000
theorem flat_take (l : List (List Int)) {i : Nat} (hi : i < l.length) : (l.take (i + 1)).flatten = (l.take i).flatten ++ l.getD i [] := by
  rw [List.take_add_one, List.getElem?_eq_getElem hi, List.flatten_append, getD_lt hi]
  simp
theorem flat_le (l : List (List Int)) (i : Nat) : (l.take i).flatten.length ≤ l.flatten.length := by
  conv => rhs; rw [← List.take_append_drop i l, List.flatten_append, List.length_append]
  omega
def f118_e : Entry := { doms := [(false, (.sl (.sl (.int .i64))))], cods := [(false, (.sl (.int .i64)))], pre := f118_pre, fn := f118, uq := true, total := false }
def f118_E : Env := []
def f118_A : Anns := { loops := [(1048576, { tms := [(0, .keep), (3, .data false (.int .i64)), (9, .keep), (10, .keep), (11, .data false (.int .i64))], obs := [], fz := [] }),
  (1048578, { tms := [(6, .ref 1109176357893), (25, .keep), (26, .keep), (27, .data false (.int .i64))], obs := [(1109176357893, .arr (.uniq) (.int .i64))], fz := [] })], own := [1109176357891, 1109176357896] }
theorem f118_run (a0 : List (List Int)) (K : (List Int) → Prop) : runU Tryz.prog f118_E f118_A 6 Tryz.f118 f118_e.doms f118_e.cods a0 K =
    (br (lenOk (a0.length))
    (LoopP (V := Int × Int × Unit) (fun again v => (fun (again1 : Int → Int → Prop) (v1_0 : Int) (v1_1 : Int) =>
    br (decide (v1_1 < ((a0.length) : Int)))
    (br (decide (0 ≤ v1_1) && decide (v1_1 < ((a0.length) : Int)))
    (br (lenOk ((a0.getD v1_1.toNat []).length))
    (br (decide ((IntKind.i64.wrap (v1_0 + (((a0.getD v1_1.toNat []).length) : Int))) < 0))
    (False)
    (again1 (IntKind.i64.wrap (v1_0 + (((a0.getD v1_1.toNat []).length) : Int))) (IntKind.i64.wrap (v1_1 + 1))))
    True)
    False)
    (br (decide (v1_0 < 0))
    (False)
    (br (decide ((IntKind.i64.wrap (v1_0 - 0)) > 0))
    (br (decide (0 < (IntKind.i64.wrap (v1_0 - 0))) && roomOk ((IntKind.i64.wrap (v1_0 - 0)).toNat) 8)
    (br (lenOk (a0.length))
    (LoopP (V := Int × List Int × Unit) (fun again v => (fun (again2 : Int → List Int → Prop) (v2_0 : Int) (v2_1 : List Int) =>
    br (decide (v2_0 < ((a0.length) : Int)))
    (br (decide (0 ≤ v2_0) && decide (v2_0 < ((a0.length) : Int)))
    (br (roomOk ((v2_1.length) + ((a0.getD v2_0.toNat []).length)) 8)
    (again2 (IntKind.i64.wrap (v2_0 + 1)) (v2_1 ++ (a0.getD v2_0.toNat [])))
    False)
    False)
    (K v2_1))
    (fun v2_0 v2_1 => again (v2_0, v2_1, ())) v.1 v.2.1) (0, ([] : List Int), ()))
    True)
    False)
    (br (lenOk (a0.length))
    (LoopP (V := Int × List Int × Unit) (fun again v => (fun (again3 : Int → List Int → Prop) (v3_0 : Int) (v3_1 : List Int) =>
    br (decide (v3_0 < ((a0.length) : Int)))
    (br (decide (0 ≤ v3_0) && decide (v3_0 < ((a0.length) : Int)))
    (br (roomOk ((v3_1.length) + ((a0.getD v3_0.toNat []).length)) 8)
    (again3 (IntKind.i64.wrap (v3_0 + 1)) (v3_1 ++ (a0.getD v3_0.toNat [])))
    False)
    False)
    (K v3_1))
    (fun v3_0 v3_1 => again (v3_0, v3_1, ())) v.1 v.2.1) (0, ([] : List Int), ()))
    True))))
    (fun v1_0 v1_1 => again (v1_0, v1_1, ())) v.1 v.2.1) (0, 0, ()))
    True) := by kernel_rfl
theorem f118_t (a0 : List (List Int)) (hpre : f118_pre a0) (K : (List Int) → Prop) (hK : ∀ y : List Int, y = f118 a0 → K y) : RunU Tryz.prog f118_E f118_A 6 Tryz.f118 f118_e.doms f118_e.cods a0 K := by
  refine ⟨?_⟩
  rw [f118_run a0 K]
  obtain ⟨h1, h2⟩ := hpre
  rw [br_true_]
  intro _
  have two : ∀ n : Int, LoopP (V := Int × List Int × Unit) (fun again v => br (decide (v.1 < (a0.length : Int)))
      (br (decide (0 ≤ v.1) && decide (v.1 < (a0.length : Int))) (br (roomOk (v.2.1.length + (a0.getD v.1.toNat []).length) 8) (again (IntKind.i64.wrap (v.1 + 1), v.2.1 ++ a0.getD v.1.toNat [], ())) False) False) (K v.2.1)) (0, [], ()) := fun _ => by
    refine LoopP.up a0.length (fun i v => v.1 = (a0.take i.toNat).flatten) (fun again i v hi0 hn hI hag => ?_) (by omega) rfl
    obtain ⟨xs, u⟩ := v
    have hI : xs = (a0.take i.toNat).flatten := hI
    subst hI
    dsimp only
    rw [br_dec]
    refine ⟨fun hi => ?_, fun hi => hK _ ?_⟩
    · have hil : i.toNat < a0.length := by omega
      have e := flat_take a0 hil
      have hle := flat_le a0 (i.toNat + 1)
      rw [e, List.length_append] at hle
      rw [br_false_, br_false_, roomOk_iff, wr (by omega) (by omega)]
      refine ⟨by simp; omega, by omega, hag (_, ()) hi ?_⟩
      rw [show (i + 1).toNat = i.toNat + 1 by omega, e]
    · rw [List.take_of_length_le (by omega)]
      rfl
  refine LoopP.of (fun q : Int × Int × Unit => (0 ≤ q.2.1 ∧ q.2.1 ≤ (a0.length : Int)) ∧ q.1 = (((a0.take q.2.1.toNat).flatten.length : Nat) : Int)) (fun q => ((a0.length : Int) - q.2.1).toNat) (fun again q hq hag => ?_) ⟨⟨by simp, by simp⟩, by simp⟩
  obtain ⟨s, i, u⟩ := q
  obtain ⟨⟨hi0, hi1⟩, hs⟩ := hq
  simp only at hi0 hi1 hs
  dsimp only
  have hle := flat_le a0 i.toNat
  rw [br_dec]
  refine ⟨fun hi => ?_, fun hi => ?_⟩
  · have hil : i.toNat < a0.length := by omega
    have e := flat_take a0 hil
    have hle2 := flat_le a0 (i.toNat + 1)
    rw [e, List.length_append] at hle2
    rw [br_false_]
    refine ⟨by simp; omega, ?_⟩
    rw [br_true_]
    intro _
    rw [wr (n := s + _) (by omega) (by omega), wr (n := i + 1) (by omega) (by omega), br_dec]
    refine ⟨fun h => by omega, fun _ => hag (_, i + 1, ()) ⟨⟨by simp only; omega, by simp only; omega⟩, ?_⟩ (by simp only; omega)⟩
    simp only
    rw [show (i + 1).toNat = i.toNat + 1 by omega, e, List.length_append, hs]
    push_cast
    rfl
  · rw [br_dec]
    refine ⟨fun h => by omega, fun _ => ?_⟩
    rw [wr (n := s - 0) (by omega) (by omega), br_dec]
    refine ⟨fun hpos => ?_, fun _ => ?_⟩
    · rw [br_false_, Bool.and_eq_true, roomOk_iff]
      refine ⟨⟨by simpa using hpos, by omega⟩, ?_⟩
      rw [br_true_]
      intro _
      exact two 0
    · rw [br_true_]
      intro _
      exact two 0
theorem f118_fn : f118_e.fn = f118 := rfl
theorem f118_ok : EntryOK Tryz.prog 118 f118_e := by
  refine entryFU progOK (EnvOK.nil) (A := f118_A) (d := 6) Tryz.func118 rfl rfl rfl (fun h => by cases h) fun x hpre => ?_
  exact f118_t x hpre _ fun _ h => h.trans (congrFun f118_fn.symm _)
end Go.Proofs.YtglokajinehbmaaGreat
end

section
namespace Go.Proofs.YtglokajinehbmaaGreat
open Go Go.Pi Go.RowKit
set_option maxRecDepth 100000
set_option linter.unusedVariables false
set_option linter.unusedSimpArgs false

def f119 (l : List Int) : List Int := l
def f119_e : Entry := { doms := [(false, (.sl (.int .i64)))], cods := [(false, (.sl (.int .i64)))], pre := fun _ => True, fn := f119, uq := false, total := true, ex := true }
def f119_E : Env := []
def f119_A : Anns := { loops := [], own := [] }
theorem f119_run (a0 : List Int) (K : (List Int) → Prop) : runX Tryz.prog f119_E f119_A 6 Tryz.f119 f119_e.doms f119_e.cods a0 K =
    (br (lenOk (a0.length))
    (br (lenOk (a0.length))
    (br (decide (((a0.length) : Int) = ((a0.length) : Int) ∧ ((a0.length) : Int) = ((a0.length) : Int)))
    (K a0)
    False)
    True)
    True) := by kernel_rfl
theorem f119_t (a0 : List Int) (K : (List Int) → Prop) (hK : ∀ y : List Int, y = f119 a0 → K y) : RunX Tryz.prog f119_E f119_A 6 Tryz.f119 f119_e.doms f119_e.cods a0 K := by
  refine ⟨?_⟩
  rw [f119_run a0 K]
  simp only [br_true_, br_false_, decide_eq_true_eq, and_self, true_and]
  exact fun _ _ => hK _ rfl
theorem f119_fn : f119_e.fn = f119 := rfl
theorem f119_ok : EntryOK Tryz.prog 119 f119_e := by
  refine entryFX progOK (EnvOK.nil) (A := f119_A) (d := 6) Tryz.func119 rfl rfl rfl (fun _ _ => trivial) fun x hpre => ?_
  exact f119_t x _ fun _ h => h.trans (congrFun f119_fn.symm _)
end Go.Proofs.YtglokajinehbmaaGreat
end
