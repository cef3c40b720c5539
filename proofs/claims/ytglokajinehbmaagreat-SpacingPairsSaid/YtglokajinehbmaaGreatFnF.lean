/- What functions of the program compute, each proved once, part 6. -/
import Derived.Test.YtglokajinehbmaaGreatFnD
import Derived.Test.YtglokajinehbmaaGreatFnB
import Derived.Test.YtglokajinehbmaaGreatPiD
import Derived.Test.YtglokajinehbmaaGreatFnA
import Derived.Test.YtglokajinehbmaaGreatFnE

section
namespace Go.Proofs.YtglokajinehbmaaGreat
set_option linter.unusedVariables false
set_option linter.unusedSimpArgs false
open Go Go.Pi
def growG {S : Type} (leaf : List Int → S → (S → Prop) → Prop) : Nat → List Int → List Int → S → (S → Prop) → Prop
  | 0, begun, rest, s, K => br (lenOk (rest.length)) (br (((rest.length) : Int) == 0)
    (leaf begun s K)
    (br (lenOk (rest.length)) (LoopP (V := Int × Unit) (fun again v =>
      br (decide (v.1 < ((rest.length) : Int)))
      (br (decide (0 ≤ v.1) && decide (v.1 < ((rest.length) : Int)))
      (br (decide ((0 : Int) ≤ 0 ∧ 0 ≤ v.1 ∧ v.1 ≤ ((rest.length) : Int)))
      (br (decide ((0 : Int) ≤ (IntKind.i64.wrap (v.1 + 1)) ∧ (IntKind.i64.wrap (v.1 + 1)) ≤ ((rest.length) : Int) ∧ ((rest.length) : Int) ≤ ((rest.length) : Int)))
      (f118_pre ([((rest.take v.1.toNat).drop 0), ((rest.take (((rest.length) : Int).toNat)).drop ((IntKind.i64.wrap (v.1 + 1)).toNat))] : List (List Int)) ∧
      br (roomOk (((f119 begun).length) + 1) 8)
      (False)
      False)
      False)
      False)
      False)
      (K s))
      (0, ())) True)) True
  | n + 1, begun, rest, s, K => br (lenOk (rest.length)) (br (((rest.length) : Int) == 0)
    (leaf begun s K)
    (br (lenOk (rest.length)) (LoopP (V := Int × S) (fun again v =>
      br (decide (v.1 < ((rest.length) : Int)))
      (br (decide (0 ≤ v.1) && decide (v.1 < ((rest.length) : Int)))
      (br (decide ((0 : Int) ≤ 0 ∧ 0 ≤ v.1 ∧ v.1 ≤ ((rest.length) : Int)))
      (br (decide ((0 : Int) ≤ (IntKind.i64.wrap (v.1 + 1)) ∧ (IntKind.i64.wrap (v.1 + 1)) ≤ ((rest.length) : Int) ∧ ((rest.length) : Int) ≤ ((rest.length) : Int)))
      (f118_pre ([((rest.take v.1.toNat).drop 0), ((rest.take (((rest.length) : Int).toNat)).drop ((IntKind.i64.wrap (v.1 + 1)).toNat))] : List (List Int)) ∧
      br (roomOk (((f119 begun).length) + 1) 8)
      (growG leaf n ((f119 begun) ++ ([(rest.getD v.1.toNat 0)] : List Int)) (f118 ([((rest.take v.1.toNat).drop 0), ((rest.take (((rest.length) : Int).toNat)).drop ((IntKind.i64.wrap (v.1 + 1)).toNat))] : List (List Int))) v.2 (fun s => again (IntKind.i64.wrap (v.1 + 1), s)))
      False)
      False)
      False)
      False)
      (K v.2))
      (0, s)) True)) True
theorem growG_ok {S : Type} {leaf : List Int → S → (S → Prop) → Prop} (V : Int → Prop) (I : List (List Int) → S → Prop)
    (hleaf : ∀ (done : List (List Int)) (o : List Int) (s : S) (K : S → Prop), I done s → (∀ a ∈ o, V a) → o.length ≤ 50 → (∀ s', I (done ++ [o]) s' → K s') → leaf o s K) :
    ∀ (n : Nat) (begun rest : List Int) (s : S) (K : S → Prop) (done : List (List Int)), rest.length ≤ n → (∀ a ∈ begun, V a) → (∀ a ∈ rest, V a) → begun.length + rest.length ≤ 50 → I done s →
      (∀ s', I (done ++ (perms n rest).map (begun ++ ·)) s' → K s') → growG leaf n begun rest s K
  | 0, begun, rest, s, K, done, h0, hb, hr, hl, hI, hK => by
    have : rest = [] := List.length_eq_zero_iff.1 (by omega)
    subst this
    unfold growG
    rw [br_true_]
    intro _
    exact hleaf done begun s K hI hb (by simp at hl; omega) fun s' e => hK s' (by simpa [perms] using e)
  | n + 1, begun, rest, s, K, done, h0, hb, hr, hl, hI, hK => by
    unfold growG
    rw [br_true_]
    intro _
    rw [br_both]
    refine ⟨fun h => ?_, fun h => ?_⟩
    · have : rest = [] := List.length_eq_zero_iff.1 (by have : ((rest.length : Nat) : Int) = 0 := by simpa using h
                                                        omega)
      subst this
      exact hleaf done begun s K hI hb (by simp at hl; omega) fun s' e => hK s' (by simpa [perms] using e)
    · have hne : rest.length ≠ 0 := fun hh => by simp [hh] at h
      rw [br_true_]
      intro _
      rw [perms_to hne] at hK
      refine LoopP.of (fun q : Int × S => ∃ i : Nat, i ≤ rest.length ∧ q.1 = (i : Int) ∧ I (done ++ (permsTo n rest i).map (begun ++ ·)) q.2) (fun q => ((rest.length : Int) - q.1).toNat) (fun again q hq hag => ?_) ⟨0, by omega, rfl, by simpa [permsTo_zero] using hI⟩
      obtain ⟨ii, s1⟩ := q
      obtain ⟨i, hi, e1, e2⟩ := hq
      simp only at e1 e2
      subst e1
      dsimp only
      rw [br_dec]
      refine ⟨fun hlt => ?_, fun hlt => ?_⟩
      · have hlt : i < rest.length := by omega
        have w1 : IntKind.i64.wrap ((i : Int) + 1) = (i : Int) + 1 := wr (by omega) (by omega)
        have n1 : ((i : Int) + 1).toNat = i + 1 := by omega
        simp only [w1, n1, Int.toNat_natCast]
        rw [br_false_]
        refine ⟨by rw [Bool.and_eq_true, decide_eq_true_iff, decide_eq_true_iff]; exact ⟨by omega, by omega⟩, ?_⟩
        rw [br_false_]
        refine ⟨decide_eq_true (by omega), ?_⟩
        rw [br_false_]
        refine ⟨decide_eq_true (by omega), ?_⟩
        have hfl := flat_two rest i
        have hol := outAt_len hlt
        refine ⟨⟨by simp, by rw [hfl, hol]; omega⟩, ?_⟩
        have e128 : f119 begun = begun := rfl
        have e127 : f118 [(rest.take i).drop 0, (rest.take rest.length).drop (i + 1)] = outAt rest i := hfl
        rw [e128, e127, br_false_, roomOk_iff]
        refine ⟨by omega, ?_⟩
        have hai : V (rest.getD i 0) := hr _ (by rw [getD_lt hlt]; exact List.getElem_mem _)
        refine growG_ok V I hleaf n _ _ _ _ (done ++ (permsTo n rest i).map (begun ++ ·)) (by rw [hol]; omega) (fun a ha => ?_) (fun a ha => hr a (outAt_mem ha)) (by rw [List.length_append, List.length_singleton, hol]; omega) e2 (fun r er => ?_)
        · rcases List.mem_append.1 ha with ha | ha
          · exact hb a ha
          · simp only [List.mem_singleton] at ha
            rw [ha]
            exact hai
        · refine hag (_, _) ⟨i + 1, by omega, by simp only; omega, ?_⟩ (by simp only; omega)
          simp only
          rw [permsTo_succ, List.map_append, ← List.append_assoc, List.map_map]
          have : ((begun ++ ·) ∘ (rest.getD i 0 :: ·)) = fun o => (begun ++ [rest.getD i 0]) ++ o := by
            funext o
            simp
          rw [this]
          exact er
      · have : i = rest.length := by omega
        subst this
        exact hK s1 e2
end Go.Proofs.YtglokajinehbmaaGreat
end

section
namespace Go.Proofs.YtglokajinehbmaaGreat
open Go Go.Pi Go.RowKit
set_option maxRecDepth 100000
set_option linter.unusedVariables false
set_option linter.unusedSimpArgs false

def f65 (x : List (Int × Int) × Int) : Bool := hasS x.1 x.2
def f65_e : Entry := { doms := [(false, (.sl (.pair (.int .i64) (.int .i64)))), (false, (.int .i64))], cods := [(false, .bool)], pre := fun _ => True, fn := f65, uq := false, total := true }
def f65_E : Env := [(89, f89_e)]
def f65_A : Anns := { loops := [(1048576, { tms := [(0, .keep), (1, .keep), (5, .data false (.int .i64))], obs := [], fz := [] })], own := [] }
theorem f65_run (a0 : List (Int × Int)) (a1 : Int) (K : Bool → Prop) : runF Tryz.prog f65_E f65_A 6 Tryz.f65 f65_e.doms f65_e.cods (a0, a1) K =
    (LoopP (V := Int × Unit) (fun again v => (fun (again1 : Int → Prop) (v1_0 : Int) =>
    br (lenOk (a0.length))
    (br (decide (v1_0 < ((a0.length) : Int)))
    (br (decide (0 ≤ v1_0) && decide (v1_0 < ((a0.length) : Int)))
    (br ((a0.getD v1_0.toNat (0, 0)).1 == a1)
    (K true)
    (again1 (IntKind.i64.wrap (v1_0 + 1))))
    False)
    (K false))
    True)
    (fun v1_0 => again (v1_0, ())) v.1) (0, ())) := by kernel_rfl
theorem f65_t (a0 : List (Int × Int)) (a1 : Int) (K : Bool → Prop) (hK : ∀ y : Bool, y = f65 (a0, a1) → K y) : RunF Tryz.prog f65_E f65_A 6 Tryz.f65 f65_e.doms f65_e.cods (a0, a1) K := by
  refine ⟨?_⟩
  rw [f65_run a0 a1 K]
  refine LoopP.up a0.length (fun i _ => ∀ x ∈ a0.take i.toNat, (x.1 == a1) = false) (fun again i v hi0 hn hI hag => ?_) (by omega) all_zero
  dsimp only
  rw [br_true_, lenOk_iff]
  intro hl
  rw [br_dec]
  refine ⟨fun hi => ?_, fun hi => hK _ ?_⟩
  · have hil : i.toNat < a0.length := by omega
    rw [br_false_]
    refine ⟨by simp; omega, ?_⟩
    rw [br_both]
    refine ⟨fun h => hK _ ?_, fun h => ?_⟩
    · have : hasS a0 a1 = true := List.any_eq_true.2 ⟨_, List.getElem_mem hil, by rw [← getD_lt (d := (0, 0)) hil]; exact h⟩
      rw [f65, this]
    · rw [wr (n := i + 1) (by omega) (by omega)]
      exact hag () hi (all_step (d := (0, 0)) hi0 hi hI h)
  · have hall := all_done hi hI
    unfold f65 hasS
    symm
    rw [← Bool.not_eq_true, List.any_eq_true]
    rintro ⟨x, hx, he⟩
    rw [hall x hx] at he
    cases he
theorem f65_fn : f65_e.fn = f65 := rfl
theorem f65_ok : EntryOK Tryz.prog 65 f65_e := by
  refine entryF progOK (EnvOK.cons f89_ok (EnvOK.nil)) (A := f65_A) (d := 6) Tryz.func65 rfl rfl rfl rfl (fun _ _ => trivial) fun x hpre => ?_
  obtain ⟨a0, a1⟩ := x
  exact f65_t a0 a1 _ fun _ h => h.trans (congrFun f65_fn.symm _)
end Go.Proofs.YtglokajinehbmaaGreat
end

section
namespace Go.Proofs.YtglokajinehbmaaGreat
open Go Go.Pi Go.RowKit
set_option maxRecDepth 100000
set_option linter.unusedVariables false
set_option linter.unusedSimpArgs false

def slot1 (p : Prob) (b : List (Int × Int)) (s : Int × Int) : Int := if ¬ (0 ≤ s.1 ∧ s.1 ≤ (p.2.1.length : Int) - 1) then 6 else if hasS b s.1 = true then 21 else 0
def f108 (x : ((List (List Int) × List (List Int)) × List (ByteArray × Int × Int × Int × Int) × List Int) × List (Int × Int) × Int × Int) : Int := slot1 x.1 x.2.1 x.2.2
def f108_pre (x : ((List (List Int) × List (List Int)) × List (ByteArray × Int × Int × Int × Int) × List Int) × List (Int × Int) × Int × Int) : Prop := x.1.2.1.length ≤ 1000
def f108_e : Entry := { doms := [(true, (.pair (.pair (.sl (.sl (.int .i64))) (.sl (.sl (.int .i64)))) (.pair (.sl (.pair .str (.pair (.int .i64) (.pair (.int .i64) (.pair (.int .i64) (.int .i64)))))) (.sl (.int .i64))))), (false, (.sl (.pair (.int .i64) (.int .i64)))), (true, (.pair (.int .i64) (.int .i64)))], cods := [(false, (.int .i64))], pre := f108_pre, fn := f108, uq := false, total := false }
def f108_E : Env := [(39, f39_e), (42, f42_e), (43, f43_e), (89, f89_e), (70, f70_e), (120, f120_e)]
def f108_A : Anns := { loops := [], own := [] }
theorem f108_run (a0 : (List (List Int) × List (List Int)) × List (ByteArray × Int × Int × Int × Int) × List Int) (a1 : List (Int × Int)) (a2 : Int × Int) (K : Int → Prop) : runF Tryz.prog f108_E f108_A 6 Tryz.f108 f108_e.doms f108_e.cods (a0, a1, a2) K =
    (br (lenOk (a0.2.1.length))
    (K (f42 ([(f43 ((f39 (a2.1, (0, (IntKind.i64.wrap (((a0.2.1.length) : Int) - 1))))), 6)), (f43 ((!(f89 (a1, a2.1))), 21))] : List Int)))
    True) := by kernel_rfl
theorem f108_t (a0 : (List (List Int) × List (List Int)) × List (ByteArray × Int × Int × Int × Int) × List Int) (a1 : List (Int × Int)) (a2 : Int × Int) (hpre : f108_pre (a0, a1, a2)) (K : Int → Prop) (hK : ∀ y : Int, y = f108 (a0, a1, a2) → K y) : RunF Tryz.prog f108_E f108_A 6 Tryz.f108 f108_e.doms f108_e.cods (a0, a1, a2) K := by
  refine ⟨?_⟩
  rw [f108_run a0 a1 a2 K]
  have h : a0.2.1.length ≤ 1000 := hpre
  rw [br_true_]
  intro _
  refine hK _ ?_
  rw [wr (n := (a0.2.1.length : Int) - 1) (by omega) (by omega), ord_errs, f108, slot1]
  simp only
  by_cases h3 : 0 ≤ a2.1 ∧ a2.1 ≤ (a0.2.1.length : Int) - 1
  · rw [f39_t1.2 h3, if_neg (show ¬ (true = false) by decide), if_neg (fun hh : ¬ (0 ≤ a2.1 ∧ a2.1 ≤ (a0.2.1.length : Int) - 1) => hh h3)]
    rfl
  · rw [f39_f1.2 h3, if_pos rfl, if_pos h3]
theorem f108_fn : f108_e.fn = f108 := rfl
theorem f108_ok : EntryOK Tryz.prog 108 f108_e := by
  refine entryF progOK (EnvOK.cons f39_ok (EnvOK.cons f42_ok (EnvOK.cons f43_ok (EnvOK.cons f89_ok (EnvOK.cons f70_ok (EnvOK.cons f120_ok (EnvOK.nil))))))) (A := f108_A) (d := 6) Tryz.func108 rfl rfl rfl rfl (fun h => by cases h) fun x hpre => ?_
  obtain ⟨a0, a1, a2⟩ := x
  exact f108_t a0 a1 a2 hpre _ fun _ h => h.trans (congrFun f108_fn.symm _)
end Go.Proofs.YtglokajinehbmaaGreat
end

section
namespace Go.Proofs.YtglokajinehbmaaGreat
open Go Go.Pi Go.RowKit
set_option maxRecDepth 100000
set_option linter.unusedVariables false
set_option linter.unusedSimpArgs false

theorem soonF_le {p : Prob} {a t : Int} : ∀ {l : List (Int × Int)}, soonF p l a ≤ t ↔ (p.2.1.getD a.toNat arrD).2.2.1 ≤ t ∧ ∀ s ∈ l, s.2 + apartF p s.1 a ≤ t := by
  intro l
  unfold soonF
  generalize (p.2.1.getD a.toNat arrD).2.2.1 = e
  induction l generalizing e with
  | nil => simp
  | cons s r ih =>
    rw [List.foldl_cons, ih]
    constructor
    · rintro ⟨h1, h2⟩
      refine ⟨by omega, fun x hx => ?_⟩
      rcases List.mem_cons.1 hx with rfl | hx
      · omega
      · exact h2 x hx
    · rintro ⟨h1, h2⟩
      have := h2 s (.head _)
      exact ⟨by omega, fun x hx => h2 x (.tail _ hx)⟩
def slE (p : Prob) (l : List (Int × Int)) (i : Nat) : Int := if slot1 p (l.take i) (l.getD i (0, 0)) ≠ 0 then slot1 p (l.take i) (l.getD i (0, 0)) else
  if ¬ ((p.2.1.getD (l.getD i (0, 0)).1.toNat arrD).2.2.1 ≤ (l.getD i (0, 0)).2 ∧ (l.getD i (0, 0)).2 ≤ (p.2.1.getD (l.getD i (0, 0)).1.toNat arrD).2.2.2.1) then 2 else if (l.getD i (0, 0)).2 < soonF p (l.take i) (l.getD i (0, 0)).1 then 20 else 0
def slotsErr (p : Prob) (l : List (Int × Int)) : Int := (eachE l.length (slE p l)).2
theorem slot1_zero {p : Prob} {b : List (Int × Int)} {s : Int × Int} (h : slot1 p b s = 0) : inA p s.1 ∧ hasS b s.1 = false := by
  unfold slot1 at h
  split at h
  · simp at h
  · rename_i h1
    have h1 := Classical.byContradiction h1
    split at h
    · simp at h
    · rename_i h2
      exact ⟨⟨h1.1, by omega⟩, by simpa using h2⟩
theorem slE_zero {p : Prob} (hv : ProbV p) {l : List (Int × Int)} {i : Nat} (h : slE p l i = 0) : slotV p (l.getD i (0, 0)) := by
  unfold slE at h
  split at h
  · rename_i h1; exact absurd h h1
  · rename_i h1
    obtain ⟨⟨a1, a2⟩, _⟩ := slot1_zero (Classical.byContradiction h1)
    split at h
    · simp at h
    · rename_i h2
      have h2 := Classical.byContradiction h2
      obtain ⟨⟨_, b, _⟩, _⟩ := hv.arr (l.getD i (0, 0)).1.toNat (by omega)
      have b2 := b.2.1
      have b3 := b.2.2.1
      exact ⟨⟨a1, a2⟩, by omega, by omega⟩
theorem slots_valid {p : Prob} (hv : ProbV p) {l : List (Int × Int)} {i : Nat} (hi : i ≤ l.length) (h : ∀ j, j < i → slE p l j = 0) : ∀ s ∈ l.take i, slotV p s := fun s hs => by
  obtain ⟨j, hj, rfl⟩ := List.getElem_of_mem hs
  rw [List.length_take] at hj
  have := slE_zero hv (h j (by omega))
  rw [List.getElem_take]
  rwa [getD_lt (by omega)] at this
def f24 (x : ((List (List Int) × List (List Int)) × List (ByteArray × Int × Int × Int × Int) × List Int) × List (Int × Int)) : Int := slotsErr x.1 x.2
def f24_pre (x : ((List (List Int) × List (List Int)) × List (ByteArray × Int × Int × Int × Int) × List Int) × List (Int × Int)) : Prop := okP x.1
def f24_e : Entry := { doms := [(true, (.pair (.pair (.sl (.sl (.int .i64))) (.sl (.sl (.int .i64)))) (.pair (.sl (.pair .str (.pair (.int .i64) (.pair (.int .i64) (.pair (.int .i64) (.int .i64)))))) (.sl (.int .i64))))), (false, (.sl (.pair (.int .i64) (.int .i64))))], cods := [(false, (.int .i64))], pre := f24_pre, fn := f24, uq := false, total := false }
def f24_E : Env := [(25, f25_e), (65, f65_e), (66, f66_e), (108, f108_e), (103, f103_e)]
def f24_A : Anns := { loops := [(1048576, { tms := [(1, .keep), (2, .keep), (5, .data false (.int .i64))], obs := [(1048576, .keep)], fz := [] }),
  (1048578, { tms := [(1, .keep), (2, .keep), (5, .keep), (7, .data false (.int .i64))], obs := [(1048576, .keep), (1056777, .keep)], fz := [] })], own := [] }
theorem f24_run (a0 : (List (List Int) × List (List Int)) × List (ByteArray × Int × Int × Int × Int) × List Int) (a1 : List (Int × Int)) (K : Int → Prop) : runF Tryz.prog f24_E f24_A 6 Tryz.f24 f24_e.doms f24_e.cods (a0, a1) K =
    (LoopP (V := Int × Unit) (fun again v => (fun (again1 : Int → Prop) (v1_0 : Int) =>
    br (lenOk (a1.length))
    (br (decide (v1_0 < ((a1.length) : Int)))
    (br (decide (0 ≤ v1_0) && decide (v1_0 < ((a1.length) : Int)))
    (br (lenOk (a0.2.1.length))
    (br (!(f25 ((a1.getD v1_0.toNat (0, 0)).1, (0, (IntKind.i64.wrap (((a0.2.1.length) : Int) - 1))))))
    (K 6)
    (br (decide ((0 : Int) ≤ 0 ∧ 0 ≤ v1_0 ∧ v1_0 ≤ ((a1.length) : Int)))
    (br (decide (0 ≤ v1_0) && decide (v1_0 < ((a1.length) : Int)))
    (br (f65 (((a1.take v1_0.toNat).drop 0), (a1.getD v1_0.toNat (0, 0)).1))
    (K 21)
    (br (decide (0 ≤ v1_0) && decide (v1_0 < ((a1.length) : Int)))
    (br (decide (0 ≤ (a1.getD v1_0.toNat (0, 0)).1) && decide ((a1.getD v1_0.toNat (0, 0)).1 < ((a0.2.1.length) : Int)))
    (br (decide (0 ≤ v1_0) && decide (v1_0 < ((a1.length) : Int)))
    (br (!(f25 ((a1.getD v1_0.toNat (0, 0)).2, ((((a0.2.1.getD (((a1.getD v1_0.toNat (0, 0)).1).toNat) ((⟨#[]⟩ : ByteArray), (0, (0, (0, 0))))).2).2).1, ((((a0.2.1.getD (((a1.getD v1_0.toNat (0, 0)).1).toNat) ((⟨#[]⟩ : ByteArray), (0, (0, (0, 0))))).2).2).2).1))))
    (K 2)
    (LoopP (V := Int × Unit) (fun again v => (fun (again2 : Int → Prop) (v2_0 : Int) =>
    br (decide (v2_0 < v1_0))
    (br (decide (0 ≤ v1_0) && decide (v1_0 < ((a1.length) : Int)))
    (br (decide (0 ≤ v2_0) && decide (v2_0 < ((a1.length) : Int)))
    (br (decide (0 ≤ v2_0) && decide (v2_0 < ((a1.length) : Int)))
    (br (decide (0 ≤ v1_0) && decide (v1_0 < ((a1.length) : Int)))
    (f66_pre (a0, ((a1.getD v2_0.toNat (0, 0)).1, (a1.getD v1_0.toNat (0, 0)).1)) ∧
    br (decide ((a1.getD v1_0.toNat (0, 0)).2 < (IntKind.i64.wrap ((a1.getD v2_0.toNat (0, 0)).2 + (f66 (a0, ((a1.getD v2_0.toNat (0, 0)).1, (a1.getD v1_0.toNat (0, 0)).1)))))))
    (K 20)
    (again2 (IntKind.i64.wrap (v2_0 + 1))))
    False)
    False)
    False)
    False)
    (again1 (IntKind.i64.wrap (v1_0 + 1))))
    (fun v2_0 => again (v2_0, ())) v.1) (0, ())))
    False)
    False)
    False))
    False)
    False))
    True)
    False)
    (K 0))
    True)
    (fun v1_0 => again (v1_0, ())) v.1) (0, ())) := by kernel_rfl
theorem f24_t (a0 : (List (List Int) × List (List Int)) × List (ByteArray × Int × Int × Int × Int) × List Int) (a1 : List (Int × Int)) (hpre : f24_pre (a0, a1)) (K : Int → Prop) (hK : ∀ y : Int, y = f24 (a0, a1) → K y) : RunF Tryz.prog f24_E f24_A 6 Tryz.f24 f24_e.doms f24_e.cods (a0, a1) K := by
  refine ⟨?_⟩
  rw [f24_run a0 a1 K]
  have h : okP a0 := hpre
  have hv := h.v
  have h6 := hv.six
  have hd : ((⟨#[]⟩ : ByteArray), ((0 : Int), ((0 : Int), ((0 : Int), (0 : Int))))) = arrD := rfl
  simp only [hd]
  refine each_walk (n := a1.length) (e := slE a0 a1) (fun again i hi hI good => ?_)
  dsimp only
  rw [br_true_, lenOk_iff]
  intro hln
  rw [br_dec]
  refine ⟨fun hlt => ?_, fun hlt => hK _ ?_⟩
  · have hlt : i < a1.length := by omega
    have b0 : (decide (0 ≤ (i : Int)) && decide ((i : Int) < (a1.length : Int))) = true := inb (by omega) (by omega)
    rw [b0]
    simp only [Int.toNat_natCast, br_t, List.drop_zero]
    have out : ∀ n : Int, slE a0 a1 i = n → n ≠ 0 → K n := fun n e hn => hK _ (by
      have := eachE_some hlt hI (show slE a0 a1 i ≠ 0 by rw [e]; exact hn)
      rw [f24, slotsErr, this, e])
    rw [br_true_]
    intro _
    rw [wr (n := (a0.2.1.length : Int) - 1) (by omega) (by omega), br_both]
    refine ⟨fun hb => out 6 ?_ (by decide), fun hb => ?_⟩
    · have hs : slot1 a0 (a1.take i) (a1.getD i (0, 0)) = 6 := by rw [slot1, if_pos (f25_f1.1 (not_true.1 hb))]
      rw [slE, hs, if_pos (by decide)]
    have hb := f25_t1.1 (not_false_.1 hb)
    have hnn : ¬ ¬ (0 ≤ (a1.getD i (0, 0)).1 ∧ (a1.getD i (0, 0)).1 ≤ (a0.2.1.length : Int) - 1) := fun hh => hh hb
    rw [br_false_]
    refine ⟨by simp; omega, ?_⟩
    rw [br_both]
    refine ⟨fun hm => out 21 ?_ (by decide), fun hm => ?_⟩
    · have hs : slot1 a0 (a1.take i) (a1.getD i (0, 0)) = 21 := by rw [slot1, if_neg hnn, if_pos (show hasS (a1.take i) (a1.getD i (0, 0)).1 = true from hm)]
      rw [slE, hs, if_pos (by decide)]
    have hs : slot1 a0 (a1.take i) (a1.getD i (0, 0)) = 0 := by rw [slot1, if_neg hnn, if_neg (fun hh => by rw [show hasS (a1.take i) (a1.getD i (0, 0)).1 = false from hm] at hh; cases hh)]
    have hs0 : ¬ slot1 a0 (a1.take i) (a1.getD i (0, 0)) ≠ 0 := fun hh => hh hs
    rw [br_false_]
    refine ⟨inb hb.1 (by omega), ?_⟩
    rw [br_both]
    refine ⟨fun hr => out 2 (by rw [slE, if_neg hs0, if_pos (f25_f1.1 (not_true.1 hr))]) (by decide), fun hr => ?_⟩
    have hr := f25_t1.1 (not_false_.1 hr)
    have hrr : ¬ ¬ ((a0.2.1.getD (a1.getD i (0, 0)).1.toNat arrD).2.2.1 ≤ (a1.getD i (0, 0)).2 ∧ (a1.getD i (0, 0)).2 ≤ (a0.2.1.getD (a1.getD i (0, 0)).1.toNat arrD).2.2.2.1) := fun hh => hh hr
    have hval := slots_valid hv hi hI
    refine LoopP.up i (fun k _ => ∀ j < k.toNat, (a1.getD j (0, 0)).2 + apartF a0 (a1.getD j (0, 0)).1 (a1.getD i (0, 0)).1 ≤ (a1.getD i (0, 0)).2) (fun again2 k v hk0 hk1 hJ hag2 => ?_) (by omega) (fun j hj => by simp at hj)
    dsimp only
    rw [br_dec]
    refine ⟨fun hk => ?_, fun hk => ?_⟩
    · have c0 : (decide (0 ≤ k) && decide (k < (a1.length : Int))) = true := inb hk0 (by omega)
      rw [c0]
      simp only [br_t]
      have hm := hval (a1.getD k.toNat (0, 0)) (by
        rw [getD_lt (by omega)]
        exact List.mem_take_iff_getElem.2 ⟨k.toNat, by omega, rfl⟩)
      have ha : 0 ≤ (a1.getD i (0, 0)).1 ∧ (a1.getD i (0, 0)).1 < a0.2.1.length := ⟨hb.1, by omega⟩
      have hap := apartF_in hv hm.1 ha
      obtain ⟨s1, s2⟩ := hm
      refine ⟨⟨h, s1, ha⟩, ?_⟩
      have e92 : f66 (a0, (a1.getD k.toNat (0, 0)).1, (a1.getD i (0, 0)).1) = apartF a0 (a1.getD k.toNat (0, 0)).1 (a1.getD i (0, 0)).1 := rfl
      rw [br_dec, e92, wr (n := (a1.getD k.toNat (0, 0)).2 + _) (by omega) (by omega)]
      refine ⟨fun hlt2 => out 20 ?_ (by decide), fun hge => ?_⟩
      · have : (a1.getD i (0, 0)).2 < soonF a0 (a1.take i) (a1.getD i (0, 0)).1 := by
          rcases Int.lt_or_le (a1.getD i (0, 0)).2 (soonF a0 (a1.take i) (a1.getD i (0, 0)).1) with h7 | h7
          · exact h7
          · have := (soonF_le.1 h7).2 (a1.getD k.toNat (0, 0)) (by
              rw [getD_lt (by omega)]
              exact List.mem_take_iff_getElem.2 ⟨k.toNat, by omega, rfl⟩)
            omega
        rw [slE, if_neg hs0, if_neg hrr, if_pos this]
      · rw [wr (n := k + 1) (by omega) (by omega)]
        refine hag2 () hk fun j hj => ?_
        by_cases hjk : j = k.toNat
        · rw [hjk]; omega
        · exact hJ j (by omega)
    · rw [wr (n := (i : Int) + 1) (by omega) (by omega)]
      refine good hlt ?_
      have : ¬ (a1.getD i (0, 0)).2 < soonF a0 (a1.take i) (a1.getD i (0, 0)).1 := by
        have := soonF_le (p := a0) (a := (a1.getD i (0, 0)).1) (t := (a1.getD i (0, 0)).2) (l := a1.take i) |>.2 ⟨hr.1, fun s hs' => by
          obtain ⟨j, hj, rfl⟩ := List.getElem_of_mem hs'
          rw [List.length_take] at hj
          have h9 : j < i ∧ j < a1.length := by omega
          have := hJ j (by omega)
          rw [getD_lt (l := a1) h9.2] at this
          rw [List.getElem_take]
          exact this⟩
        omega
      rw [slE, if_neg hs0, if_neg hrr, if_neg this]
  · have hz := eachE_none (n := a1.length) (e := slE a0 a1) fun j hj => hI j (by omega)
    show (0 : Int) = (eachE a1.length (slE a0 a1)).2
    rw [hz]
theorem f24_fn : f24_e.fn = f24 := rfl
theorem f24_ok : EntryOK Tryz.prog 24 f24_e := by
  refine entryF progOK (EnvOK.cons f25_ok (EnvOK.cons f65_ok (EnvOK.cons f66_ok (EnvOK.cons f108_ok (EnvOK.cons f103_ok (EnvOK.nil)))))) (A := f24_A) (d := 6) Tryz.func24 rfl rfl rfl rfl (fun h => by cases h) fun x hpre => ?_
  obtain ⟨a0, a1⟩ := x
  exact f24_t a0 a1 hpre _ fun _ h => h.trans (congrFun f24_fn.symm _)
end Go.Proofs.YtglokajinehbmaaGreat
end

section
namespace Go.Proofs.YtglokajinehbmaaGreat
open Go Go.Pi Go.RowKit
set_option linter.unusedVariables false
set_option linter.unusedSimpArgs false
def gx49 (x : ((List (List Int) × List (List Int)) × List (ByteArray × Int × Int × Int × Int) × List Int) × List (Int × Int)) : Int := if slotsErr x.1 x.2 ≠ 0 then slotsErr x.1 x.2 else if x.2.length ≠ x.1.2.1.length then 10 else 0
def gx49_pre (x : ((List (List Int) × List (List Int)) × List (ByteArray × Int × Int × Int × Int) × List Int) × List (Int × Int)) : Prop := okP x.1
end Go.Proofs.YtglokajinehbmaaGreat
end

section
namespace Go.Proofs.YtglokajinehbmaaGreat
set_option linter.unusedVariables false
set_option linter.unusedSimpArgs false
open Go Go.Pi
/-! ### orders -/
theorem outAt_perm {l : List Int} {i : Nat} (h : i < l.length) : (l.getD i 0 :: outAt l i).Perm l := by
  have e := split_at (d := (0 : Int)) h
  have : (outAt l i) = l.take i ++ l.drop (i + 1) := rfl
  rw [this]
  conv => rhs; rw [e]
  exact List.perm_middle.symm
theorem perms_perm : ∀ (n : Nat) (l : List Int), l.length ≤ n → ∀ o ∈ perms n l, o.Perm l
  | 0, l, h, o, ho => by
    have : l = [] := List.length_eq_zero_iff.1 (by omega)
    subst this
    simp only [perms, List.mem_singleton] at ho
    rw [ho]
  | n + 1, l, h, o, ho => by
    simp only [perms] at ho
    split at ho
    · rename_i h0
      have : l = [] := List.length_eq_zero_iff.1 h0
      subst this
      simp only [List.mem_singleton] at ho
      rw [ho]
    · obtain ⟨i, hi, ho⟩ := List.mem_flatMap.1 ho
      have hi := List.mem_range.1 hi
      obtain ⟨r, hr, rfl⟩ := List.mem_map.1 ho
      exact ((perms_perm n _ (by rw [outAt_len hi]; omega) r hr).cons _).trans (outAt_perm hi)
theorem perms_all : ∀ (n : Nat) (l o : List Int), l.length ≤ n → o.Perm l → o ∈ perms n l
  | 0, l, o, h, ho => by
    have : l = [] := List.length_eq_zero_iff.1 (by omega)
    subst this
    rw [List.perm_nil.1 ho]
    exact List.mem_singleton.2 rfl
  | n + 1, l, o, h, ho => by
    simp only [perms]
    split
    · rename_i h0
      have : l = [] := List.length_eq_zero_iff.1 h0
      subst this
      rw [List.perm_nil.1 ho]
      exact List.mem_singleton.2 rfl
    · rename_i h0
      cases o with
      | nil => exact absurd (List.nil_perm.1 ho) (fun e => h0 (by rw [e]; rfl))
      | cons a r =>
        have ha : a ∈ l := ho.subset (.head _)
        obtain ⟨i, hi, e⟩ := List.getElem_of_mem ha
        have hg : l.getD i 0 = a := by rw [getD_lt hi, e]
        refine List.mem_flatMap.2 ⟨i, List.mem_range.2 hi, List.mem_map.2 ⟨r, ?_, by rw [hg]⟩⟩
        refine perms_all n _ r (by rw [outAt_len hi]; omega) ?_
        have h2 : (a :: r).Perm (a :: outAt l i) := ho.trans (by rw [← hg]; exact (outAt_perm hi).symm)
        exact List.Perm.cons_inv h2
/-! ### the arrivals that are left -/
theorem rest_mem {p : Prob} {fixed : List (Int × Int)} {a : Int} : a ∈ restF p fixed ↔ inA p a ∧ hasS fixed a = false := by
  constructor
  · intro h
    refine ⟨leftF_in p fixed a h, ?_⟩
    obtain ⟨j, hj, rfl⟩ := List.mem_map.1 h
    have := (List.mem_filter.1 hj).2
    simpa using this
  · rintro ⟨⟨h1, h2⟩, h3⟩
    refine List.mem_map.2 ⟨a.toNat, List.mem_filter.2 ⟨List.mem_range.2 (by omega), ?_⟩, by omega⟩
    rw [show ((a.toNat : Nat) : Int) = a by omega, h3]
    rfl
theorem nodup_cast {l : List Nat} (h : l.Nodup) : (l.map fun (j : Nat) => (j : Int)).Nodup :=
  List.Pairwise.map _ (fun a b hab e => hab (by omega)) h
theorem rest_nodup (p : Prob) (fixed : List (Int × Int)) : (restF p fixed).Nodup := by
  unfold restF leftF
  exact nodup_cast (List.Pairwise.filter _ List.nodup_range)
/-! ### slots that are placed one behind the other -/
theorem contL_at {p : Prob} : ∀ (o : List Int) (out l : List (Int × Int)), contL p out o = some l → l.take out.length = out ∧ ∀ j, j < o.length →
    l.getD (out.length + j) (0, 0) = (o.getD j 0, soonF p (l.take (out.length + j)) (o.getD j 0)) ∧ soonF p (l.take (out.length + j)) (o.getD j 0) ≤ (p.2.1.getD (o.getD j 0).toNat arrD).2.2.2.1
  | [], out, l, e => by
    simp only [contL, Option.some.injEq] at e
    subst e
    exact ⟨List.take_length, fun j hj => by simp at hj⟩
  | a :: r, out, l, e => by
    simp only [contL] at e
    split at e
    · cases e
    · rename_i ht
      obtain ⟨h1, h2⟩ := contL_at r _ l e
      have hlen : (out ++ [(a, soonF p out a)]).length = out.length + 1 := by simp
      rw [hlen] at h1 h2
      have ht0 : l.take out.length = out := by
        have := congrArg (List.take out.length) h1
        rw [List.take_take, List.take_append_of_le_length (Nat.le_refl _), List.take_length] at this
        rwa [show min out.length (out.length + 1) = out.length by omega] at this
      refine ⟨ht0, fun j hj => ?_⟩
      cases j with
      | zero =>
        simp only [Nat.add_zero, List.getD_cons_zero]
        rw [ht0]
        refine ⟨?_, by omega⟩
        have hlt : out.length < l.length := by
          have := congrArg List.length h1
          rw [List.length_take, hlen] at this
          omega
        have : (l.take (out.length + 1)).getD out.length (0, 0) = (a, soonF p out a) := by
          rw [h1]
          simp [List.getD_eq_getElem?_getD]
        rw [getD_lt (by rw [List.length_take]; omega), List.getElem_take] at this
        rw [getD_lt hlt]
        exact this
      | succ j =>
        have := h2 j (by simpa using hj)
        rw [show out.length + 1 + j = out.length + (j + 1) by omega] at this
        exact this
theorem hasS_false {l : List (Int × Int)} {a : Int} : hasS l a = false ↔ ∀ s ∈ l, s.1 ≠ a := by
  unfold hasS
  rw [List.any_eq_false]
  constructor
  · intro h s hs e
    exact h s hs (by simpa using e)
  · intro h s hs e
    exact h s hs (by simpa using e)
theorem slot1_ok {p : Prob} {b : List (Int × Int)} {s : Int × Int} : slot1 p b s = 0 ↔ inA p s.1 ∧ hasS b s.1 = false := by
  refine ⟨slot1_zero, fun ⟨⟨h1, h2⟩, h3⟩ => ?_⟩
  rw [slot1, if_neg (fun hh => hh ⟨h1, by omega⟩), if_neg (by rw [h3]; simp)]
theorem slE_ok {p : Prob} {l : List (Int × Int)} {i : Nat} : slE p l i = 0 ↔ (inA p (l.getD i (0, 0)).1 ∧ hasS (l.take i) (l.getD i (0, 0)).1 = false) ∧
    ((p.2.1.getD (l.getD i (0, 0)).1.toNat arrD).2.2.1 ≤ (l.getD i (0, 0)).2 ∧ (l.getD i (0, 0)).2 ≤ (p.2.1.getD (l.getD i (0, 0)).1.toNat arrD).2.2.2.1) ∧ soonF p (l.take i) (l.getD i (0, 0)).1 ≤ (l.getD i (0, 0)).2 := by
  unfold slE
  constructor
  · intro h
    split at h
    · rename_i h1; exact absurd h h1
    · rename_i h1
      split at h
      · simp at h
      · rename_i h2
        split at h
        · simp at h
        · rename_i h3
          exact ⟨slot1_ok.1 (Classical.byContradiction h1), Classical.byContradiction h2, by omega⟩
  · rintro ⟨h1, h2, h3⟩
    rw [if_neg (fun hh => hh (slot1_ok.2 h1)), if_neg (fun hh => hh h2), if_neg (by omega)]
theorem slots_ok {p : Prob} {l : List (Int × Int)} : slotsErr p l = 0 ↔ ∀ i, i < l.length → slE p l i = 0 :=
  ⟨fun h i hi => eachE_zero h i hi, fun h => by rw [slotsErr, eachE_none h]⟩
/-- Slots that keep the rules, and all of whose beginnings do. -/
theorem slots_take {p : Prob} {l : List (Int × Int)} (h : slotsErr p l = 0) (n : Nat) : slotsErr p (l.take n) = 0 := by
  rw [slots_ok] at h ⊢
  intro i hi
  rw [List.length_take] at hi
  have := h i (by omega)
  rw [slE_ok] at this ⊢
  have e1 : (l.take n).getD i (0, 0) = l.getD i (0, 0) := by rw [getD_lt (by rw [List.length_take]; omega), List.getElem_take, getD_lt (by omega)]
  have e2 : (l.take n).take i = l.take i := by rw [List.take_take, show min i n = i by omega]
  rw [e1, e2]
  exact this
/-- What is placed behind slots that keep the rules keeps them. -/
theorem cont_slots {p : Prob} {fixed S : List (Int × Int)} {o : List Int} (hfix : slotsErr p fixed = 0) (ho : o.Nodup) (hin : ∀ a ∈ o, inA p a ∧ hasS fixed a = false) (e : contL p fixed o = some S) (hlen : S.length = fixed.length + o.length) :
    slotsErr p S = 0 ∧ S.take fixed.length = fixed ∧ S.map (·.1) = fixed.map (·.1) ++ o := by
  obtain ⟨h1, h2⟩ := contL_at o fixed S e
  have harr : S.map (·.1) = fixed.map (·.1) ++ o := by
    apply List.ext_getElem
    · simp [hlen]
    · intro i hi1 hi2
      simp only [List.length_map] at hi1
      rw [List.getElem_map]
      rcases Nat.lt_or_ge i fixed.length with hi | hi
      · rw [List.getElem_append_left (by simpa using hi), List.getElem_map]
        have : S[i] = fixed[i] := by
          have := List.getElem_take (xs := S) (j := fixed.length) (i := i) (h := by rw [List.length_take]; omega)
          rw [← this]
          congr 1
        rw [this]
      · rw [List.getElem_append_right (by simpa using hi)]
        obtain ⟨g1, _⟩ := h2 (i - fixed.length) (by omega)
        rw [show fixed.length + (i - fixed.length) = i by omega, getD_lt hi1] at g1
        rw [g1]
        simp only [List.length_map]
        rw [getD_lt]
  refine ⟨?_, h1, harr⟩
  rw [slots_ok] at hfix ⊢
  intro i hi
  rcases Nat.lt_or_ge i fixed.length with hlt | hge
  · have := hfix i hlt
    rw [slE_ok] at this ⊢
    have e1 : S.getD i (0, 0) = fixed.getD i (0, 0) := by
      rw [getD_lt hi, getD_lt hlt]
      have := List.getElem_take (xs := S) (j := fixed.length) (i := i) (h := by rw [List.length_take]; omega)
      rw [← this]
      congr 1
    have e2 : S.take i = fixed.take i := by
      conv => rhs; rw [← h1]
      rw [List.take_take, show min i fixed.length = i by omega]
    rw [e1, e2]
    exact this
  · obtain ⟨g1, g2⟩ := h2 (i - fixed.length) (by omega)
    rw [show fixed.length + (i - fixed.length) = i by omega] at g1 g2
    have hj : i - fixed.length < o.length := by omega
    obtain ⟨b1, b2⟩ := hin (o.getD (i - fixed.length) 0) (by rw [getD_lt hj]; exact List.getElem_mem _)
    have hge2 := (soonF_le (p := p) (a := o.getD (i - fixed.length) 0) (t := soonF p (S.take i) (o.getD (i - fixed.length) 0)) (l := S.take i)).1 (Int.le_refl _)
    rw [slE_ok, g1]
    refine ⟨⟨b1, hasS_false.2 fun s hs he => ?_⟩, ⟨hge2.1, g2⟩, Int.le_refl _⟩
    obtain ⟨j, hj2, rfl⟩ := List.getElem_of_mem hs
    rw [List.length_take] at hj2
    rw [List.getElem_take] at he
    simp only at he
    have hm : (S.map (·.1))[j]'(by simp; omega) = (fixed.map (·.1) ++ o)[j]'(by rw [← harr]; simp; omega) := by
      congr 1
    rw [List.getElem_map, he] at hm
    rcases Nat.lt_or_ge j fixed.length with hjf | hjf
    · rw [List.getElem_append_left (by simpa using hjf), List.getElem_map] at hm
      exact hasS_false.1 b2 _ (List.getElem_mem hjf) hm.symm
    · rw [List.getElem_append_right (by simpa using hjf)] at hm
      simp only [List.length_map] at hm
      rw [getD_lt hj] at hm
      have := (List.getElem_inj ho).1 hm
      omega
/-! ### the best of them -/
theorem bestStep_spec (p : Prob) (fixed : List (Int × Int)) : ∀ (L : List (List Int)) (s : List (Int × Int) × Int × Bool),
    let r := L.foldl (bestStep p fixed) s
    (r.2.2 = true ↔ s.2.2 = true ∨ ∃ o ∈ L, (contF p fixed o).2 = true) ∧ (r = s ∨ ∃ o ∈ L, contF p fixed o = (r.1, true) ∧ r.2.1 = costF p r.1) ∧
    (s.2.2 = true → r.2.1 ≤ s.2.1) ∧ ∀ o ∈ L, (contF p fixed o).2 = true → r.2.1 ≤ costF p (contF p fixed o).1
  | [], s => ⟨by simp, .inl rfl, fun _ => Int.le_refl _, fun o ho => by cases ho⟩
  | a :: L, s => by
    obtain ⟨h1, h2, h3, h4⟩ := bestStep_spec p fixed L (bestStep p fixed s a)
    simp only [List.foldl_cons]
    by_cases ha : (contF p fixed a).2 = true
    · have hea : contF p fixed a = ((contF p fixed a).1, true) := Prod.ext rfl ha
      by_cases hc : s.2.2 = false ∨ costF p (contF p fixed a).1 < s.2.1
      · have e : bestStep p fixed s a = ((contF p fixed a).1, costF p (contF p fixed a).1, true) := by rw [bestStep, if_pos ha, if_pos hc]
        rw [e] at h1 h2 h3 h4 ⊢
        refine ⟨?_, ?_, ?_, ?_⟩
        · rw [h1]
          exact ⟨fun _ => .inr ⟨a, .head _, ha⟩, fun _ => .inl rfl⟩
        · rcases h2 with h2 | ⟨o, ho, h2⟩
          · rw [h2]
            exact .inr ⟨a, .head _, hea, rfl⟩
          · exact .inr ⟨o, .tail _ ho, h2⟩
        · intro hs
          have := h3 rfl
          simp only at this
          rcases hc with hc | hc
          · rw [hs] at hc; cases hc
          · omega
        · intro o ho hok
          rcases List.mem_cons.1 ho with rfl | ho
          · exact h3 rfl
          · exact h4 o ho hok
      · have e : bestStep p fixed s a = s := by rw [bestStep, if_pos ha, if_neg hc]
        rw [e] at h1 h2 h3 h4 ⊢
        have hs : s.2.2 = true := by
          cases hh : s.2.2 with
          | true => rfl
          | false => exact absurd (.inl hh) hc
        refine ⟨by rw [h1]; exact ⟨fun _ => .inl hs, fun _ => .inl hs⟩, ?_, h3, ?_⟩
        · rcases h2 with h2 | ⟨o, ho, h2⟩
          · exact .inl h2
          · exact .inr ⟨o, .tail _ ho, h2⟩
        · intro o ho hok
          rcases List.mem_cons.1 ho with rfl | ho
          · have := h3 hs
            have : ¬ costF p (contF p fixed o).1 < s.2.1 := fun hh => hc (.inr hh)
            omega
          · exact h4 o ho hok
    · have e : bestStep p fixed s a = s := by rw [bestStep, if_neg ha]
      rw [e] at h1 h2 h3 h4 ⊢
      refine ⟨?_, ?_, h3, ?_⟩
      · rw [h1]
        constructor
        · rintro (h | ⟨o, ho, h⟩)
          · exact .inl h
          · exact .inr ⟨o, .tail _ ho, h⟩
        · rintro (h | ⟨o, ho, h⟩)
          · exact .inl h
          · rcases List.mem_cons.1 ho with rfl | ho
            · exact absurd h ha
            · exact .inr ⟨o, ho, h⟩
      · rcases h2 with h2 | ⟨o, ho, h2⟩
        · exact .inl h2
        · exact .inr ⟨o, .tail _ ho, h2⟩
      · intro o ho hok
        rcases List.mem_cons.1 ho with rfl | ho
        · exact absurd hok ha
        · exact h4 o ho hok
theorem rest_len {p : Prob} (hv : ProbV p) (fixed : List (Int × Int)) : (restF p fixed).length ≤ 6 := by
  have := leftF_len p fixed p.2.1.length
  have := hv.six
  unfold restF
  omega
theorem best_none {p : Prob} {fixed : List (Int × Int)} (h : (bestF p fixed).2.2 = false) : bestF p fixed = ([], 0, false) ∧ ∀ o ∈ perms 8 (restF p fixed), (contF p fixed o).2 = false := by
  obtain ⟨h1, h2, _, h4⟩ := bestStep_spec p fixed (perms 8 (restF p fixed)) ([], 0, false)
  have hno : ∀ o ∈ perms 8 (restF p fixed), (contF p fixed o).2 = false := fun o ho => by
    cases hc : (contF p fixed o).2 with
    | false => rfl
    | true =>
      have := h1.2 (.inr ⟨o, ho, hc⟩)
      have e : bestF p fixed = (perms 8 (restF p fixed)).foldl (bestStep p fixed) ([], 0, false) := rfl
      rw [← e, h] at this
      cases this
  refine ⟨?_, hno⟩
  rcases h2 with h2 | ⟨o, ho, h2, _⟩
  · exact h2
  · have := hno o ho
    rw [h2] at this
    cases this
/-- The best plan is one of those that can be placed, and none of them costs less. -/
theorem best_some {p : Prob} {fixed : List (Int × Int)} (h : (bestF p fixed).2.2 = true) : (∃ o ∈ perms 8 (restF p fixed), contF p fixed o = ((bestF p fixed).1, true)) ∧ (bestF p fixed).2.1 = costF p (bestF p fixed).1 ∧
    ∀ o ∈ perms 8 (restF p fixed), (contF p fixed o).2 = true → (bestF p fixed).2.1 ≤ costF p (contF p fixed o).1 := by
  obtain ⟨_, h2, _, h4⟩ := bestStep_spec p fixed (perms 8 (restF p fixed)) ([], 0, false)
  have e : bestF p fixed = (perms 8 (restF p fixed)).foldl (bestStep p fixed) ([], 0, false) := rfl
  rw [← e] at h2 h4
  rcases h2 with h2 | ⟨o, ho, h2, h3⟩
  · rw [h2] at h; cases h
  · exact ⟨⟨o, ho, h2⟩, h3, h4⟩
theorem best_found {p : Prob} {fixed : List (Int × Int)} {o : List Int} (ho : o ∈ perms 8 (restF p fixed)) (h : (contF p fixed o).2 = true) : (bestF p fixed).2.2 = true := by
  cases hb : (bestF p fixed).2.2 with
  | true => rfl
  | false =>
    have := (best_none hb).2 o ho
    rw [h] at this
    cases this
/-- The arrivals of slots that keep the rules. -/
theorem slots_nodup {p : Prob} {l : List (Int × Int)} (h : slotsErr p l = 0) : (l.map (·.1)).Nodup ∧ ∀ a ∈ l.map (·.1), inA p a := by
  rw [slots_ok] at h
  constructor
  · refine List.pairwise_iff_getElem.2 fun i j hi hj hij e => ?_
    simp only [List.length_map] at hi hj
    rw [List.getElem_map, List.getElem_map] at e
    have h1 := (slE_ok.1 (h j hj)).1.2
    rw [getD_lt hj] at h1
    exact hasS_false.1 h1 l[i] (List.mem_take_iff_getElem.2 ⟨i, by omega, rfl⟩) e
  · intro a ha
    obtain ⟨s, hs, rfl⟩ := List.mem_map.1 ha
    obtain ⟨i, hi, rfl⟩ := List.getElem_of_mem hs
    have := (slE_ok.1 (h i hi)).1.1
    rwa [getD_lt hi] at this
theorem hasS_iff {l : List (Int × Int)} {a : Int} : hasS l a = true ↔ a ∈ l.map (·.1) := by
  unfold hasS
  simp only [List.any_eq_true, List.mem_map, beq_iff_eq]
/-- How many arrivals are left. -/
theorem rest_count {p : Prob} {fixed : List (Int × Int)} (h : slotsErr p fixed = 0) : fixed.length + (restF p fixed).length = p.2.1.length := by
  obtain ⟨h1, h2⟩ := slots_nodup h
  have hall : (fixed.map (·.1) ++ restF p fixed).Perm ((List.range p.2.1.length).map fun (j : Nat) => (j : Int)) := by
    refine (List.perm_ext_iff_of_nodup ?_ ?_).2 fun a => ?_
    · refine List.nodup_append.2 ⟨h1, rest_nodup p fixed, fun a ha b hb e => ?_⟩
      subst e
      have := (rest_mem.1 hb).2
      rw [hasS_iff.2 ha] at this
      cases this
    · exact nodup_cast List.nodup_range
    · constructor
      · intro ha
        have : inA p a := by
          rcases List.mem_append.1 ha with ha | ha
          · exact h2 a ha
          · exact (rest_mem.1 ha).1
        obtain ⟨g1, g2⟩ := this
        exact List.mem_map.2 ⟨a.toNat, List.mem_range.2 (by omega), by omega⟩
      · intro ha
        obtain ⟨j, hj, rfl⟩ := List.mem_map.1 ha
        have hj := List.mem_range.1 hj
        cases hh : hasS fixed (j : Int) with
        | true => exact List.mem_append_left _ (hasS_iff.1 hh)
        | false => exact List.mem_append_right _ (rest_mem.2 ⟨⟨by omega, by omega⟩, hh⟩)
  have := hall.length_eq
  simpa using this
/-- The best plan after fixed slots keeps the rules, begins with them, and is whole. -/
theorem best_slots {p : Prob} {fixed : List (Int × Int)} (hf : FixV p fixed) (hs : slotsErr p fixed = 0) (h : (bestF p fixed).2.2 = true) :
    slotsErr p (bestF p fixed).1 = 0 ∧ (bestF p fixed).1.take fixed.length = fixed ∧ (bestF p fixed).1.length = p.2.1.length := by
  obtain ⟨⟨o, ho, e⟩, _, _⟩ := best_some h
  have hv := hf.ok.v
  have h6 := rest_len hv fixed
  have hp := perms_perm 8 _ (by omega) o ho
  have hn : o.Nodup := hp.nodup_iff.2 (rest_nodup p fixed)
  have hin : ∀ a ∈ o, inA p a ∧ hasS fixed a = false := fun a ha => rest_mem.1 (hp.subset ha)
  have hc := rest_count hs
  have hl := hp.length_eq
  have ec : contL p fixed o = some (bestF p fixed).1 := by
    unfold contF at e
    cases h' : contL p fixed o with
    | none => rw [h'] at e; exact absurd (congrArg Prod.snd e) (by simp)
    | some l => rw [h'] at e; exact congrArg some (congrArg Prod.fst e)
  obtain ⟨_, v2⟩ := contL_ok hv o fixed hf.slots (fun a ha => (hin a ha).1) _ ec
  obtain ⟨s1, s2, _⟩ := cont_slots hs hn hin ec v2
  exact ⟨s1, s2, by omega⟩
end Go.Proofs.YtglokajinehbmaaGreat
end

section
namespace Go.Proofs.YtglokajinehbmaaGreat
set_option linter.unusedVariables false
set_option linter.unusedSimpArgs false
open Go Go.Pi
/-- The same arrivals, none of them later. -/
structure Soon (S T : List (Int × Int)) : Prop where
  len : S.length = T.length
  at_ : ∀ i, i < T.length → (S.getD i (0, 0)).1 = (T.getD i (0, 0)).1 ∧ (S.getD i (0, 0)).2 ≤ (T.getD i (0, 0)).2
theorem Soon.refl (S : List (Int × Int)) : Soon S S := ⟨rfl, fun i hi => ⟨rfl, Int.le_refl _⟩⟩
theorem take_getD {l : List (Int × Int)} {n i : Nat} (hi : i < n) (hl : i < l.length) : (l.take n).getD i (0, 0) = l.getD i (0, 0) := by
  rw [getD_lt (by rw [List.length_take]; omega), List.getElem_take, getD_lt hl]
theorem slotV_of {p : Prob} (hv : ProbV p) {l : List (Int × Int)} (h : slotsErr p l = 0) : ∀ s ∈ l, slotV p s := fun s hs => by
  have := slots_valid hv (Nat.le_refl l.length) (fun j hj => eachE_zero h j hj) s
  rw [List.take_length] at this
  exact this hs
theorem FixV.of {p : Prob} (hok : okP p) {l : List (Int × Int)} (h : slotsErr p l = 0) (hl : l.length ≤ 900) : FixV p l := ⟨hok, slotV_of hok.v h, hl⟩
/-- Arrivals placed one behind the other come no later than in slots that keep the rules. -/
theorem cont_soon {p : Prob} {T : List (Int × Int)} (hT : slotsErr p T = 0) : ∀ (d : Nat) (out : List (Int × Int)), out.length + d = T.length → Soon out (T.take out.length) →
    ∃ S, contL p out ((T.drop out.length).map (·.1)) = some S ∧ Soon S T
  | 0, out, hd, h => by
    have hl : out.length = T.length := by omega
    refine ⟨out, ?_, ?_⟩
    · rw [hl, List.drop_length]
      rfl
    · rw [hl, List.take_length] at h
      exact h
  | d + 1, out, hd, h => by
    have hlt : out.length < T.length := by omega
    have e : T.drop out.length = T.getD out.length (0, 0) :: T.drop (out.length + 1) := by
      rw [getD_lt hlt]
      exact List.drop_eq_getElem_cons hlt
    have hk := slE_ok.1 (slots_ok.1 hT out.length hlt)
    have h3 := soonF_le.1 hk.2.2
    have hle : soonF p out (T.getD out.length (0, 0)).1 ≤ (T.getD out.length (0, 0)).2 := by
      refine soonF_le.2 ⟨h3.1, fun s hs => ?_⟩
      obtain ⟨j, hj, rfl⟩ := List.getElem_of_mem hs
      obtain ⟨g1, g2⟩ := h.at_ j (by rw [List.length_take]; omega)
      rw [take_getD hj (by omega), getD_lt hj] at g1 g2
      have := h3.2 (T.getD j (0, 0)) (by rw [getD_lt (by omega)]; exact List.mem_take_iff_getElem.2 ⟨j, by omega, rfl⟩)
      rw [g1]
      omega
    have hlen : (out ++ [((T.getD out.length (0, 0)).1, soonF p out (T.getD out.length (0, 0)).1)]).length = out.length + 1 := by simp
    obtain ⟨S, hS, hs⟩ := cont_soon hT d (out ++ [((T.getD out.length (0, 0)).1, soonF p out (T.getD out.length (0, 0)).1)]) (by omega) (by
      rw [hlen]
      refine ⟨by rw [hlen, List.length_take]; omega, fun i hi => ?_⟩
      rw [List.length_take] at hi
      rw [take_getD (by omega) (by omega)]
      rcases Nat.lt_or_ge i out.length with h1 | h1
      · obtain ⟨g1, g2⟩ := h.at_ i (by rw [List.length_take]; omega)
        rw [take_getD h1 (by omega)] at g1 g2
        rw [getD_lt (by omega), List.getElem_append_left h1, ← getD_lt (d := (0, 0)) h1]
        exact ⟨g1, g2⟩
      · have : i = out.length := by omega
        subst this
        rw [getD_lt (by omega), List.getElem_append_right (by omega)]
        simpa using hle)
    refine ⟨S, ?_, hs⟩
    rw [hlen] at hS
    rw [e, List.map_cons, contL, if_neg (by have := hk.2.1; omega)]
    exact hS
theorem cost_soon {p : Prob} (hv : ProbV p) {S T : List (Int × Int)} (hT : ∀ s ∈ T, slotV p s) (h : Soon S T) : ∀ i, i ≤ T.length → costF p (S.take i) ≤ costF p (T.take i)
  | 0, _ => by simp [costF]
  | i + 1, hi => by
    have ih := cost_soon hv hT h i (by omega)
    have hl := h.len
    rw [costF_take p S (by omega), costF_take p T (by omega)]
    obtain ⟨g1, g2⟩ := h.at_ i (by omega)
    rw [g1]
    have ht := hT (T.getD i (0, 0)) (by rw [getD_lt (by omega)]; exact List.getElem_mem _)
    obtain ⟨⟨s1, s2⟩, _⟩ := ht
    obtain ⟨⟨_, a2, _⟩, _⟩ := hv.arr (T.getD i (0, 0)).1.toNat (by omega)
    have hc : 0 ≤ (p.2.1.getD (T.getD i (0, 0)).1.toNat arrD).2.2.2.2 := a2.2.2.2.1
    have := Int.mul_le_mul_of_nonneg_left (show (S.getD i (0, 0)).2 - (p.2.1.getD (T.getD i (0, 0)).1.toNat arrD).2.2.1 ≤ (T.getD i (0, 0)).2 - (p.2.1.getD (T.getD i (0, 0)).1.toNat arrD).2.2.1 by omega) hc
    omega
theorem cost_le {p : Prob} (hv : ProbV p) {S T : List (Int × Int)} (hT : ∀ s ∈ T, slotV p s) (h : Soon S T) : costF p S ≤ costF p T := by
  have := cost_soon hv hT h T.length (Nat.le_refl _)
  rwa [List.take_length, List.take_of_length_le (by have := h.len; omega)] at this
theorem sub_all : ∀ {l m : List Int}, l.Nodup → (∀ x ∈ l, x ∈ m) → m.length ≤ l.length → ∀ x ∈ m, x ∈ l
  | [], m, _, _, hl, x, hx => by
    have : m = [] := List.length_eq_zero_iff.1 (by simpa using hl)
    subst this
    exact hx
  | a :: r, m, hn, hs, hl, x, hx => by
    obtain ⟨h1, h2⟩ := List.nodup_cons.1 hn
    obtain ⟨m1, m2, rfl⟩ := List.append_of_mem (hs a (.head _))
    have hr : ∀ y ∈ r, y ∈ m1 ++ m2 := fun y hy => by
      have := hs y (.tail _ hy)
      rcases List.mem_append.1 this with h | h
      · exact List.mem_append_left _ h
      · rcases List.mem_cons.1 h with rfl | h
        · exact absurd hy h1
        · exact List.mem_append_right _ h
    have ih := sub_all h2 hr (by simp only [List.length_append, List.length_cons] at hl ⊢; omega)
    rcases List.mem_append.1 hx with h | h
    · exact .tail _ (ih x (List.mem_append_left _ h))
    · rcases List.mem_cons.1 h with rfl | h
      · exact .head _
      · exact .tail _ (ih x (List.mem_append_right _ h))
/-- A whole plan that is accepted. -/
structure Whole (p : Prob) (T : List (Int × Int)) : Prop where
  ok : okP p
  slots : slotsErr p T = 0
  len : T.length = p.2.1.length
theorem Whole.perm {p : Prob} {T : List (Int × Int)} (h : Whole p T) (n : Nat) : ((T.drop n).map (·.1)).Perm (restF p (T.take n)) := by
  obtain ⟨h1, h2⟩ := slots_nodup h.slots
  have e : T.map (·.1) = (T.take n).map (·.1) ++ (T.drop n).map (·.1) := by rw [← List.map_append, List.take_append_drop]
  rw [e] at h1
  obtain ⟨n1, n2, n3⟩ := List.nodup_append.1 h1
  refine (List.perm_ext_iff_of_nodup n2 (rest_nodup p _)).2 fun a => ?_
  constructor
  · intro ha
    refine rest_mem.2 ⟨h2 a (by rw [e]; exact List.mem_append_right _ ha), ?_⟩
    cases hh : hasS (T.take n) a with
    | false => rfl
    | true => exact absurd rfl (n3 a (hasS_iff.1 hh) a ha)
  · intro ha
    obtain ⟨b1, b2⟩ := rest_mem.1 ha
    have : a ∈ T.map (·.1) := by
      refine sub_all (slots_nodup h.slots).1 (m := (List.range p.2.1.length).map fun (j : Nat) => (j : Int)) (fun x hx => ?_) (by simp [h.len]) a ?_
      · have hx2 : inA p x := h2 x hx
        obtain ⟨g1, g2⟩ := hx2
        exact List.mem_map.2 ⟨x.toNat, List.mem_range.2 (by omega), by omega⟩
      obtain ⟨g1, g2⟩ := b1
      exact List.mem_map.2 ⟨a.toNat, List.mem_range.2 (by omega), by omega⟩
    rw [e] at this
    rcases List.mem_append.1 this with h' | h'
    · rw [hasS_iff.2 h'] at b2
      cases b2
    · exact h'
/-- After any of its beginnings the best plan is there, and costs no more. -/
theorem Whole.best {p : Prob} {T : List (Int × Int)} (h : Whole p T) (n : Nat) : (bestF p (T.take n)).2.2 = true ∧ (bestF p (T.take n)).2.1 ≤ costF p T := by
  have hv := h.ok.v
  have hl : (T.take n).length ≤ T.length := by rw [List.length_take]; omega
  have e1 : T.take (T.take n).length = T.take n := by
    rw [List.length_take]
    rcases Nat.lt_or_ge n T.length with h1 | h1
    · rw [show min n T.length = n by omega]
    · rw [show min n T.length = T.length by omega, List.take_length, List.take_of_length_le h1]
  have e2 : T.drop (T.take n).length = T.drop n := by
    rw [List.length_take]
    rcases Nat.lt_or_ge n T.length with h1 | h1
    · rw [show min n T.length = n by omega]
    · rw [show min n T.length = T.length by omega, List.drop_length, List.drop_eq_nil_of_le h1]
  obtain ⟨S, hS, hs⟩ := cont_soon h.slots (T.length - (T.take n).length) (T.take n) (by omega) (by rw [e1]; exact Soon.refl _)
  rw [e2] at hS
  have hm : (T.drop n).map (·.1) ∈ perms 8 (restF p (T.take n)) := perms_all 8 _ _ (by have := rest_len hv (T.take n); omega) (h.perm n)
  have hc : contF p (T.take n) ((T.drop n).map (·.1)) = (S, true) := by rw [contF, hS]
  have hb := best_found hm (by rw [hc])
  refine ⟨hb, ?_⟩
  have := (best_some hb).2.2 _ hm (by rw [hc])
  rw [hc] at this
  simp only at this
  have := cost_le hv (slotV_of hv h.slots) hs
  omega
theorem Whole.bestW {p : Prob} {T : List (Int × Int)} (h : Whole p T) (n : Nat) : Whole p (bestF p (T.take n)).1 ∧ (bestF p (T.take n)).1.take (T.take n).length = T.take n ∧ costF p (bestF p (T.take n)).1 = (bestF p (T.take n)).2.1 := by
  have hs := slots_take h.slots n
  have h6 := h.ok.v.six
  have hf : FixV p (T.take n) := FixV.of h.ok hs (by rw [List.length_take, h.len]; omega)
  obtain ⟨g1, g2, g3⟩ := best_slots hf hs (h.best n).1
  exact ⟨⟨h.ok, g1, g3⟩, g2, (best_some (h.best n).1).2.1.symm⟩
/-- Fixed later it costs no less. -/
theorem Whole.later {p : Prob} {T : List (Int × Int)} (h : Whole p T) {n m : Nat} (hnm : n ≤ m) (hm : m ≤ T.length) : (bestF p (T.take n)).2.1 ≤ (bestF p (T.take m)).2.1 := by
  obtain ⟨g1, g2, g3⟩ := h.bestW m
  have := (g1.best n).2
  have e : (bestF p (T.take m)).1.take n = T.take n := by
    have := congrArg (List.take n) g2
    rw [List.take_take, List.take_take, List.length_take] at this
    rwa [show min n (min m T.length) = n by omega, show min n m = n by omega] at this
  rw [e] at this
  omega
/-- After all of its slots it is itself. -/
theorem Whole.self {p : Prob} {T : List (Int × Int)} (h : Whole p T) : bestF p T = (T, costF p T, true) := by
  have hr : restF p T = [] := by
    have := h.perm T.length
    rw [List.drop_length, List.take_length] at this
    exact List.nil_perm.1 this
  rw [bestF, hr, perms_nil]
  rfl
/-! ### fixed slots -/
def fixN (T : List (Int × Int)) (t : Int) : Nat → Nat
  | 0 => 0
  | i + 1 => if (T.getD i (0, 0)).2 ≤ t then i + 1 else fixN T t i
theorem fixN_le (T : List (Int × Int)) (t : Int) : ∀ i, fixN T t i ≤ i
  | 0 => Nat.le_refl _
  | i + 1 => by
    have := fixN_le T t i
    unfold fixN
    split <;> omega
theorem fixN_gt (T : List (Int × Int)) (t : Int) : ∀ i j, fixN T t i ≤ j → j < i → ¬ (T.getD j (0, 0)).2 ≤ t
  | 0, j, _, h => by omega
  | i + 1, j, h1, h2 => by
    unfold fixN at h1
    split at h1
    · omega
    · rename_i hn
      rcases Nat.lt_or_ge j i with h | h
      · exact fixN_gt T t i j h1 h
      · rw [show j = i by omega]; exact hn
theorem fixN_mono (T : List (Int × Int)) {t t' : Int} (ht : t ≤ t') : ∀ i, fixN T t i ≤ fixN T t' i
  | 0 => Nat.le_refl _
  | i + 1 => by
    have := fixN_mono T ht i
    have := fixN_le T t i
    unfold fixN
    split
    · rw [if_pos (by omega)]
      exact Nat.le_refl _
    · split <;> omega
def fixF (T : List (Int × Int)) (t : Int) : List (Int × Int) := T.take (fixN T t T.length)
end Go.Proofs.YtglokajinehbmaaGreat
end
