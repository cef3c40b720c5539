/- What functions of the program compute, each proved once, part 11. -/
import Derived.Test.YtglijnhkdnhofaaGreatPiD
import Derived.Test.YtglijnhkdnhofaaGreatFnA
import Derived.Test.YtglijnhkdnhofaaGreatFnJ
import Derived.Test.YtglijnhkdnhofaaGreatFnC

section
namespace Go.Proofs.YtglijnhkdnhofaaGreat
open Go Go.Pi Go.RowKit
set_option maxRecDepth 100000
set_option linter.unusedVariables false
set_option linter.unusedSimpArgs false

def f30 (l : List ((Int × Int × Int) × Int × Int)) : List (Int × Int × Int) := l.map (·.1)
def f30_pre (l : List ((Int × Int × Int) × Int × Int)) : Prop := l.length ≤ 1048576
def f30_e : Entry := { doms := [(false, (.sl (.pair (.pair (.int .i64) (.pair (.int .i64) (.int .i64))) (.pair (.int .i64) (.int .i64)))))], cods := [(false, (.sl (.pair (.int .i64) (.pair (.int .i64) (.int .i64)))))], pre := f30_pre, fn := f30, uq := false, total := false }
def f30_E : Env := []
def f30_A : Anns := { loops := [(1048576, { tms := [(0, .keep), (3, .ref 1053703), (4, .data false (.int .i64))], obs := [(1053703, .arr (.uniq) (.pair (.int .i64) (.pair (.int .i64) (.int .i64))))], fz := [] })], own := [] }
theorem f30_run (a0 : List ((Int × Int × Int) × Int × Int)) (K : (List (Int × Int × Int)) → Prop) : runF Tryz.prog f30_E f30_A 6 Tryz.f30 f30_e.doms f30_e.cods a0 K =
    (LoopP (V := Int × List (Int × Int × Int) × Unit) (fun again v => (fun (again1 : Int → List (Int × Int × Int) → Prop) (v1_0 : Int) (v1_1 : List (Int × Int × Int)) =>
    br (lenOk (a0.length))
    (br (decide (v1_0 < ((a0.length) : Int)))
    (br (decide (0 ≤ v1_0) && decide (v1_0 < ((a0.length) : Int)))
    (br (roomOk ((v1_1.length) + 1) 24)
    (again1 (IntKind.i64.wrap (v1_0 + 1)) (v1_1 ++ ([(((a0.getD v1_0.toNat ((0, (0, 0)), (0, 0))).1).1, (((a0.getD v1_0.toNat ((0, (0, 0)), (0, 0))).1).2))] : List (Int × Int × Int))))
    False)
    False)
    (K v1_1))
    True)
    (fun v1_0 v1_1 => again (v1_0, v1_1, ())) v.1 v.2.1) (0, ([] : List (Int × Int × Int)), ())) := by kernel_rfl
theorem f30_t (a0 : List ((Int × Int × Int) × Int × Int)) (hpre : f30_pre a0) (K : (List (Int × Int × Int)) → Prop) (hK : ∀ y : List (Int × Int × Int), y = f30 a0 → K y) : RunF Tryz.prog f30_E f30_A 6 Tryz.f30 f30_e.doms f30_e.cods a0 K := by
  refine ⟨?_⟩
  rw [f30_run a0 K]
  have hl : a0.length ≤ 1048576 := hpre
  refine LoopP.of (fun q : Int × List (Int × Int × Int) × Unit => ∃ i : Nat, i ≤ a0.length ∧ q = ((i : Int), (a0.take i).map (·.1), ())) (fun q => ((a0.length : Int) - q.1).toNat) (fun again q hq hag => ?_) ⟨0, by omega, rfl⟩
  obtain ⟨i, hi, rfl⟩ := hq
  dsimp only
  refine br_weak (br_if (fun hlt => ?_) fun hge => hK _ ?_)
  · have hlt' : i < a0.length := by omega
    refine br_must (inb (by omega) hlt) (br_must ?_ (hag _ ⟨i + 1, by omega, ?_⟩ ?_))
    · rw [roomOk_iff, List.length_map, List.length_take]; omega
    · rw [wr (by omega) (by omega), Int.toNat_natCast, List.take_succ_eq_append_getElem hlt', List.map_append, getD_lt hlt']; rfl
    · dsimp only
      rw [wr (by omega) (by omega)]; omega
  · have : i = a0.length := by omega
    rw [this, List.take_length, f30]
theorem f30_fn : f30_e.fn = f30 := rfl
theorem f30_ok : EntryOK Tryz.prog 30 f30_e := by
  refine entryF progOK (EnvOK.nil) (A := f30_A) (d := 6) Tryz.func30 rfl rfl rfl rfl (fun h => by cases h) fun x hpre => ?_
  exact f30_t x hpre _ fun _ h => h.trans (congrFun f30_fn.symm _)
end Go.Proofs.YtglijnhkdnhofaaGreat
end

section
namespace Go.Proofs.YtglijnhkdnhofaaGreat
open Go Go.Pi Go.RowKit
set_option maxRecDepth 100000
set_option linter.unusedVariables false
set_option linter.unusedSimpArgs false

def f138 (n : Int) : Int := minmax true n (IntKind.i64.wrap (0 - n))
def f138_e : Entry := { doms := [(false, (.int .i64))], cods := [(false, (.int .i64))], pre := fun _ => True, fn := f138, uq := false, total := true }
def f138_E : Env := []
def f138_A : Anns := { loops := [], own := [] }
theorem f138_run (a0 : Int) (K : Int → Prop) : runF Tryz.prog f138_E f138_A 6 Tryz.f138 f138_e.doms f138_e.cods a0 K =
    (K (minmax true a0 (IntKind.i64.wrap (0 - a0)))) := by kernel_rfl
theorem f138_t (a0 : Int) (K : Int → Prop) (hK : ∀ y : Int, y = f138 a0 → K y) : RunF Tryz.prog f138_E f138_A 6 Tryz.f138 f138_e.doms f138_e.cods a0 K := by
  refine ⟨?_⟩
  rw [f138_run a0 K]
  exact hK _ rfl
theorem f138_fn : f138_e.fn = f138 := rfl
theorem f138_ok : EntryOK Tryz.prog 138 f138_e := by
  refine entryF progOK (EnvOK.nil) (A := f138_A) (d := 6) Tryz.func138 rfl rfl rfl rfl (fun _ _ => trivial) fun x hpre => ?_
  exact f138_t x _ fun _ h => h.trans (congrFun f138_fn.symm _)
end Go.Proofs.YtglijnhkdnhofaaGreat
end

section
namespace Go.Proofs.YtglijnhkdnhofaaGreat
open Go Go.Pi Go.RowKit
set_option maxRecDepth 100000
set_option linter.unusedVariables false
set_option linter.unusedSimpArgs false

def f94 (x : Int × Int) : Int := (Nat.gcd x.1.natAbs x.2.natAbs : Int)
def f94_pre (x : Int × Int) : Prop := Fit x.1 ∧ Fit x.2
def f94_e : Entry := { doms := [(false, (.int .i64)), (false, (.int .i64))], cods := [(false, (.int .i64))], pre := f94_pre, fn := f94, uq := false, total := false }
def f94_E : Env := [(138, f138_e)]
def f94_A : Anns := { loops := [(1048576, { tms := [(0, .data false (.int .i64)), (1, .data false (.int .i64))], obs := [], fz := [] })], own := [] }
theorem f94_run (a0 : Int) (a1 : Int) (K : Int → Prop) : runF Tryz.prog f94_E f94_A 6 Tryz.f94 f94_e.doms f94_e.cods (a0, a1) K =
    (LoopP (V := Int × Int × Unit) (fun again v => (fun (again1 : Int → Int → Prop) (v1_0 : Int) (v1_1 : Int) =>
    br (v1_1 != 0)
    (br (!(decide (v1_1 = 0)))
    (again1 v1_1 (v1_0.tmod v1_1))
    False)
    (K (f138 v1_0)))
    (fun v1_0 v1_1 => again (v1_0, v1_1, ())) v.1 v.2.1) (a0, a1, ())) := by kernel_rfl
theorem f94_t (a0 : Int) (a1 : Int) (hpre : f94_pre (a0, a1)) (K : Int → Prop) (hK : ∀ y : Int, y = f94 (a0, a1) → K y) : RunF Tryz.prog f94_E f94_A 6 Tryz.f94 f94_e.doms f94_e.cods (a0, a1) K := by
  refine ⟨?_⟩
  rw [f94_run a0 a1 K]
  obtain ⟨h1, h2⟩ := hpre
  refine LoopP.of (fun q : Int × Int × Unit => Fit q.1 ∧ Fit q.2.1 ∧ Nat.gcd q.1.natAbs q.2.1.natAbs = Nat.gcd a0.natAbs a1.natAbs) (fun q => q.2.1.natAbs) (fun again q hq hag => ?_) ⟨h1, h2, rfl⟩
  obtain ⟨a, b, u⟩ := q
  obtain ⟨qf1, qf2, hg⟩ := hq
  dsimp only at qf1 qf2 hg ⊢
  refine br_two (fun hb => ?_) fun hb => ?_
  · have hb := bne_t.1 hb
    exact br_must (ne_zero_b hb) (hag (b, a.tmod b, ()) ⟨qf2, tmod_fit qf1 hb, (gcd_step a b hb).trans hg⟩ (tmod_lt hb))
  · have hb := bne_f.1 hb
    subst hb
    refine hK _ ?_
    simp only [f138, f94, minmax_abs qf1, ← hg]
    simp
theorem f94_fn : f94_e.fn = f94 := rfl
theorem f94_ok : EntryOK Tryz.prog 94 f94_e := by
  refine entryF progOK (EnvOK.cons f138_ok (EnvOK.nil)) (A := f94_A) (d := 6) Tryz.func94 rfl rfl rfl rfl (fun h => by cases h) fun x hpre => ?_
  obtain ⟨a0, a1⟩ := x
  exact f94_t a0 a1 hpre _ fun _ h => h.trans (congrFun f94_fn.symm _)
end Go.Proofs.YtglijnhkdnhofaaGreat
end

section
namespace Go.Proofs.YtglijnhkdnhofaaGreat
open Go Go.Pi Go.RowKit
set_option maxRecDepth 100000
set_option linter.unusedVariables false
set_option linter.unusedSimpArgs false

def f31 (v : Int × Int × Int × Int) : Int := windE v
def f31_e : Entry := { doms := [(true, (.pair (.int .i64) (.pair (.int .i64) (.pair (.int .i64) (.int .i64)))))], cods := [(false, (.int .i64))], pre := fun _ => True, fn := f31, uq := false, total := true }
def f31_E : Env := [(91, f91_e), (94, f94_e)]
def f31_A : Anns := { loops := [], own := [] }
theorem f31_run (a0 : Int × Int × Int × Int) (K : Int → Prop) : runF Tryz.prog f31_E f31_A 6 Tryz.f31 f31_e.doms f31_e.cods a0 K =
    (br (!(f91 (a0.2.2.2, (1, 1000000000))))
    (K 2)
    (br (!(f91 (a0.1, ((-1000000000000), 1000000000000))))
    (K 2)
    (br (!(f91 (a0.2.1, ((-1000000000000), 1000000000000))))
    (K 2)
    (br (!(f91 (a0.2.2.1, ((-1000000000000), 1000000000000))))
    (K 2)
    (f94_pre (a0.2.1, a0.2.2.1) ∧
    f94_pre (a0.1, (f94 (a0.2.1, a0.2.2.1))) ∧
    f94_pre (a0.2.2.2, (f94 (a0.1, (f94 (a0.2.1, a0.2.2.1))))) ∧
    br ((f94 (a0.2.2.2, (f94 (a0.1, (f94 (a0.2.1, a0.2.2.1)))))) != 1)
    (K 3)
    (K 0)))))) := by kernel_rfl
theorem f31_t (a0 : Int × Int × Int × Int) (K : Int → Prop) (hK : ∀ y : Int, y = f31 a0 → K y) : RunF Tryz.prog f31_E f31_A 6 Tryz.f31 f31_e.doms f31_e.cods a0 K := by
  refine ⟨?_⟩
  rw [f31_run a0 K]
  have e : ∀ a b c : Int, f91 (a, b, c) = decide (b ≤ a ∧ a ≤ c) := fun a b c => by simp [f91]
  simp only [e]
  refine br_two (fun h1 => hK _ ?_) fun h1 => br_two (fun h2 => hK _ ?_) fun h2 => br_two (fun h3 => hK _ ?_) fun h3 => br_two (fun h4 => hK _ ?_) fun h4 => ?_
  · rw [f31, windE, if_pos (fun h => nd_t.1 h1 h.1)]
  · rw [f31, windE, if_pos (fun h => nd_t.1 h2 h.2.1)]
  · rw [f31, windE, if_pos (fun h => nd_t.1 h3 h.2.2.1)]
  · rw [f31, windE, if_pos (fun h => nd_t.1 h4 h.2.2.2)]
  · have h1 := nd_f.1 h1
    have h2 := nd_f.1 h2
    have h3 := nd_f.1 h3
    have h4 := nd_f.1 h4
    have q1 : Fit a0.1 := fit_le h2 (by omega)
    have q2 : Fit a0.2.1 := fit_le h3 (by omega)
    have q3 : Fit a0.2.2.1 := fit_le h4 (by omega)
    have q4 : Fit a0.2.2.2 := ⟨by omega, by omega⟩
    have g1 := gcd_fit (fit_abs q2) (fit_abs q3)
    have g2 := gcd_fit (fit_abs q1) g1
    have hg : f94 (a0.2.2.2, f94 (a0.1, f94 (a0.2.1, a0.2.2.1))) = (gcdL [a0.2.2.2, a0.1, a0.2.1, a0.2.2.1] : Int) := by
      rw [gcdL_four]; simp only [f94, Int.natAbs_natCast]
    rw [hg]
    refine ⟨⟨q2, q3⟩, ⟨q1, fit_nat g1⟩, ⟨q4, ?_⟩, br_two (fun h => hK _ ?_) fun h => hK _ ?_⟩
    · have := fit_nat g2
      simpa only [f94, Int.natAbs_natCast] using this
    · have h := bne_t.1 h
      rw [f31, windE, if_neg (fun h => h ⟨h1, h2, h3, h4⟩), if_neg (by omega)]
    · have h := bne_f.1 h
      rw [f31, windE, if_neg (fun h => h ⟨h1, h2, h3, h4⟩), if_pos (by omega)]
theorem f31_fn : f31_e.fn = f31 := rfl
theorem f31_ok : EntryOK Tryz.prog 31 f31_e := by
  refine entryF progOK (EnvOK.cons f91_ok (EnvOK.cons f94_ok (EnvOK.nil))) (A := f31_A) (d := 6) Tryz.func31 rfl rfl rfl rfl (fun _ _ => trivial) fun x hpre => ?_
  exact f31_t x _ fun _ h => h.trans (congrFun f31_fn.symm _)
end Go.Proofs.YtglijnhkdnhofaaGreat
end

section
namespace Go.Proofs.YtglijnhkdnhofaaGreat
open Go Go.Pi Go.RowKit
set_option maxRecDepth 100000
set_option linter.unusedVariables false
set_option linter.unusedSimpArgs false

def f95 (v : Int × Int × Int × Int) : Int := windE v
def f95_e : Entry := { doms := [(true, (.pair (.int .i64) (.pair (.int .i64) (.pair (.int .i64) (.int .i64)))))], cods := [(false, (.int .i64))], pre := fun _ => True, fn := f95, uq := false, total := true }
def f95_E : Env := [(83, f83_e), (84, f84_e), (85, f85_e), (126, f126_e)]
def f95_A : Anns := { loops := [], own := [] }
theorem f95_run (a0 : Int × Int × Int × Int) (K : Int → Prop) : runF Tryz.prog f95_E f95_A 6 Tryz.f95 f95_e.doms f95_e.cods a0 K =
    (br (f84 (a0.2.2.2, (1, 1000000000)))
    (br (f85 (a0.1, 1000000000000))
    (br (f85 (a0.2.1, 1000000000000))
    (br (!(f85 (a0.2.2.1, 1000000000000)))
    (K 2)
    (f126_pre ([a0.2.2.2, a0.1, a0.2.1, a0.2.2.1] : List Int) ∧
    K (f83 (((f126 ([a0.2.2.2, a0.1, a0.2.1, a0.2.2.1] : List Int)) == 1), 3))))
    (K 2))
    (K 2))
    (K 2)) := by kernel_rfl
theorem f95_t (a0 : Int × Int × Int × Int) (K : Int → Prop) (hK : ∀ y : Int, y = f95 a0 → K y) : RunF Tryz.prog f95_E f95_A 6 Tryz.f95 f95_e.doms f95_e.cods a0 K := by
  refine ⟨?_⟩
  rw [f95_run a0 K]
  have e : ∀ n : Int, f85 (n, 1000000000000) = decide (-1000000000000 ≤ n ∧ n ≤ 1000000000000) := fun n => f85_eq (by omega) (by omega)
  rw [f84_eq]
  simp only [e]
  refine br_two (fun h1 => br_two (fun h2 => br_two (fun h3 => br_two (fun h4 => hK _ ?_) fun h4 => ⟨?_, hK _ ?_⟩) fun h3 => hK _ ?_) fun h2 => hK _ ?_) fun h1 => hK _ ?_
  · rw [f95, windE, if_pos (fun h => nd_t.1 h4 h.2.2.2)]
  · simp only [decide_eq_true_eq] at h1 h2 h3
    have h4 := nd_f.1 h4
    intro n hn
    simp only [List.mem_cons, List.not_mem_nil, or_false] at hn
    rcases hn with rfl | rfl | rfl | rfl <;> constructor <;> omega
  · simp only [decide_eq_true_eq] at h1 h2 h3
    have h4 := nd_f.1 h4
    rw [f95, windE, if_neg (fun h => h ⟨h1, h2, h3, h4⟩), f83, f126]
    by_cases hg : gcdL [a0.2.2.2, a0.1, a0.2.1, a0.2.2.1] = 1
    · rw [hg]; rfl
    · rw [if_neg hg]
      have : (((gcdL [a0.2.2.2, a0.1, a0.2.1, a0.2.2.1] : Nat) : Int) == 1) = false := by rw [beq_eq_false_iff_ne]; omega
      rw [this]; rfl
  · rw [f95, windE, if_pos (fun h => by rw [decide_eq_false_iff_not] at h3; exact h3 h.2.2.1)]
  · rw [f95, windE, if_pos (fun h => by rw [decide_eq_false_iff_not] at h2; exact h2 h.2.1)]
  · rw [f95, windE, if_pos (fun h => by rw [decide_eq_false_iff_not] at h1; exact h1 h.1)]
theorem f95_fn : f95_e.fn = f95 := rfl
theorem f95_ok : EntryOK Tryz.prog 95 f95_e := by
  refine entryF progOK (EnvOK.cons f83_ok (EnvOK.cons f84_ok (EnvOK.cons f85_ok (EnvOK.cons f126_ok (EnvOK.nil))))) (A := f95_A) (d := 6) Tryz.func95 rfl rfl rfl rfl (fun _ _ => trivial) fun x hpre => ?_
  exact f95_t x _ fun _ h => h.trans (congrFun f95_fn.symm _)
end Go.Proofs.YtglijnhkdnhofaaGreat
end

section
namespace Go.Proofs.YtglijnhkdnhofaaGreat
open Go Go.Pi Go.RowKit
set_option maxRecDepth 100000
set_option linter.unusedVariables false
set_option linter.unusedSimpArgs false

def f33 (x : List ((Int × Int × Int) × Int × Int) × Int × Int × Int × Int) : Bool × Int := if (rdOf x.1).2 ≠ 0 then (false, (rdOf x.1).2) else if windE x.2 ≠ 0 then (false, windE x.2) else (x.1.all (agR · x.2), 0)
def f33_e : Entry := { doms := [(false, (.sl (.pair (.pair (.int .i64) (.pair (.int .i64) (.int .i64))) (.pair (.int .i64) (.int .i64))))), (true, (.pair (.int .i64) (.pair (.int .i64) (.pair (.int .i64) (.int .i64)))))], cods := [(false, .bool), (false, (.int .i64))], pre := fun _ => True, fn := f33, uq := false, total := true }
def f33_E : Env := [(60, f60_e), (61, f61_e), (95, f95_e), (96, f96_e)]
def f33_A : Anns := { loops := [], own := [] }
theorem f33_run (a0 : List ((Int × Int × Int) × Int × Int)) (a1 : Int × Int × Int × Int) (K : (Bool × Int) → Prop) : runF Tryz.prog f33_E f33_A 6 Tryz.f33 f33_e.doms f33_e.cods (a0, a1) K =
    (br ((f61 ([(f60 a0).2, (f95 a1)] : List Int)) != 0)
    (K (false, (f61 ([(f60 a0).2, (f95 a1)] : List Int))))
    (K ((f96 ((f60 a0).1, a1)), 0))) := by kernel_rfl
theorem f33_t (a0 : List ((Int × Int × Int) × Int × Int)) (a1 : Int × Int × Int × Int) (K : (Bool × Int) → Prop) (hK : ∀ y : Bool × Int, y = f33 (a0, a1) → K y) : RunF Tryz.prog f33_E f33_A 6 Tryz.f33 f33_e.doms f33_e.cods (a0, a1) K := by
  refine ⟨?_⟩
  rw [f33_run a0 a1 K]
  have e : f61 [(f60 a0).2, f95 a1] = if (rdOf a0).2 ≠ 0 then (rdOf a0).2 else windE a1 := by
    rw [f61_cons, f61_cons, f61_nil]
    show (if (rdOf a0).2 = 0 then if windE a1 = 0 then 0 else windE a1 else (rdOf a0).2) = _
    by_cases h1 : (rdOf a0).2 = 0 <;> by_cases h2 : windE a1 = 0 <;> simp [h1, h2]
  rw [e]
  refine br_two (fun h => hK _ ?_) fun h => hK _ ?_
  · have h := bne_t.1 h
    rw [f33]
    by_cases h1 : (rdOf a0).2 = 0
    · by_cases h2 : windE a1 = 0
      · simp [h1, h2] at h
      · simp [h1, h2]
    · simp [h1]
  · have h := bne_f.1 h
    rw [f33]
    by_cases h1 : (rdOf a0).2 = 0
    · by_cases h2 : windE a1 = 0
      · simp [h1, h2]; rfl
      · simp [h1, h2] at h
    · simp [h1] at h
theorem f33_fn : f33_e.fn = f33 := rfl
theorem f33_ok : EntryOK Tryz.prog 33 f33_e := by
  refine entryF progOK (EnvOK.cons f60_ok (EnvOK.cons f61_ok (EnvOK.cons f95_ok (EnvOK.cons f96_ok (EnvOK.nil))))) (A := f33_A) (d := 6) Tryz.func33 rfl rfl rfl rfl (fun _ _ => trivial) fun x hpre => ?_
  obtain ⟨a0, a1⟩ := x
  exact f33_t a0 a1 _ fun _ h => h.trans (congrFun f33_fn.symm _)
end Go.Proofs.YtglijnhkdnhofaaGreat
end

section
namespace Go.Proofs.YtglijnhkdnhofaaGreat
open Go Go.Pi Go.RowKit
set_option maxRecDepth 100000
set_option linter.unusedVariables false
set_option linter.unusedSimpArgs false

def f97 (x : Int × Int) : Int := x.1 / x.2
def f97_pre (x : Int × Int) : Prop := Fit x.1 ∧ 0 < x.2
def f97_e : Entry := { doms := [(false, (.int .i64)), (false, (.int .i64))], cods := [(false, (.int .i64))], pre := f97_pre, fn := f97, uq := false, total := false }
def f97_E : Env := []
def f97_A : Anns := { loops := [], own := [] }
theorem f97_run (a0 : Int) (a1 : Int) (K : Int → Prop) : runF Tryz.prog f97_E f97_A 6 Tryz.f97 f97_e.doms f97_e.cods (a0, a1) K =
    (br (!(decide (a1 = 0)))
    (br (!(decide (a1 = 0)))
    (br (decide ((a0.tmod a1) < 0))
    (K (IntKind.i64.wrap ((IntKind.i64.wrap (a0.tdiv a1)) - 1)))
    (K (IntKind.i64.wrap (a0.tdiv a1))))
    False)
    False) := by kernel_rfl
theorem f97_t (a0 : Int) (a1 : Int) (hpre : f97_pre (a0, a1)) (K : Int → Prop) (hK : ∀ y : Int, y = f97 (a0, a1) → K y) : RunF Tryz.prog f97_E f97_A 6 Tryz.f97 f97_e.doms f97_e.cods (a0, a1) K := by
  refine ⟨?_⟩
  rw [f97_run a0 a1 K]
  obtain ⟨h1, h2⟩ := hpre
  dsimp only at h1 h2
  have hn : (!(decide (a1 = 0))) = true := ne_zero_b (by omega)
  have hf : Fit (a0.tdiv a1) := tdiv_fit h1
  have he := floor_eq (a := a0) h2
  have hg := ediv_fit h1 h2
  refine br_must hn (br_must hn (br_if (fun h => hK _ ?_) fun h => hK _ ?_))
  · rw [if_pos h] at he
    rw [wr (n := a0.tdiv a1) (by have := hf.1; omega) hf.2, he]
    exact w64_fit hg
  · rw [if_neg h] at he
    rw [wr (n := a0.tdiv a1) (by have := hf.1; omega) hf.2, he]
    rfl
theorem f97_fn : f97_e.fn = f97 := rfl
theorem f97_ok : EntryOK Tryz.prog 97 f97_e := by
  refine entryF progOK (EnvOK.nil) (A := f97_A) (d := 6) Tryz.func97 rfl rfl rfl rfl (fun h => by cases h) fun x hpre => ?_
  obtain ⟨a0, a1⟩ := x
  exact f97_t a0 a1 hpre _ fun _ h => h.trans (congrFun f97_fn.symm _)
end Go.Proofs.YtglijnhkdnhofaaGreat
end

section
namespace Go.Proofs.YtglijnhkdnhofaaGreat
open Go Go.Pi Go.RowKit
set_option maxRecDepth 100000
set_option linter.unusedVariables false
set_option linter.unusedSimpArgs false

def f98 (x : Int × Int) : Int := -((-x.1) / x.2)
def f98_pre (x : Int × Int) : Prop := Fit x.1 ∧ 0 < x.2
def f98_e : Entry := { doms := [(false, (.int .i64)), (false, (.int .i64))], cods := [(false, (.int .i64))], pre := f98_pre, fn := f98, uq := false, total := false }
def f98_E : Env := [(97, f97_e)]
def f98_A : Anns := { loops := [], own := [] }
theorem f98_run (a0 : Int) (a1 : Int) (K : Int → Prop) : runF Tryz.prog f98_E f98_A 6 Tryz.f98 f98_e.doms f98_e.cods (a0, a1) K =
    (f97_pre ((IntKind.i64.wrap (0 - a0)), a1) ∧
    K (IntKind.i64.wrap (0 - (f97 ((IntKind.i64.wrap (0 - a0)), a1))))) := by kernel_rfl
theorem f98_t (a0 : Int) (a1 : Int) (hpre : f98_pre (a0, a1)) (K : Int → Prop) (hK : ∀ y : Int, y = f98 (a0, a1) → K y) : RunF Tryz.prog f98_E f98_A 6 Tryz.f98 f98_e.doms f98_e.cods (a0, a1) K := by
  refine ⟨?_⟩
  rw [f98_run a0 a1 K]
  obtain ⟨h1, h2⟩ := hpre
  dsimp only at h1 h2
  have hn := neg_fit h1
  rw [wr (n := 0 - a0) (by have := hn.1; omega) hn.2]
  refine ⟨⟨hn, h2⟩, hK _ ?_⟩
  have hf := ediv_fit hn h2
  simp only [f97, f98]
  rw [wr (n := 0 - (0 - a0) / a1) (by have := hf.1; have := hf.2; omega) (by have := hf.1; omega)]
  simp
theorem f98_fn : f98_e.fn = f98 := rfl
theorem f98_ok : EntryOK Tryz.prog 98 f98_e := by
  refine entryF progOK (EnvOK.cons f97_ok (EnvOK.nil)) (A := f98_A) (d := 6) Tryz.func98 rfl rfl rfl rfl (fun h => by cases h) fun x hpre => ?_
  obtain ⟨a0, a1⟩ := x
  exact f98_t a0 a1 hpre _ fun _ h => h.trans (congrFun f98_fn.symm _)
end Go.Proofs.YtglijnhkdnhofaaGreat
end

section
namespace Go.Proofs.YtglijnhkdnhofaaGreat
open Go Go.Pi Go.RowKit
set_option maxRecDepth 100000
set_option linter.unusedVariables false
set_option linter.unusedSimpArgs false

def f34 (x : (Int × Int) × Int × Int) : Int × Int := (x.1.1 / x.1.2, -((-x.2.1) / x.2.2))
def f34_pre (x : (Int × Int) × Int × Int) : Prop := FS x.1 ∧ FS x.2
def f34_e : Entry := { doms := [(true, (.pair (.pair (.int .i64) (.int .i64)) (.pair (.int .i64) (.int .i64))))], cods := [(true, (.pair (.int .i64) (.int .i64)))], pre := f34_pre, fn := f34, uq := false, total := false }
def f34_E : Env := [(97, f97_e), (98, f98_e)]
def f34_A : Anns := { loops := [], own := [] }
theorem f34_run (a0 : (Int × Int) × Int × Int) (K : (Int × Int) → Prop) : runF Tryz.prog f34_E f34_A 6 Tryz.f34 f34_e.doms f34_e.cods a0 K =
    (f97_pre a0.1 ∧
    f98_pre a0.2 ∧
    K ((f97 a0.1), (f98 a0.2))) := by kernel_rfl
theorem f34_t (a0 : (Int × Int) × Int × Int) (hpre : f34_pre a0) (K : (Int × Int) → Prop) (hK : ∀ y : Int × Int, y = f34 a0 → K y) : RunF Tryz.prog f34_E f34_A 6 Tryz.f34 f34_e.doms f34_e.cods a0 K := by
  refine ⟨?_⟩
  rw [f34_run a0 K]
  obtain ⟨h1, h2⟩ := hpre
  exact ⟨⟨fit_le h1.1 (by omega), h1.2.1⟩, ⟨fit_le h2.1 (by omega), h2.2.1⟩, hK _ rfl⟩
theorem f34_fn : f34_e.fn = f34 := rfl
theorem f34_ok : EntryOK Tryz.prog 34 f34_e := by
  refine entryF progOK (EnvOK.cons f97_ok (EnvOK.cons f98_ok (EnvOK.nil))) (A := f34_A) (d := 6) Tryz.func34 rfl rfl rfl rfl (fun h => by cases h) fun x hpre => ?_
  exact f34_t x hpre _ fun _ h => h.trans (congrFun f34_fn.symm _)
end Go.Proofs.YtglijnhkdnhofaaGreat
end

section
namespace Go.Proofs.YtglijnhkdnhofaaGreat
open Go Go.Pi Go.RowKit
set_option maxRecDepth 100000
set_option linter.unusedVariables false
set_option linter.unusedSimpArgs false

def f35 (x : Int × Int) : Int × Int := low x.1 x.2
def f35_pre (x : Int × Int) : Prop := Fit x.1 ∧ Fit x.2 ∧ x.2 ≠ 0
def f35_e : Entry := { doms := [(false, (.int .i64)), (false, (.int .i64))], cods := [(true, (.pair (.int .i64) (.int .i64)))], pre := f35_pre, fn := f35, uq := false, total := false }
def f35_E : Env := [(94, f94_e)]
def f35_A : Anns := { loops := [], own := [] }
theorem f35_run (a0 : Int) (a1 : Int) (K : (Int × Int) → Prop) : runF Tryz.prog f35_E f35_A 6 Tryz.f35 f35_e.doms f35_e.cods (a0, a1) K =
    (f94_pre (a0, a1) ∧
    br (decide (a1 < 0))
    (br (!(decide ((IntKind.i64.wrap (0 - (f94 (a0, a1)))) = 0)))
    (br (!(decide ((IntKind.i64.wrap (0 - (f94 (a0, a1)))) = 0)))
    (K ((IntKind.i64.wrap (a0.tdiv (IntKind.i64.wrap (0 - (f94 (a0, a1)))))), (IntKind.i64.wrap (a1.tdiv (IntKind.i64.wrap (0 - (f94 (a0, a1))))))))
    False)
    False)
    (br (!(decide ((f94 (a0, a1)) = 0)))
    (br (!(decide ((f94 (a0, a1)) = 0)))
    (K ((IntKind.i64.wrap (a0.tdiv (f94 (a0, a1)))), (IntKind.i64.wrap (a1.tdiv (f94 (a0, a1))))))
    False)
    False)) := by kernel_rfl
theorem f35_t (a0 : Int) (a1 : Int) (hpre : f35_pre (a0, a1)) (K : (Int × Int) → Prop) (hK : ∀ y : Int × Int, y = f35 (a0, a1) → K y) : RunF Tryz.prog f35_E f35_A 6 Tryz.f35 f35_e.doms f35_e.cods (a0, a1) K := by
  refine ⟨?_⟩
  rw [f35_run a0 a1 K]
  obtain ⟨h1, h2, h3⟩ := hpre
  dsimp only at h1 h2 h3
  have hg : f94 (a0, a1) = (Nat.gcd a0.natAbs a1.natAbs : Int) := rfl
  have hpos : 0 < Nat.gcd a0.natAbs a1.natAbs := Nat.gcd_pos_of_pos_right _ (by omega)
  have hle2 : Nat.gcd a0.natAbs a1.natAbs ≤ 9223372036854775807 := Nat.le_trans (Nat.gcd_le_right _ (by omega)) (by have := h2.1; have := h2.2; omega)
  have hng : IntKind.i64.wrap (0 - (Nat.gcd a0.natAbs a1.natAbs : Int)) = -(Nat.gcd a0.natAbs a1.natAbs : Int) := by rw [wr (by omega) (by omega)]; omega
  have hw : ∀ n : Int, Fit n → IntKind.i64.wrap n = n := fun n h => w64_fit h
  rw [hg, hng]
  refine ⟨⟨h1, h2⟩, br_if (fun hd => br_must (ne_zero_b (by omega)) (br_must (ne_zero_b (by omega)) (hK _ ?_))) fun hd => br_must (ne_zero_b (by omega)) (br_must (ne_zero_b (by omega)) (hK _ ?_))⟩
  · rw [hw _ (tdiv_fit h1), hw _ (tdiv_fit h2), f35, low, if_pos hd]
  · rw [hw _ (tdiv_fit h1), hw _ (tdiv_fit h2), f35, low, if_neg hd]
theorem f35_fn : f35_e.fn = f35 := rfl
theorem f35_ok : EntryOK Tryz.prog 35 f35_e := by
  refine entryF progOK (EnvOK.cons f94_ok (EnvOK.nil)) (A := f35_A) (d := 6) Tryz.func35 rfl rfl rfl rfl (fun h => by cases h) fun x hpre => ?_
  obtain ⟨a0, a1⟩ := x
  exact f35_t a0 a1 hpre _ fun _ h => h.trans (congrFun f35_fn.symm _)
end Go.Proofs.YtglijnhkdnhofaaGreat
end

section
namespace Go.Proofs.YtglijnhkdnhofaaGreat
open Go Go.Pi Go.RowKit
set_option maxRecDepth 100000
set_option linter.unusedVariables false
set_option linter.unusedSimpArgs false

def f37 (x : Int × Int × Int × Int) : Int × Int × Int := (x.1, x.2.1, x.2.2.1)
def f37_e : Entry := { doms := [(true, (.pair (.int .i64) (.pair (.int .i64) (.pair (.int .i64) (.int .i64)))))], cods := [(true, (.pair (.int .i64) (.pair (.int .i64) (.int .i64))))], pre := fun _ => True, fn := f37, uq := false, total := true }
def f37_E : Env := []
def f37_A : Anns := { loops := [], own := [] }
theorem f37_run (a0 : Int × Int × Int × Int) (K : (Int × Int × Int) → Prop) : runF Tryz.prog f37_E f37_A 6 Tryz.f37 f37_e.doms f37_e.cods a0 K =
    (K (a0.1, (a0.2.1, a0.2.2.1))) := by kernel_rfl
theorem f37_t (a0 : Int × Int × Int × Int) (K : (Int × Int × Int) → Prop) (hK : ∀ y : Int × Int × Int, y = f37 a0 → K y) : RunF Tryz.prog f37_E f37_A 6 Tryz.f37 f37_e.doms f37_e.cods a0 K := by
  refine ⟨?_⟩
  rw [f37_run a0 K]
  exact hK _ rfl
theorem f37_fn : f37_e.fn = f37 := rfl
theorem f37_ok : EntryOK Tryz.prog 37 f37_e := by
  refine entryF progOK (EnvOK.nil) (A := f37_A) (d := 6) Tryz.func37 rfl rfl rfl rfl (fun _ _ => trivial) fun x hpre => ?_
  exact f37_t x _ fun _ h => h.trans (congrFun f37_fn.symm _)
end Go.Proofs.YtglijnhkdnhofaaGreat
end

section
namespace Go.Proofs.YtglijnhkdnhofaaGreat
open Go Go.Pi Go.RowKit
set_option maxRecDepth 100000
set_option linter.unusedVariables false
set_option linter.unusedSimpArgs false

def f38 (x : Int × Int × Int × Int) : Int := cmpQ x
def f38_pre (x : Int × Int × Int × Int) : Prop := Fit x.1 ∧ Fit x.2.1 ∧ Fit x.2.2.1 ∧ Fit x.2.2.2 ∧ 0 < x.2.1 ∧ 0 < x.2.2.2
def f38_e : Entry := { doms := [(false, (.int .i64)), (false, (.int .i64)), (false, (.int .i64)), (false, (.int .i64))], cods := [(false, (.int .i64))], pre := f38_pre, fn := f38, uq := false, total := false }
def f38_E : Env := [(97, f97_e)]
def f38_A : Anns := { loops := [(1048576, { tms := [(0, .data false (.int .i64)), (1, .data false (.int .i64)), (2, .data false (.int .i64)), (3, .data false (.int .i64))], obs := [], fz := [] })], own := [] }
theorem f38_run (a0 : Int) (a1 : Int) (a2 : Int) (a3 : Int) (K : Int → Prop) : runF Tryz.prog f38_E f38_A 6 Tryz.f38 f38_e.doms f38_e.cods (a0, a1, a2, a3) K =
    (LoopP (V := Int × Int × Int × Int × Unit) (fun again v => (fun (again1 : Int → Int → Int → Int → Prop) (v1_0 : Int) (v1_1 : Int) (v1_2 : Int) (v1_3 : Int) =>
    f97_pre (v1_0, v1_1) ∧
    f97_pre (v1_2, v1_3) ∧
    br (decide ((f97 (v1_0, v1_1)) < (f97 (v1_2, v1_3))))
    (K (-1))
    (br (decide ((f97 (v1_0, v1_1)) > (f97 (v1_2, v1_3))))
    (K 1)
    (br ((IntKind.i64.wrap (v1_0 - (IntKind.i64.wrap ((f97 (v1_0, v1_1)) * v1_1)))) == 0)
    (br ((IntKind.i64.wrap (v1_2 - (IntKind.i64.wrap ((f97 (v1_2, v1_3)) * v1_3)))) == 0)
    (K 0)
    (br ((IntKind.i64.wrap (v1_0 - (IntKind.i64.wrap ((f97 (v1_0, v1_1)) * v1_1)))) == 0)
    (K (-1))
    (br ((IntKind.i64.wrap (v1_2 - (IntKind.i64.wrap ((f97 (v1_2, v1_3)) * v1_3)))) == 0)
    (K 1)
    (again1 v1_3 (IntKind.i64.wrap (v1_2 - (IntKind.i64.wrap ((f97 (v1_2, v1_3)) * v1_3)))) v1_1 (IntKind.i64.wrap (v1_0 - (IntKind.i64.wrap ((f97 (v1_0, v1_1)) * v1_1))))))))
    (br ((IntKind.i64.wrap (v1_0 - (IntKind.i64.wrap ((f97 (v1_0, v1_1)) * v1_1)))) == 0)
    (K (-1))
    (br ((IntKind.i64.wrap (v1_2 - (IntKind.i64.wrap ((f97 (v1_2, v1_3)) * v1_3)))) == 0)
    (K 1)
    (again1 v1_3 (IntKind.i64.wrap (v1_2 - (IntKind.i64.wrap ((f97 (v1_2, v1_3)) * v1_3)))) v1_1 (IntKind.i64.wrap (v1_0 - (IntKind.i64.wrap ((f97 (v1_0, v1_1)) * v1_1))))))))))
    (fun v1_0 v1_1 v1_2 v1_3 => again (v1_0, v1_1, v1_2, v1_3, ())) v.1 v.2.1 v.2.2.1 v.2.2.2.1) (a0, a1, a2, a3, ())) := by kernel_rfl
theorem f38_t (a0 : Int) (a1 : Int) (a2 : Int) (a3 : Int) (hpre : f38_pre (a0, a1, a2, a3)) (K : Int → Prop) (hK : ∀ y : Int, y = f38 (a0, a1, a2, a3) → K y) : RunF Tryz.prog f38_E f38_A 6 Tryz.f38 f38_e.doms f38_e.cods (a0, a1, a2, a3) K := by
  refine ⟨?_⟩
  rw [f38_run a0 a1 a2 a3 K]
  have hK2 : ∀ y, y = cmpQ (a0, a1, a2, a3) → K y := hK
  clear hK
  refine LoopP.of (fun q : Int × Int × Int × Int × Unit => f38_pre (q.1, q.2.1, q.2.2.1, q.2.2.2.1) ∧ cmpQ (q.1, q.2.1, q.2.2.1, q.2.2.2.1) = cmpQ (a0, a1, a2, a3)) (fun q => (q.2.1 + q.2.2.2.1).toNat) (fun again q hq hag => ?_) ⟨hpre, rfl⟩
  obtain ⟨n, d, m, k, u⟩ := q
  obtain ⟨⟨qf1, qf2, qf3, qf4, hd, hk⟩, hc⟩ := hq
  dsimp only at qf1 qf2 qf3 qf4 hd hk hc ⊢
  have e1 : f97 (n, d) = n / d := rfl
  have e2 : f97 (m, k) = m / k := rfl
  rw [e1, e2]
  have g1 : IntKind.i64.wrap (n - IntKind.i64.wrap (n / d * d)) = n % d := by
    rw [wrap_sub_r, Int.mul_comm, ← Int.emod_def]
    have := Int.emod_nonneg n (show d ≠ 0 by omega)
    have := Int.emod_lt_of_pos n hd
    exact wr (by omega) (by have := qf2.2; omega)
  have g2 : IntKind.i64.wrap (m - IntKind.i64.wrap (m / k * k)) = m % k := by
    rw [wrap_sub_r, Int.mul_comm, ← Int.emod_def]
    have := Int.emod_nonneg m (show k ≠ 0 by omega)
    have := Int.emod_lt_of_pos m hk
    exact wr (by omega) (by have := qf4.2; omega)
  rw [g1, g2]
  have hn0 := Int.emod_nonneg n (show d ≠ 0 by omega)
  have hnd := Int.emod_lt_of_pos n hd
  have hm0 := Int.emod_nonneg m (show k ≠ 0 by omega)
  have hmk := Int.emod_lt_of_pos m hk
  have en := Int.mul_ediv_add_emod n d
  have em := Int.mul_ediv_add_emod m k
  generalize n / d = p at *
  generalize m / k = q at *
  generalize n % d = n' at *
  generalize m % k = m' at *
  have key : n * k - m * d = (p - q) * (d * k) + (n' * k - m' * d) := by rw [← en, ← em]; grind
  have hdk : 0 < d * k := Int.mul_pos hd hk
  have b1 : 0 ≤ n' * k := Int.mul_nonneg hn0 (by omega)
  have b2 : n' * k < d * k := Int.mul_lt_mul_of_pos_right hnd hk
  have b3 : 0 ≤ m' * d := Int.mul_nonneg hm0 (by omega)
  have b4 : m' * d < k * d := Int.mul_lt_mul_of_pos_right hmk hd
  have b5 : k * d = d * k := Int.mul_comm _ _
  have lo : p < q → cmpQ (n, d, m, k) = -1 := fun h => by
    have : (p - q) * (d * k) ≤ (-1) * (d * k) := Int.mul_le_mul_of_nonneg_right (by omega) (by omega)
    simp only [cmpQ, sgn]; rw [if_pos (by omega)]
  have hi : p > q → cmpQ (n, d, m, k) = 1 := fun h => by
    have : 1 * (d * k) ≤ (p - q) * (d * k) := Int.mul_le_mul_of_nonneg_right (by omega) (by omega)
    simp only [cmpQ, sgn]; rw [if_neg (by omega), if_pos (by omega)]
  have eqq : ¬ p < q → ¬ p > q → n * k - m * d = n' * k - m' * d := fun h h2 => by
    have : p - q = 0 := by omega
    rw [key, this, Int.zero_mul, Int.zero_add]
  refine ⟨⟨qf1, hd⟩, ⟨qf3, hk⟩, br_if (fun h => hK2 _ ((lo h).symm.trans hc)) fun h => br_if (fun h2 => hK2 _ ((hi h2).symm.trans hc)) fun h2 => ?_⟩
  have heq := eqq h h2
  have cz : n' = 0 → m' = 0 → cmpQ (n, d, m, k) = 0 := fun h3 h4 => by
    simp only [cmpQ, sgn]; rw [heq, h3, h4]; simp
  have cl : n' = 0 → m' ≠ 0 → cmpQ (n, d, m, k) = -1 := fun h3 h4 => by
    have : 0 < m' * d := Int.mul_pos (by omega) hd
    simp only [cmpQ, sgn]; rw [heq, h3, if_pos (by omega)]
  have cg : n' ≠ 0 → m' = 0 → cmpQ (n, d, m, k) = 1 := fun h3 h4 => by
    have : 0 < n' * k := Int.mul_pos (by omega) hk
    simp only [cmpQ, sgn]; rw [heq, h4, if_neg (by omega), if_pos (by omega)]
  have cn : n' ≠ 0 → m' ≠ 0 → again (k, m', d, n', ()) := fun h3 h4 => by
    refine hag _ ⟨⟨qf4, ⟨by dsimp only; omega, by dsimp only; have := qf4.2; omega⟩, qf2, ⟨by dsimp only; omega, by dsimp only; have := qf2.2; omega⟩, by dsimp only; omega, by dsimp only; omega⟩, ?_⟩ (by dsimp only; omega)
    dsimp only
    rw [← hc]
    simp only [cmpQ]
    rw [heq, Int.mul_comm k, Int.mul_comm d]
  refine br_two (fun h3 => br_two (fun h4 => hK2 _ ((cz (beq_iff_eq.1 h3) (beq_iff_eq.1 h4)).symm.trans hc)) fun h4 => br_two (fun _ => hK2 _ ((cl (beq_iff_eq.1 h3) (beq_eq_false_iff_ne.1 h4)).symm.trans hc)) fun h5 => by rw [h3] at h5; cases h5) fun h3 => br_two (fun h4 => by rw [h3] at h4; cases h4) fun _ => br_two (fun h4 => hK2 _ ((cg (beq_eq_false_iff_ne.1 h3) (beq_iff_eq.1 h4)).symm.trans hc)) fun h4 => cn (beq_eq_false_iff_ne.1 h3) (beq_eq_false_iff_ne.1 h4)
theorem f38_fn : f38_e.fn = f38 := rfl
theorem f38_ok : EntryOK Tryz.prog 38 f38_e := by
  refine entryF progOK (EnvOK.cons f97_ok (EnvOK.nil)) (A := f38_A) (d := 6) Tryz.func38 rfl rfl rfl rfl (fun h => by cases h) fun x hpre => ?_
  obtain ⟨a0, a1, a2, a3⟩ := x
  exact f38_t a0 a1 a2 a3 hpre _ fun _ h => h.trans (congrFun f38_fn.symm _)
end Go.Proofs.YtglijnhkdnhofaaGreat
end

section
namespace Go.Pi
set_option linter.unusedVariables false
def agQ (l : List Rd) (p : V3) (q : Int) : Prop := ∀ r ∈ l, r.2.1 * q ≤ dot r.1 p ∧ dot r.1 p ≤ r.2.2 * q
def tight (r : Rd) (p : V3) (q : Int) : Prop := dot r.1 p = r.2.1 * q ∨ dot r.1 p = r.2.2 * q
/-- How far a reading lets a point go along u, times its speed. -/
def slack (p : V3) (q : Int) (u : V3) (r : Rd) : Int := if dot r.1 u > 0 then r.2.2 * q - dot r.1 p else dot r.1 p - r.2.1 * q
def speed (u : V3) (r : Rd) : Int := if dot r.1 u > 0 then dot r.1 u else -dot r.1 u
theorem speed_pos {u : V3} {r : Rd} (h : dot r.1 u ≠ 0) : 0 < speed u r := by unfold speed; split <;> omega
/-- The first that is reached. -/
theorem first_reached (n m : Rd → Int) : ∀ l : List Rd, (∃ r ∈ l, 0 < m r) → ∃ r ∈ l, 0 < m r ∧ ∀ s ∈ l, 0 < m s → n r * m s ≤ n s * m r
  | [], ⟨r, hr, _⟩ => by cases hr
  | a :: l, h => by
    by_cases hl : ∃ r ∈ l, 0 < m r
    · obtain ⟨r, hr, hm, hb⟩ := first_reached n m l hl
      by_cases ha : 0 < m a
      · rcases Int.le_total (n a * m r) (n r * m a) with hc | hc
        · refine ⟨a, .head _, ha, fun s hs hms => ?_⟩
          rcases List.mem_cons.1 hs with rfl | hs
          · exact Int.le_refl _
          · exact q_le ha hm hms hc (hb s hs hms)
        · refine ⟨r, .tail _ hr, hm, fun s hs hms => ?_⟩
          rcases List.mem_cons.1 hs with rfl | hs
          · exact hc
          · exact hb s hs hms
      · refine ⟨r, .tail _ hr, hm, fun s hs hms => ?_⟩
        rcases List.mem_cons.1 hs with rfl | hs
        · exact absurd hms ha
        · exact hb s hs hms
    · obtain ⟨r, hr, hm⟩ := h
      rcases List.mem_cons.1 hr with rfl | hr
      · refine ⟨r, .head _, hm, fun s hs hms => ?_⟩
        rcases List.mem_cons.1 hs with rfl | hs
        · exact Int.le_refl _
        · exact absurd ⟨s, hs, hms⟩ hl
      · exact absurd ⟨r, hr, hm⟩ hl
theorem dot_add (d p u : V3) (m n : Int) : dot d (m * p.1 + n * u.1, m * p.2.1 + n * u.2.1, m * p.2.2 + n * u.2.2) = m * dot d p + n * dot d u := by simp only [dot]; grind
/-- Along u as far as can be. -/
theorem move {l : List Rd} {p c u : V3} {q : Int} (hq : 0 < q) (ha : agQ l p q) (hc : dot c u ≤ 0) (hu : ∃ r ∈ l, dot r.1 u ≠ 0) :
    ∃ p' q', 0 < q' ∧ agQ l p' q' ∧ dot c p' * q ≤ dot c p * q' ∧ (∀ d, dot d u = 0 → dot d p' * q = dot d p * q') ∧ ∃ r ∈ l, dot r.1 u ≠ 0 ∧ tight r p' q' := by
  have hm : ∃ r ∈ l, 0 < speed u r := by obtain ⟨r, hr, h⟩ := hu; exact ⟨r, hr, speed_pos h⟩
  obtain ⟨r0, hr0, hm0, hmin⟩ := first_reached (slack p q u) (speed u) l hm
  have hn0 : 0 ≤ slack p q u r0 := by
    have := ha r0 hr0
    unfold slack
    split <;> omega
  obtain ⟨m, em⟩ : ∃ m, m = speed u r0 := ⟨_, rfl⟩
  obtain ⟨n, en⟩ : ∃ n, n = slack p q u r0 := ⟨_, rfl⟩
  rw [← em] at hm0
  rw [← en] at hn0
  have hd := fun d => dot_add d p u m n
  refine ⟨(m * p.1 + n * u.1, m * p.2.1 + n * u.2.1, m * p.2.2 + n * u.2.2), m * q, Int.mul_pos hm0 hq, fun r hr => ?_, ?_, fun d h0 => ?_, r0, hr0, ?_, ?_⟩
  · rw [hd]
    obtain ⟨a1, a2⟩ := ha r hr
    have b1 : m * (r.2.1 * q) ≤ m * dot r.1 p := Int.mul_le_mul_of_nonneg_left a1 (by omega)
    have b2 : m * dot r.1 p ≤ m * (r.2.2 * q) := Int.mul_le_mul_of_nonneg_left a2 (by omega)
    have e1 : r.2.1 * (m * q) = m * (r.2.1 * q) := by grind
    have e2 : r.2.2 * (m * q) = m * (r.2.2 * q) := by grind
    rw [e1, e2]
    rcases Int.lt_trichotomy (dot r.1 u) 0 with hs | hs | hs
    · have h1 := hmin r hr (speed_pos (by omega))
      rw [← em, ← en] at h1
      unfold speed slack at h1
      rw [if_neg (by omega), if_neg (by omega)] at h1
      have h2 : n * dot r.1 u ≤ 0 := Int.mul_nonpos_of_nonneg_of_nonpos hn0 (by omega)
      have h3 : (dot r.1 p - r.2.1 * q) * m = m * dot r.1 p - m * (r.2.1 * q) := by grind
      have h4 : n * -dot r.1 u = -(n * dot r.1 u) := by grind
      omega
    · rw [hs, Int.mul_zero]; omega
    · have h1 := hmin r hr (speed_pos (by omega))
      rw [← em, ← en] at h1
      unfold speed slack at h1
      rw [if_pos hs, if_pos hs] at h1
      have h2 : 0 ≤ n * dot r.1 u := Int.mul_nonneg hn0 (by omega)
      have h3 : (r.2.2 * q - dot r.1 p) * m = m * (r.2.2 * q) - m * dot r.1 p := by grind
      omega
  · rw [hd]
    have h1 : n * dot c u ≤ 0 := Int.mul_nonpos_of_nonneg_of_nonpos hn0 hc
    have h2 : n * dot c u * q ≤ 0 := Int.mul_nonpos_of_nonpos_of_nonneg h1 (by omega)
    have e : (m * dot c p + n * dot c u) * q = dot c p * (m * q) + n * dot c u * q := by grind
    omega
  · rw [hd, h0]; grind
  · intro hz
    unfold speed at em
    rw [hz] at em
    simp at em
    omega
  · unfold tight
    rw [hd]
    by_cases hs : dot r0.1 u > 0
    · unfold speed at em
      unfold slack at en
      rw [if_pos hs] at em en
      right
      rw [em, en]; grind
    · unfold speed at em
      unfold slack at en
      rw [if_neg hs] at em en
      left
      rw [em, en]; grind
/-- Directions of the rank 3 leave nothing free. -/
theorem full_dir {l : List Rd} (h : RdOK l) (h3 : (rkOwn (l.map (·.1))).length = 3) {u : V3} (hu : u ≠ z3) : ∃ r ∈ l, dot r.1 u ≠ 0 := by
  have hd : Dirs (l.map (·.1)) := ⟨fun d hd => by obtain ⟨r, hr, rfl⟩ := List.mem_map.1 hd; exact (h.dir r hr).1, fun d hd => by obtain ⟨r, hr, rfl⟩ := List.mem_map.1 hd; exact (h.dir r hr).2⟩
  have hi := rkOwn_inv hd
  generalize rkOwn (l.map (·.1)) = own at hi h3
  match own, hi, h3 with
  | [a, b, c], ⟨ha, hb, hc, hn⟩, _ =>
    refine Classical.byContradiction fun hno => hn ?_
    have key : ∀ x, x ∈ l.map (·.1) → dot u x = 0 := fun x hx => by
      obtain ⟨r, hr, rfl⟩ := List.mem_map.1 hx
      exact Classical.byContradiction fun hh => hno ⟨r, hr, by rw [dot_comm]; exact hh⟩
    exact det_flat hu (key a ha) (key b hb) (key c hc)
def neg3 (u : V3) : V3 := (-u.1, -u.2.1, -u.2.2)
theorem dot_neg3 (d u : V3) : dot d (neg3 u) = -dot d u := by simp only [dot, neg3]; grind
theorem neg3_ne {u : V3} (h : u ≠ z3) : neg3 u ≠ z3 := fun hh => by
  obtain ⟨a, b, c⟩ := u
  simp only [neg3, Prod.mk.injEq] at hh
  exact h (by simp only [Prod.mk.injEq]; omega)
/-- One of two opposite ways is not upwards. -/
theorem down (c : V3) {u : V3} (h : u ≠ z3) : ∃ w, w ≠ z3 ∧ dot c w ≤ 0 ∧ ∀ d, dot d w = 0 ↔ dot d u = 0 := by
  by_cases hc : dot c u ≤ 0
  · exact ⟨u, h, hc, fun d => Iff.rfl⟩
  · exact ⟨neg3 u, neg3_ne h, by rw [dot_neg3]; omega, fun d => by rw [dot_neg3]; omega⟩
/-- A vector at right angles to another one. -/
theorem right_angle (d : V3) : ∃ u : V3, u ≠ z3 ∧ dot d u = 0 := by
  obtain ⟨a, b, c⟩ := d
  by_cases h : a = 0
  · exact ⟨(1, 0, 0), by decide, by simp [dot, h]⟩
  · exact ⟨(b, -a, 0), fun hh => by simp only [Prod.mk.injEq] at hh; omega, by simp only [dot]; grind⟩
theorem tight_keep {r : Rd} {p p' : V3} {q q' : Int} (hq : 0 < q) (h : tight r p q) (he : dot r.1 p' * q = dot r.1 p * q') : tight r p' q' := by
  have key : ∀ x : Int, dot r.1 p = x * q → dot r.1 p' = x * q' := fun x hx => by
    refine Int.eq_of_mul_eq_mul_right (show q ≠ 0 by omega) ?_
    rw [he, hx]; grind
  rcases h with h | h
  · exact .inl (key _ h)
  · exact .inr (key _ h)
theorem par_zero {d e u : V3} (hd : d ≠ z3) (hc : cross d e = z3) (h : dot d u = 0) : dot e u = 0 := by
  obtain ⟨x1, x2, x3⟩ := d
  obtain ⟨y1, y2, y3⟩ := e
  obtain ⟨w1, w2, w3⟩ := u
  simp only [cross, Prod.mk.injEq] at hc
  obtain ⟨e1, e2, e3⟩ := hc
  simp only [dot] at h ⊢
  have key : ∀ {x y : Int}, x ≠ 0 → y * x = 0 → y = 0 := fun hx hy => (Int.mul_eq_zero.1 hy).resolve_right hx
  rcases v3_ne hd with hx | hx | hx
  · exact key hx (by dsimp only; grind)
  · exact key hx (by dsimp only; grind)
  · exact key hx (by dsimp only; grind)
/-- Three readings that hold a point. -/
theorem corner {l : List Rd} (h : RdOK l) (h3 : (rkOwn (l.map (·.1))).length = 3) {p : V3} {q : Int} (hq : 0 < q) (ha : agQ l p q) (c : V3) :
    ∃ p' q', 0 < q' ∧ agQ l p' q' ∧ dot c p' * q ≤ dot c p * q' ∧ ∃ r1 r2 r3, r1 ∈ l ∧ r2 ∈ l ∧ r3 ∈ l ∧ tight r1 p' q' ∧ tight r2 p' q' ∧ tight r3 p' q' ∧ det r1.1 r2.1 r3.1 ≠ 0 := by
  obtain ⟨u1, n1, c1, _⟩ := down c (show ((1, 0, 0) : V3) ≠ z3 by decide)
  obtain ⟨p1, q1, hq1, a1, l1, _, r1, m1, _, t1⟩ := move hq ha c1 (full_dir h h3 n1)
  obtain ⟨v2, nv2, dv2⟩ := right_angle r1.1
  obtain ⟨u2, n2, c2, i2⟩ := down c nv2
  obtain ⟨p2, q2, hq2, a2, l2, k2, r2, m2, g2, t2⟩ := move hq1 a1 c2 (full_dir h h3 n2)
  have z2 : dot r1.1 u2 = 0 := (i2 _).2 dv2
  have t1' : tight r1 p2 q2 := tight_keep hq1 t1 (k2 _ z2)
  have nx : cross r1.1 r2.1 ≠ z3 := fun hh => g2 (par_zero (h.dir r1 m1).2 hh z2)
  obtain ⟨u3, n3, c3, i3⟩ := down c nx
  obtain ⟨p3, q3, hq3, a3, l3, k3, r3, m3, g3, t3⟩ := move hq2 a2 c3 (full_dir h h3 n3)
  obtain ⟨s1, s2⟩ := dot_cr_l r1.1 r2.1
  rw [dot_comm] at s1 s2
  refine ⟨p3, q3, hq3, a3, ?_, r1, r2, r3, m1, m2, m3, tight_keep hq2 t1' (k3 _ ((i3 _).2 s1)), tight_keep hq2 t2 (k3 _ ((i3 _).2 s2)), t3, ?_⟩
  · exact q_le hq3 hq2 hq l3 (q_le hq2 hq1 hq l2 l1)
  · rw [det_dot, dot_comm]
    exact fun hh => g3 ((i3 _).2 hh)
theorem ends_bits (x y z : Nat) (hx : x < 2) (hy : y < 2) (hz : z < 2) : (x + 2 * y + 4 * z) % 2 = x ∧ (x + 2 * y + 4 * z) / 2 % 2 = y ∧ (x + 2 * y + 4 * z) / 4 % 2 = z := by omega
theorem tight_end {r : Rd} {p : V3} {q : Int} (h : tight r p q) : ∃ n, n < 2 ∧ dot r.1 p = endR r.2 n * q := by
  rcases h with h | h
  · exact ⟨0, by omega, h⟩
  · exact ⟨1, by omega, h⟩
theorem endR_congr {r : Int × Int} {m n : Nat} (h : m % 2 = n % 2) : endR r m = endR r n := by unfold endR; rw [h]
theorem cramer {m : M3} {v p : V3} {q : Int} (h0 : dot m.1 p = v.1 * q) (h1 : dot m.2.1 p = v.2.1 * q) (h2 : dot m.2.2 p = v.2.2 * q) :
    det3 (c0 m v) * q = det3 m * p.1 ∧ det3 (c1 m v) * q = det3 m * p.2.1 ∧ det3 (c2 m v) * q = det3 m * p.2.2 := by
  obtain ⟨⟨a1, a2, a3⟩, ⟨b1, b2, b3⟩, e1, e2, e3⟩ := m
  obtain ⟨v1, v2, v3⟩ := v
  obtain ⟨p1, p2, p3⟩ := p
  simp only [dot] at h0 h1 h2
  simp only [det3, det, dot, cross, c0, c1, c2]
  refine ⟨by grind, by grind, by grind⟩
/-- A wind in lowest terms agrees with a reading as the machine says. -/
theorem agR_iff {r : Rd} {v : WV} (hd : V3.le r.1 9) (hr : (-10000 ≤ r.2.1 ∧ r.2.1 ≤ 10000) ∧ -10000 ≤ r.2.2 ∧ r.2.2 ≤ 10000) (hv : V3.le (wpt v) 1000000000000) (h0 : 0 < v.2.2.2) (h9 : v.2.2.2 ≤ 1000000000) :
    agR r v = true ↔ r.2.1 * v.2.2.2 ≤ dot r.1 (wpt v) ∧ dot r.1 (wpt v) ≤ r.2.2 * v.2.2.2 := by
  have h1 := mul_le hr.1 (show -1000000000 ≤ v.2.2.2 ∧ v.2.2.2 ≤ 1000000000 by omega)
  have h2 := mul_le hr.2 (show -1000000000 ≤ v.2.2.2 ∧ v.2.2.2 ≤ 1000000000 by omega)
  have h3 := dot_le hd hv
  unfold agR
  rw [w64_in (by omega) (by omega), w64_in (by omega) (by omega), w64_in (by omega) (by omega)]
  exact decide_eq_true_iff
theorem ag_move {r : Rd} {p w : V3} {q d : Int} (hq : 0 < q) (hd : 0 < d) (he : dot r.1 w * q = dot r.1 p * d) (h : r.2.1 * q ≤ dot r.1 p ∧ dot r.1 p ≤ r.2.2 * q) : r.2.1 * d ≤ dot r.1 w ∧ dot r.1 w ≤ r.2.2 * d := by
  have b1 : r.2.1 * q * d ≤ dot r.1 p * d := Int.mul_le_mul_of_nonneg_right h.1 (by omega)
  have b2 : dot r.1 p * d ≤ r.2.2 * q * d := Int.mul_le_mul_of_nonneg_right h.2 (by omega)
  rw [← he] at b1 b2
  refine ⟨Int.le_of_mul_le_mul_right (a := q) ?_ hq, Int.le_of_mul_le_mul_right (a := q) ?_ hq⟩
  · have : r.2.1 * d * q = r.2.1 * q * d := by grind
    omega
  · have : r.2.2 * d * q = r.2.2 * q * d := by grind
    omega
theorem dot_par {d p w : V3} {q n : Int} (h0 : w.1 * q = p.1 * n) (h1 : w.2.1 * q = p.2.1 * n) (h2 : w.2.2 * q = p.2.2 * n) : dot d w * q = dot d p * n := by
  simp only [dot]; grind
/-- A corner is a vertex. -/
theorem vertex_of {l : List Rd} (h : RdLe l) {p : V3} {q : Int} (hq : 0 < q) (ha : agQ l p q) {a b c : Nat} (hab : a < b) (hbc : b < c) (hc : c < l.length)
    (ta : tight (l.getD a rd0) p q) (tb : tight (l.getD b rd0) p q) (tc : tight (l.getD c rd0) p q) (hd : det3 (rows3 l a b c) ≠ 0) :
    ∃ v ∈ vtx l, v.1 * q = p.1 * v.2.2.2 ∧ v.2.1 * q = p.2.1 * v.2.2.2 ∧ v.2.2.1 * q = p.2.2 * v.2.2.2 := by
  obtain ⟨x, hx, ex⟩ := tight_end ta
  obtain ⟨y, hy, ey⟩ := tight_end tb
  obtain ⟨z, hz, ez⟩ := tight_end tc
  obtain ⟨b1, b2, b3⟩ := ends_bits x y z hx hy hz
  have m1 : x % 2 = x := by omega
  have m2 : y % 2 = y := by omega
  have m3 : z % 2 = z := by omega
  have hs := sol1_eq h (show a < l.length by omega) (show b < l.length by omega) hc (x + 2 * y + 4 * z)
  have hok := sol1_ok h (show a < l.length by omega) (show b < l.length by omega) hc (x + 2 * y + 4 * z) hd
  obtain ⟨k1, k2, k3⟩ := cramer (m := rows3 l a b c) (v := ends3 l a b c (x + 2 * y + 4 * z)) (p := p) (q := q)
    (by rw [show (ends3 l a b c (x + 2 * y + 4 * z)).1 = endR (l.getD a rd0).2 x from endR_congr (by omega)]; exact ex)
    (by rw [show (ends3 l a b c (x + 2 * y + 4 * z)).2.1 = endR (l.getD b rd0).2 y from endR_congr (by omega)]; exact ey)
    (by rw [show (ends3 l a b c (x + 2 * y + 4 * z)).2.2 = endR (l.getD c rd0).2 z from endR_congr (by omega)]; exact ez)
  obtain ⟨j1, j2, j3⟩ := lowV_mul (det3 (c0 (rows3 l a b c) (ends3 l a b c (x + 2 * y + 4 * z))), det3 (c1 (rows3 l a b c) (ends3 l a b c (x + 2 * y + 4 * z))), det3 (c2 (rows3 l a b c) (ends3 l a b c (x + 2 * y + 4 * z)))) (det3 (rows3 l a b c)) hd
  rw [← hs] at j1 j2 j3
  have hsw := (h.sml (show a < l.length by omega) (show b < l.length by omega) hc (x + 2 * y + 4 * z) : Sml (rows3 l a b c) _).w
  have hmem : ∀ v, v = sol1 l a b c (x + 2 * y + 4 * z) → l.all (agR · v) = true → v ∈ vtx l := fun v hv hg => vtx_mem.2 (cands_mem.2 ⟨a, b, c, x + 2 * y + 4 * z, hab, hbc, hc, by omega, by rw [hsw]; exact hd, hv, hg⟩)
  generalize sol1 l a b c (x + 2 * y + 4 * z) = v at *
  dsimp only at j1 j2 j3
  generalize det3 (c0 (rows3 l a b c) (ends3 l a b c (x + 2 * y + 4 * z))) = D0 at *
  generalize det3 (c1 (rows3 l a b c) (ends3 l a b c (x + 2 * y + 4 * z))) = D1 at *
  generalize det3 (c2 (rows3 l a b c) (ends3 l a b c (x + 2 * y + 4 * z))) = D2 at *
  generalize det3 (rows3 l a b c) = D at *
  have key : ∀ {n X P : Int}, n * v.2.2.2 = X * D → n * q = D * P → X * q = P * v.2.2.2 := fun {n X P} e1 e2 => by
    refine Int.eq_of_mul_eq_mul_right hd ?_
    have : X * q * D = (X * D) * q := by grind
    rw [this, ← e1, show n * v.2.2.2 * q = (n * q) * v.2.2.2 by grind, e2]; grind
  have e1 := key j1 k1
  have e2 := key j2 k2
  have e3 := key j3 k3
  obtain ⟨⟨w1, w2⟩, w3, w4⟩ := hok
  refine ⟨v, hmem v rfl ?_, e1, e2, e3⟩
  rw [List.all_eq_true]
  intro r hr
  have w5 : V3.le (wpt v) 1000000000000 := by
    obtain ⟨p1, p2, p3⟩ := w4
    exact ⟨by omega, by omega, by omega⟩
  exact (agR_iff (h.dir r hr) (h.rng r hr) w5 w1 (by omega)).2 (ag_move hq w1 (dot_par (p := p) (w := wpt v) e1 e2 e3) (ha r hr))
theorem det3_rows (l : List Rd) (a b c : Nat) : det3 (rows3 l a b c) = det (l.getD a rd0).1 (l.getD b rd0).1 (l.getD c rd0).1 := rfl
/-- The least product of a direction and the winds that agree is that of a vertex. -/
theorem lp {l : List Rd} (h : RdOK l) (h3 : (rkOwn (l.map (·.1))).length = 3) {p : V3} {q : Int} (hq : 0 < q) (ha : agQ l p q) (c : V3) :
    ∃ v ∈ vtx l, dot c (wpt v) * q ≤ dot c p * v.2.2.2 := by
  obtain ⟨p', q', hq', a', le, r1, r2, r3, m1, m2, m3, t1, t2, t3, hd⟩ := corner h h3 hq ha c
  obtain ⟨i, hi, e1⟩ := List.getElem_of_mem m1
  obtain ⟨k, hk, e2⟩ := List.getElem_of_mem m2
  obtain ⟨j, hj, e3⟩ := List.getElem_of_mem m3
  have g1 : l.getD i rd0 = r1 := by rw [getD_lt hi, e1]
  have g2 : l.getD k rd0 = r2 := by rw [getD_lt hk, e2]
  have g3 : l.getD j rd0 = r3 := by rw [getD_lt hj, e3]
  subst g1 g2 g3
  have n1 : i ≠ k := fun hh => hd (by rw [hh]; exact (det_same _ _).1)
  have n2 : i ≠ j := fun hh => hd (by rw [hh]; exact (det_same _ _).2.1)
  have n3 : k ≠ j := fun hh => hd (by rw [hh]; exact (det_same _ _).2.2)
  obtain ⟨p1, p2, p3, p4, p5⟩ := det_perm (l.getD i rd0).1 (l.getD k rd0).1 (l.getD j rd0).1
  have fin : ∀ {a b e : Nat}, a < b → b < e → e < l.length → tight (l.getD a rd0) p' q' → tight (l.getD b rd0) p' q' → tight (l.getD e rd0) p' q' → det (l.getD a rd0).1 (l.getD b rd0).1 (l.getD e rd0).1 ≠ 0 → ∃ v ∈ vtx l, dot c (wpt v) * q ≤ dot c p * v.2.2.2 := fun {a b e} x1 x2 x3 y1 y2 y3 y4 => by
    obtain ⟨v, hv, f1, f2, f3⟩ := vertex_of h.rdLe hq' a' x1 x2 x3 y1 y2 y3 (by rw [det3_rows]; exact y4)
    have hw := (cands_ok h.rdLe v (vtx_mem.1 hv)).1.den
    refine ⟨v, hv, q_le (b := dot c p') hw hq' hq ?_ le⟩
    rw [dot_par (d := c) (p := p') (w := wpt v) f1 f2 f3]
    exact Int.le_refl _
  rcases Nat.lt_or_ge i k with a | a
  · rcases Nat.lt_or_ge k j with b | b
    · exact fin a b hj t1 t2 t3 hd
    · rcases Nat.lt_or_ge i j with x | x
      · exact fin x (by omega) hk t1 t3 t2 (by rw [p2]; omega)
      · exact fin (by omega) a hk t3 t1 t2 (by rw [p5]; omega)
  · rcases Nat.lt_or_ge k j with b | b
    · rcases Nat.lt_or_ge i j with x | x
      · exact fin (by omega) x hj t2 t1 t3 (by rw [p1]; omega)
      · exact fin b (by omega) hi t2 t3 t1 (by rw [p4]; omega)
    · exact fin (by omega) (by omega) hi t3 t2 t1 (by rw [p3]; omega)
theorem flatMap_lenV {α : Type} (f : Nat → List α) : ∀ n, ((List.range n).flatMap f).length = ((List.range n).map fun i => (f i).length).sum
  | n => by rw [List.length_flatMap]
theorem sum_le {f g : Nat → Nat} (h : ∀ i, f i ≤ g i) : ∀ n, ((List.range n).map f).sum ≤ ((List.range n).map g).sum
  | 0 => by simp
  | n + 1 => by
    rw [List.range_succ, List.map_append, List.map_append, List.sum_append, List.sum_append]
    have := sum_le h n
    have := h n
    simp
    omega
theorem sum_mono (f : Nat → Nat) {m n : Nat} (h : m ≤ n) : ((List.range m).map f).sum ≤ ((List.range n).map f).sum := by
  obtain ⟨k, rfl⟩ := Nat.le.dest h
  induction k with
  | zero => simp
  | succ k ih =>
    rw [← Nat.add_assoc, List.range_succ, List.map_append, List.sum_append]
    have := ih (by omega)
    omega
theorem cands_160 {l : List Rd} (h : l.length ≤ 6) : (cands l).length ≤ 160 := by
  have hE : ∀ a b c e, (candE l a b c e).length ≤ 1 := fun a b c e => by unfold candE; split <;> simp
  have hA : ∀ c b a, (candA l c b a).length ≤ 8 := fun c b a => by
    unfold candA
    split
    · simp
    · rw [flatMap_lenV]; exact Nat.le_trans (sum_le (fun e => hE a b c e) 8) (by decide)
  have hB : ∀ c b, (candB l c b).length ≤ ((List.range b).map fun _ => 8).sum := fun c b => by
    unfold candB; rw [flatMap_lenV]; exact sum_le (fun a => hA c b a) b
  have hC : ∀ c, (candC l c).length ≤ ((List.range c).map fun b => ((List.range b).map fun _ => 8).sum).sum := fun c => by
    unfold candC; rw [flatMap_lenV]; exact sum_le (fun b => hB c b) c
  unfold cands
  rw [flatMap_lenV]
  exact Nat.le_trans (sum_le hC l.length) (Nat.le_trans (sum_mono _ h) (by decide))
theorem vtx_160 {l : List Rd} (h : l.length ≤ 6) : (vtx l).length ≤ 160 := by
  have h1 := cands_160 h
  have h2 : ((cands l).foldl insW []).length ≤ 0 + (cands l).length := sortW_len (cands l) []
  have e : (vtx l).length = ((cands l).foldl insW []).length := rfl
  omega
end Go.Pi
end
