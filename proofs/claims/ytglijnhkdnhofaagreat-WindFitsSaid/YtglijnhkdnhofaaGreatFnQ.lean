/- What functions of the program compute, each proved once, part 17. -/
import Derived.Test.YtglijnhkdnhofaaGreatPiD
import Derived.Test.YtglijnhkdnhofaaGreatFnA
import Derived.Test.YtglijnhkdnhofaaGreatFnG
import Derived.Test.YtglijnhkdnhofaaGreatFnH
import Derived.Test.YtglijnhkdnhofaaGreatFnI
import Derived.Test.YtglijnhkdnhofaaGreatFnJ
import Derived.Test.YtglijnhkdnhofaaGreatFnK
import Derived.Test.YtglijnhkdnhofaaGreatFnL
import Derived.Test.YtglijnhkdnhofaaGreatFnP
import Derived.Test.YtglijnhkdnhofaaGreatFnM

namespace Go.Proofs.YtglijnhkdnhofaaGreat
open Go Go.Pi Go.RowKit
set_option maxRecDepth 100000
set_option linter.unusedVariables false
set_option linter.unusedSimpArgs false

def f7 (x : List ((Int × Int × Int) × Int × Int) × Int × Int × Int × Int) : Bool := true
theorem four_eq (a b : WV) : ((a.1 == b.1) && ((a.2.1 == b.2.1) && ((a.2.2.1 == b.2.2.1) && ((a.2.2.2 == b.2.2.2) && true)))) = decide (a = b) := by
  obtain ⟨x, y, z, w⟩ := a
  obtain ⟨p, q, r, s⟩ := b
  rw [Bool.eq_iff_iff]
  simp
theorem two_eq (a b : Int × Int) : ((a.1 == b.1) && ((a.2 == b.2) && true)) = decide (a = b) := by
  obtain ⟨x, y⟩ := a
  obtain ⟨p, q⟩ := b
  rw [Bool.eq_iff_iff]
  simp
def f7_e : Entry := { doms := [(false, (.sl (.pair (.pair (.int .i64) (.pair (.int .i64) (.int .i64))) (.pair (.int .i64) (.int .i64))))), (true, (.pair (.int .i64) (.pair (.int .i64) (.pair (.int .i64) (.int .i64)))))], cods := [(false, .bool)], pre := fun _ => True, fn := f7, uq := false, total := true }
def f7_E : Env := [(8, f8_e), (9, f9_e), (11, f11_e), (24, f24_e), (29, f29_e), (30, f30_e), (31, f31_e), (48, f48_e), (49, f49_e), (50, f50_e), (51, f51_e), (52, f52_e), (53, f53_e)]
def f7_A : Anns := { loops := [(1572909, { tms := [(0, .keep), (3, .keep), (5, .keep), (6, .keep), (7, .keep), (8, .keep), (9, .keep), (10, .keep), (11, .data false (.int .i64))], obs := [(1048576, .keep), (1053702, .keep), (1054726, .keep)], fz := [] }),
  (1572929, { tms := [(0, .keep), (3, .keep), (9, .keep), (10, .keep)], obs := [(1048576, .keep)], fz := [] })], own := [] }
theorem f7_run (a0 : List ((Int × Int × Int) × Int × Int)) (a1 : Int × Int × Int × Int) (K : Bool → Prop) : runF Tryz.prog f7_E f7_A 6 Tryz.f7 f7_e.doms f7_e.cods (a0, a1) K =
    (br (!(f8 ()))
    (K false)
    (br (!(f9 a0))
    (K true)
    (f11_pre a0 ∧
    f11_pre a0 ∧
    f11_pre a0 ∧
    JoinQ (V := Int × Unit) (fun J => (fun (join1 : Int → Prop) =>
    br ((f24 a0) == 0)
    (f30_pre a0 ∧
    br (decide ((f29 (f30 a0)) < 3))
    (join1 19)
    (join1 (f24 a0)))
    (join1 (f24 a0))) (fun j1_0 => J (j1_0, ()))) (fun v => (fun (j1_0 : Int) =>
    br (j1_0 != 0)
    (br ((f48 (f11 a0)).2 == j1_0)
    (br ((f49 (f11 a0)).2 == j1_0)
    (br ((f50 ((f11 a0), a1)).2 == j1_0)
    (br ((((f48 (f11 a0)).1).1 == 0) && (((((f48 (f11 a0)).1).2).1 == 0) && ((((((f48 (f11 a0)).1).2).2).1 == 0) && ((((((f48 (f11 a0)).1).2).2).2 == 0) && true))))
    (br ((((f49 (f11 a0)).1).1 == 0) && ((((f49 (f11 a0)).1).2 == 0) && true))
    (K ((f50 ((f11 a0), a1)).1 == 0))
    (K false))
    (K false))
    (K false))
    (K false))
    (K false))
    (f51_pre a0 ∧
    JoinQ (V := Unit) (fun J => (fun (join2 : Prop) =>
    br ((f48 (f11 a0)).2 != 0)
    (K false)
    (f52_pre a0 ∧
    br (!((((f48 (f11 a0)).1).1 == (f52 a0).1) && (((((f48 (f11 a0)).1).2).1 == ((f52 a0).2).1) && ((((((f48 (f11 a0)).1).2).2).1 == (((f52 a0).2).2).1) && ((((((f48 (f11 a0)).1).2).2).2 == (((f52 a0).2).2).2) && true)))))
    (K false)
    (br (f51 a0).2
    (br ((f49 (f11 a0)).2 != 0)
    (K false)
    (br (!((((f49 (f11 a0)).1).1 == ((f51 a0).1).1) && ((((f49 (f11 a0)).1).2 == ((f51 a0).1).2) && true)))
    (K false)
    (br (!(f51 a0).2)
    (br ((f49 (f11 a0)).2 != 8)
    (K false)
    (br (!((((f49 (f11 a0)).1).1 == 0) && ((((f49 (f11 a0)).1).2 == 0) && true)))
    (K false)
    (join2)))
    (join2))))
    (br (!(f51 a0).2)
    (br ((f49 (f11 a0)).2 != 8)
    (K false)
    (br (!((((f49 (f11 a0)).1).1 == 0) && ((((f49 (f11 a0)).1).2 == 0) && true)))
    (K false)
    (join2)))
    (join2))))) (J ())) (fun v =>
    br ((f31 a1) != 0)
    (br ((f50 ((f11 a0), a1)).2 == (f31 a1))
    (K ((f50 ((f11 a0), a1)).1 == 0))
    (K false))
    (br ((f50 ((f11 a0), a1)).2 == (f53 (a0, a1)).2)
    (K ((f50 ((f11 a0), a1)).1 == (f53 (a0, a1)).1))
    (K false))))) v.1)))) := by kernel_rfl
theorem f7_t (a0 : List ((Int × Int × Int) × Int × Int)) (a1 : Int × Int × Int × Int) (K : Bool → Prop) (hK : ∀ y : Bool, y = f7 (a0, a1) → K y) : RunF Tryz.prog f7_E f7_A 6 Tryz.f7 f7_e.doms f7_e.cods (a0, a1) K := by
  refine ⟨?_⟩
  rw [f7_run a0 a1 K]
  have e8 : f8 () = true := rfl
  have hT : K true := hK _ rfl
  have hKb : ∀ b : Bool, b = true → K b := fun b h => hK _ (by rw [h]; rfl)
  have e9 : f9 a0 = decide (a0.length ≤ 8) := rfl
  have e11 : ∀ l, f11 l = l := fun _ => rfl
  have e24 : f24 a0 = (rdOf a0).2 := rfl
  have e30 : f30 a0 = a0.map (·.1) := rfl
  have e29 : f29 (a0.map (·.1)) = rkR (a0.map (·.1)) := rfl
  have e31 : f31 a1 = windE a1 := rfl
  have e48 : f48 a0 = fitW a0 := rfl
  have e49 : f49 a0 = resW a0 := rfl
  have e50 : f50 (a0, a1) = ckW a0 a1 := rfl
  have e51 : f51 a0 = resR a0 := rfl
  have e52 : f52 a0 = lowV (gP a0) (2 * gD a0) := rfl
  have e53 : f53 (a0, a1) = ckT a0 a1 := rfl
  simp only [e11, e24, e30, e29, e31, e48, e49, e50, e51, e52, e53]
  rw [e8, e9]
  refine br_two (fun h => by cases h) fun _ => br_two (fun _ => hT) fun h9 => ?_
  have hl : a0.length ≤ 8 := by simpa using h9
  have p11 : f11_pre a0 := show a0.length ≤ 1048576 by omega
  refine ⟨p11, p11, p11, ?_⟩
  refine JoinQ.use (fun v : Int × Unit => v.1 = openE a0) (fun G hG => ?_) fun v hv => ?_
  · refine br_two (fun h => ⟨show a0.length ≤ 1048576 by omega, ?_⟩) fun h => hG _ ?_
    · have h24 : (rdOf a0).2 = 0 := beq_iff_eq.1 h
      have rok := rdOf_ok h24
      have hdirs : Dirs (a0.map (·.1)) := ⟨fun d hd => by obtain ⟨r, hr, rfl⟩ := List.mem_map.1 hd; exact (rok.dir r hr).1, fun d hd => by obtain ⟨r, hr, rfl⟩ := List.mem_map.1 hd; exact (rok.dir r hr).2⟩
      have hrl := rkOwn_len (a0.map (·.1))
      rw [rkR_eq hdirs]
      refine br_if (fun q => hG _ ?_) fun q => hG _ ?_
      · show 19 = openE a0
        unfold openE
        rw [if_neg (fun hh => hh h24), if_neg (show ¬ (rkOwn (a0.map (·.1))).length = 3 by omega)]
      · show (rdOf a0).2 = openE a0
        unfold openE
        rw [if_neg (fun hh => hh h24), if_pos (show (rkOwn (a0.map (·.1))).length = 3 by omega), h24]
    · show (rdOf a0).2 = openE a0
      have h24 : (rdOf a0).2 ≠ 0 := beq_eq_false_iff_ne.1 h
      unfold openE
      rw [if_pos h24]
  obtain ⟨v, _⟩ := v
  dsimp only at hv ⊢
  subst hv
  refine br_two (fun h => ?_) fun h => ?_
  · have h : openE a0 ≠ 0 := bne_iff_ne.1 h
    have q1 : fitW a0 = ((0, 0, 0, 0), openE a0) := by unfold fitW; rw [if_pos h]
    have q2 : resW a0 = ((0, 0), openE a0) := by unfold resW; rw [if_pos h]
    have q3 : ckW a0 a1 = (0, openE a0) := by unfold ckW; rw [if_pos h]
    rw [q1, q2, q3]
    have t : (openE a0 == openE a0) = true := beq_iff_eq.2 rfl
    exact br_two (fun _ => br_two (fun _ => br_two (fun _ => br_two (fun _ => br_two (fun _ => hKb _ rfl) fun q => by cases q) fun q => by cases q) fun q => by rw [t] at q; cases q) fun q => by rw [t] at q; cases q) fun q => by rw [t] at q; cases q
  have h0 : openE a0 = 0 := bne_f.1 h
  obtain ⟨h24, h3⟩ := openE_zero h0
  have rok := rdOf_ok h24
  have hD := gD_pos rok h3
  have q1 : fitW a0 = (lowV (gP a0) (2 * gD a0), 0) := by unfold fitW; rw [if_neg (fun hh => hh h0)]
  have q2 : resW a0 = if (low (gR a0) (4 * gD a0)).1 > 1000000000 ∨ (low (gR a0) (4 * gD a0)).2 > 1000000000 then ((0, 0), 8) else (low (gR a0) (4 * gD a0), 0) := by unfold resW; rw [if_neg (fun hh => hh h0)]
  have q3 : ckW a0 a1 = if windE a1 ≠ 0 then (0, windE a1) else ckT a0 a1 := by unfold ckW ckT; rw [if_neg (fun hh => hh h0)]
  rw [q1, q2, q3]
  refine ⟨⟨rok, hD⟩, ?_⟩
  refine JoinQ.use0 True (fun G hG => ?_) fun _ => ?_
  · have hg := hG trivial
    dsimp only
    rw [four_eq]
    refine br_two (fun q => by cases q) fun _ => ⟨⟨rok, hD⟩, br_two (fun q => ?_) fun _ => ?_⟩
    · rw [decide_eq_true rfl] at q; cases q
    have hp := low_pos (n := gR a0) (d := 4 * gD a0) (by omega)
    have hn : 0 ≤ (low (gR a0) (4 * gD a0)).1 := by
      have := low_mul (n := gR a0) (d := 4 * gD a0) (by omega)
      have h1 := gR_nonneg hD
      refine Classical.byContradiction fun hc => ?_
      have h2 : (low (gR a0) (4 * gD a0)).1 * (4 * gD a0) < 0 := Int.mul_neg_of_neg_of_pos (by omega) (by omega)
      have h3 : 0 ≤ gR a0 * (low (gR a0) (4 * gD a0)).2 := Int.mul_nonneg h1 (by omega)
      omega
    unfold resR
    by_cases hc : (low (gR a0) (4 * gD a0)).1 > 1000000000 ∨ (low (gR a0) (4 * gD a0)).2 > 1000000000
    · rw [if_pos hc, if_neg (by omega)]
      exact br_two (fun q => by cases q) fun _ => br_two (fun _ => br_two (fun q => by cases q) fun _ => br_two (fun q => by cases q) fun _ => hg) fun _ => hg
    · rw [if_neg hc, if_pos ⟨by omega, by omega, by omega⟩]
      rw [two_eq]
      refine br_two (fun _ => br_two (fun q => by cases q) fun _ => br_two (fun q => ?_) fun _ => br_two (fun q => by cases q) fun _ => hg) fun q => by cases q
      rw [decide_eq_true rfl] at q; cases q
  refine br_two (fun q => ?_) fun q => ?_
  · have q : windE a1 ≠ 0 := bne_iff_ne.1 q
    rw [if_pos q]
    exact br_two (fun _ => hKb _ rfl) fun q' => absurd rfl (beq_eq_false_iff_ne.1 q')
  · have q : windE a1 = 0 := bne_f.1 q
    rw [if_neg (fun hh => hh q)]
    exact br_two (fun _ => hKb _ (beq_iff_eq.2 rfl)) fun q' => absurd rfl (beq_eq_false_iff_ne.1 q')
theorem f7_fn : f7_e.fn = f7 := rfl
theorem f7_ok : EntryOK Tryz.prog 7 f7_e := by
  refine entryF progOK (EnvOK.cons f8_ok (EnvOK.cons f9_ok (EnvOK.cons f11_ok (EnvOK.cons f24_ok (EnvOK.cons f29_ok (EnvOK.cons f30_ok (EnvOK.cons f31_ok (EnvOK.cons f48_ok (EnvOK.cons f49_ok (EnvOK.cons f50_ok (EnvOK.cons f51_ok (EnvOK.cons f52_ok (EnvOK.cons f53_ok (EnvOK.nil)))))))))))))) (A := f7_A) (d := 6) Tryz.func7 rfl rfl rfl rfl (fun _ _ => trivial) fun x hpre => ?_
  obtain ⟨a0, a1⟩ := x
  exact f7_t a0 a1 _ fun _ h => h.trans (congrFun f7_fn.symm _)
end Go.Proofs.YtglijnhkdnhofaaGreat
