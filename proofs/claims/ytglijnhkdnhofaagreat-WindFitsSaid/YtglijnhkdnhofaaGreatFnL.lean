/- What functions of the program compute, each proved once, part 12. -/
import Derived.Test.YtglijnhkdnhofaaGreatPiD
import Derived.Test.YtglijnhkdnhofaaGreatFnA
import Derived.Test.YtglijnhkdnhofaaGreatFnK
import Derived.Test.YtglijnhkdnhofaaGreatFnC
import Derived.Test.YtglijnhkdnhofaaGreatFnJ
import Derived.Test.YtglijnhkdnhofaaGreatFnI

section
namespace Go.Proofs.YtglijnhkdnhofaaGreat
open Go Go.Pi Go.RowKit
set_option maxRecDepth 100000
set_option linter.unusedVariables false
set_option linter.unusedSimpArgs false

def f49 (l : List ((Int × Int × Int) × Int × Int)) : (Int × Int) × Int := resW l
def f49_e : Entry := { doms := [(false, (.sl (.pair (.pair (.int .i64) (.pair (.int .i64) (.int .i64))) (.pair (.int .i64) (.int .i64)))))], cods := [(true, (.pair (.int .i64) (.int .i64))), (false, (.int .i64))], pre := fun _ => True, fn := f49, uq := false, total := true }
def f49_E : Env := [(58, f58_e), (64, f64_e), (107, f107_e), (109, f109_e)]
def f49_A : Anns := { loops := [(1048576, { tms := [(2, .keep), (6, .keep), (7, .data false (.int .i64)), (27, .keep), (28, .keep), (29, .data false (.int .i64))], obs := [(1048576, .keep), (1052674, .keep)], fz := [] })], own := [1152921642046864386, 1152921642047912962, 1152921642048961538], unroll := 4 }
theorem f49_run (a0 : List ((Int × Int × Int) × Int × Int)) (K : ((Int × Int) × Int) → Prop) : runF Tryz.prog f49_E f49_A 6 Tryz.f49 f49_e.doms f49_e.cods a0 K =
    (br ((f58 a0).2 != 0)
    (K ((0, 0), (f58 a0).2))
    (br (lenOk (a0.length))
    (LoopP (V := Int × Int × Unit) (fun again v => (fun (again1 : Int → Int → Prop) (v1_0 : Int) (v1_1 : Int) =>
    br (decide (v1_1 < ((a0.length) : Int)))
    (br (decide (0 ≤ v1_1) && decide (v1_1 < ((a0.length) : Int)))
    (again1 (IntKind.i64.wrap (v1_0 + (IntKind.i64.wrap ((IntKind.i64.wrap (((a0.getD v1_1.toNat ((0, (0, 0)), (0, 0))).2).1 + ((a0.getD v1_1.toNat ((0, (0, 0)), (0, 0))).2).2)) * (IntKind.i64.wrap (((a0.getD v1_1.toNat ((0, (0, 0)), (0, 0))).2).1 + ((a0.getD v1_1.toNat ((0, (0, 0)), (0, 0))).2).2)))))) (IntKind.i64.wrap (v1_1 + 1)))
    False)
    (f64_pre ((IntKind.i64.wrap ((IntKind.i64.wrap ((IntKind.i64.wrap ((IntKind.i64.wrap (v1_0 * (f109 (((((f107 ((f58 a0).1)).1).1).1, ((((f107 ((f58 a0).1)).1).1).2)), ((((((f107 ((f58 a0).1)).1).2).1).1, (((((f107 ((f58 a0).1)).1).2).1).2)), (((((f107 ((f58 a0).1)).1).2).2).1, (((((f107 ((f58 a0).1)).1).2).2).2))))))) - (IntKind.i64.wrap (((f107 ((f58 a0).1)).2).1 * (f109 ((((f107 ((f58 a0).1)).2).1, ((((f107 ((f58 a0).1)).1).1).2)), (((((f107 ((f58 a0).1)).2).2).1, (((((f107 ((f58 a0).1)).1).2).1).2)), ((((f107 ((f58 a0).1)).2).2).2, (((((f107 ((f58 a0).1)).1).2).2).2))))))))) - (IntKind.i64.wrap ((((f107 ((f58 a0).1)).2).2).1 * (f109 (((((f107 ((f58 a0).1)).1).1).1, (((f107 ((f58 a0).1)).2).1, ((((f107 ((f58 a0).1)).1).1).2).2)), ((((((f107 ((f58 a0).1)).1).2).1).1, ((((f107 ((f58 a0).1)).2).2).1, (((((f107 ((f58 a0).1)).1).2).1).2).2)), (((((f107 ((f58 a0).1)).1).2).2).1, ((((f107 ((f58 a0).1)).2).2).2, (((((f107 ((f58 a0).1)).1).2).2).2).2))))))))) - (IntKind.i64.wrap ((((f107 ((f58 a0).1)).2).2).2 * (f109 (((((f107 ((f58 a0).1)).1).1).1, (((((f107 ((f58 a0).1)).1).1).2).1, ((f107 ((f58 a0).1)).2).1)), ((((((f107 ((f58 a0).1)).1).2).1).1, ((((((f107 ((f58 a0).1)).1).2).1).2).1, (((f107 ((f58 a0).1)).2).2).1)), (((((f107 ((f58 a0).1)).1).2).2).1, ((((((f107 ((f58 a0).1)).1).2).2).2).1, (((f107 ((f58 a0).1)).2).2).2))))))))), (IntKind.i64.wrap (4 * (f109 (((((f107 ((f58 a0).1)).1).1).1, ((((f107 ((f58 a0).1)).1).1).2)), ((((((f107 ((f58 a0).1)).1).2).1).1, (((((f107 ((f58 a0).1)).1).2).1).2)), (((((f107 ((f58 a0).1)).1).2).2).1, (((((f107 ((f58 a0).1)).1).2).2).2)))))))) ∧
    br (decide ((f64 ((IntKind.i64.wrap ((IntKind.i64.wrap ((IntKind.i64.wrap ((IntKind.i64.wrap (v1_0 * (f109 (((((f107 ((f58 a0).1)).1).1).1, ((((f107 ((f58 a0).1)).1).1).2)), ((((((f107 ((f58 a0).1)).1).2).1).1, (((((f107 ((f58 a0).1)).1).2).1).2)), (((((f107 ((f58 a0).1)).1).2).2).1, (((((f107 ((f58 a0).1)).1).2).2).2))))))) - (IntKind.i64.wrap (((f107 ((f58 a0).1)).2).1 * (f109 ((((f107 ((f58 a0).1)).2).1, ((((f107 ((f58 a0).1)).1).1).2)), (((((f107 ((f58 a0).1)).2).2).1, (((((f107 ((f58 a0).1)).1).2).1).2)), ((((f107 ((f58 a0).1)).2).2).2, (((((f107 ((f58 a0).1)).1).2).2).2))))))))) - (IntKind.i64.wrap ((((f107 ((f58 a0).1)).2).2).1 * (f109 (((((f107 ((f58 a0).1)).1).1).1, (((f107 ((f58 a0).1)).2).1, ((((f107 ((f58 a0).1)).1).1).2).2)), ((((((f107 ((f58 a0).1)).1).2).1).1, ((((f107 ((f58 a0).1)).2).2).1, (((((f107 ((f58 a0).1)).1).2).1).2).2)), (((((f107 ((f58 a0).1)).1).2).2).1, ((((f107 ((f58 a0).1)).2).2).2, (((((f107 ((f58 a0).1)).1).2).2).2).2))))))))) - (IntKind.i64.wrap ((((f107 ((f58 a0).1)).2).2).2 * (f109 (((((f107 ((f58 a0).1)).1).1).1, (((((f107 ((f58 a0).1)).1).1).2).1, ((f107 ((f58 a0).1)).2).1)), ((((((f107 ((f58 a0).1)).1).2).1).1, ((((((f107 ((f58 a0).1)).1).2).1).2).1, (((f107 ((f58 a0).1)).2).2).1)), (((((f107 ((f58 a0).1)).1).2).2).1, ((((((f107 ((f58 a0).1)).1).2).2).2).1, (((f107 ((f58 a0).1)).2).2).2))))))))), (IntKind.i64.wrap (4 * (f109 (((((f107 ((f58 a0).1)).1).1).1, ((((f107 ((f58 a0).1)).1).1).2)), ((((((f107 ((f58 a0).1)).1).2).1).1, (((((f107 ((f58 a0).1)).1).2).1).2)), (((((f107 ((f58 a0).1)).1).2).2).1, (((((f107 ((f58 a0).1)).1).2).2).2))))))))).1 > 1000000000))
    (K ((0, 0), 8))
    (br (decide ((f64 ((IntKind.i64.wrap ((IntKind.i64.wrap ((IntKind.i64.wrap ((IntKind.i64.wrap (v1_0 * (f109 (((((f107 ((f58 a0).1)).1).1).1, ((((f107 ((f58 a0).1)).1).1).2)), ((((((f107 ((f58 a0).1)).1).2).1).1, (((((f107 ((f58 a0).1)).1).2).1).2)), (((((f107 ((f58 a0).1)).1).2).2).1, (((((f107 ((f58 a0).1)).1).2).2).2))))))) - (IntKind.i64.wrap (((f107 ((f58 a0).1)).2).1 * (f109 ((((f107 ((f58 a0).1)).2).1, ((((f107 ((f58 a0).1)).1).1).2)), (((((f107 ((f58 a0).1)).2).2).1, (((((f107 ((f58 a0).1)).1).2).1).2)), ((((f107 ((f58 a0).1)).2).2).2, (((((f107 ((f58 a0).1)).1).2).2).2))))))))) - (IntKind.i64.wrap ((((f107 ((f58 a0).1)).2).2).1 * (f109 (((((f107 ((f58 a0).1)).1).1).1, (((f107 ((f58 a0).1)).2).1, ((((f107 ((f58 a0).1)).1).1).2).2)), ((((((f107 ((f58 a0).1)).1).2).1).1, ((((f107 ((f58 a0).1)).2).2).1, (((((f107 ((f58 a0).1)).1).2).1).2).2)), (((((f107 ((f58 a0).1)).1).2).2).1, ((((f107 ((f58 a0).1)).2).2).2, (((((f107 ((f58 a0).1)).1).2).2).2).2))))))))) - (IntKind.i64.wrap ((((f107 ((f58 a0).1)).2).2).2 * (f109 (((((f107 ((f58 a0).1)).1).1).1, (((((f107 ((f58 a0).1)).1).1).2).1, ((f107 ((f58 a0).1)).2).1)), ((((((f107 ((f58 a0).1)).1).2).1).1, ((((((f107 ((f58 a0).1)).1).2).1).2).1, (((f107 ((f58 a0).1)).2).2).1)), (((((f107 ((f58 a0).1)).1).2).2).1, ((((((f107 ((f58 a0).1)).1).2).2).2).1, (((f107 ((f58 a0).1)).2).2).2))))))))), (IntKind.i64.wrap (4 * (f109 (((((f107 ((f58 a0).1)).1).1).1, ((((f107 ((f58 a0).1)).1).1).2)), ((((((f107 ((f58 a0).1)).1).2).1).1, (((((f107 ((f58 a0).1)).1).2).1).2)), (((((f107 ((f58 a0).1)).1).2).2).1, (((((f107 ((f58 a0).1)).1).2).2).2))))))))).2 > 1000000000))
    (K ((0, 0), 8))
    (K ((f64 ((IntKind.i64.wrap ((IntKind.i64.wrap ((IntKind.i64.wrap ((IntKind.i64.wrap (v1_0 * (f109 (((((f107 ((f58 a0).1)).1).1).1, ((((f107 ((f58 a0).1)).1).1).2)), ((((((f107 ((f58 a0).1)).1).2).1).1, (((((f107 ((f58 a0).1)).1).2).1).2)), (((((f107 ((f58 a0).1)).1).2).2).1, (((((f107 ((f58 a0).1)).1).2).2).2))))))) - (IntKind.i64.wrap (((f107 ((f58 a0).1)).2).1 * (f109 ((((f107 ((f58 a0).1)).2).1, ((((f107 ((f58 a0).1)).1).1).2)), (((((f107 ((f58 a0).1)).2).2).1, (((((f107 ((f58 a0).1)).1).2).1).2)), ((((f107 ((f58 a0).1)).2).2).2, (((((f107 ((f58 a0).1)).1).2).2).2))))))))) - (IntKind.i64.wrap ((((f107 ((f58 a0).1)).2).2).1 * (f109 (((((f107 ((f58 a0).1)).1).1).1, (((f107 ((f58 a0).1)).2).1, ((((f107 ((f58 a0).1)).1).1).2).2)), ((((((f107 ((f58 a0).1)).1).2).1).1, ((((f107 ((f58 a0).1)).2).2).1, (((((f107 ((f58 a0).1)).1).2).1).2).2)), (((((f107 ((f58 a0).1)).1).2).2).1, ((((f107 ((f58 a0).1)).2).2).2, (((((f107 ((f58 a0).1)).1).2).2).2).2))))))))) - (IntKind.i64.wrap ((((f107 ((f58 a0).1)).2).2).2 * (f109 (((((f107 ((f58 a0).1)).1).1).1, (((((f107 ((f58 a0).1)).1).1).2).1, ((f107 ((f58 a0).1)).2).1)), ((((((f107 ((f58 a0).1)).1).2).1).1, ((((((f107 ((f58 a0).1)).1).2).1).2).1, (((f107 ((f58 a0).1)).2).2).1)), (((((f107 ((f58 a0).1)).1).2).2).1, ((((((f107 ((f58 a0).1)).1).2).2).2).1, (((f107 ((f58 a0).1)).2).2).2))))))))), (IntKind.i64.wrap (4 * (f109 (((((f107 ((f58 a0).1)).1).1).1, ((((f107 ((f58 a0).1)).1).1).2)), ((((((f107 ((f58 a0).1)).1).2).1).1, (((((f107 ((f58 a0).1)).1).2).1).2)), (((((f107 ((f58 a0).1)).1).2).2).1, (((((f107 ((f58 a0).1)).1).2).2).2))))))))), 0)))))
    (fun v1_0 v1_1 => again (v1_0, v1_1, ())) v.1 v.2.1) (0, 0, ()))
    True)) := by kernel_rfl
theorem f49_t (a0 : List ((Int × Int × Int) × Int × Int)) (K : ((Int × Int) × Int) → Prop) (hK : ∀ y : (Int × Int) × Int, y = f49 a0 → K y) : RunF Tryz.prog f49_E f49_A 6 Tryz.f49 f49_e.doms f49_e.cods a0 K := by
  refine ⟨?_⟩
  rw [f49_run a0 K]
  have e0 : f49 a0 = resW a0 := rfl
  have e95 : f58 a0 = (a0, openE a0) := rfl
  rw [e95]
  dsimp only
  refine br_two (fun h => hK _ ?_) fun h => ?_
  · rw [e0, resW, if_pos (bne_iff_ne.1 h)]
  have h : openE a0 = 0 := bne_f.1 h
  obtain ⟨h1, h3⟩ := openE_zero h
  have rok := rdOf_ok h1
  have hD := gD_pos rok h3
  have hDl := gD_le rok.sz
  have hR := gR_sz rok.sz hD
  rw [gram_ok rok]
  refine br_true_.2 fun hlen => ?_
  have hlen := lenOk_iff.1 hlen
  refine LoopP.up2 (a0.length : Int) (fun i u v => u = w64 (svv (a0.take i.toNat))) (fun again u i v hi0 hin hI hag => ?_) (by omega) rfl
  subst hI
  obtain ⟨k, rfl⟩ := Int.eq_ofNat_of_zero_le hi0
  rw [Int.toNat_natCast]
  dsimp only
  refine br_if (fun hlt => br_must (inb (by omega) (by omega)) ?_) fun hge => ?_
  · have hk : k < a0.length := by omega
    have hh := hag _ () hlt rfl
    rw [show ((k : Int) + 1).toNat = k + 1 by omega] at hh
    rw [wr (n := (k : Int) + 1) (by omega) (by omega)]
    have c1 : IntKind.i64.wrap (w64 (svv (a0.take k)) + ((a0.getD k ((0, 0, 0), 0, 0)).2.1 + (a0.getD k ((0, 0, 0), 0, 0)).2.2) * ((a0.getD k ((0, 0, 0), 0, 0)).2.1 + (a0.getD k ((0, 0, 0), 0, 0)).2.2)) = w64 (svv (a0.take (k + 1))) := sm_step (fun r => mid r * mid r) hk rfl
    simp only [wi_ar, wi_mr, wi_ml]
    rw [c1]
    exact hh
  · have : k = a0.length := by omega
    subst this
    rw [List.take_of_length_le (Nat.le_refl _)]
    have e104 : ∀ a b c : V3, f109 (a, b, c) = IntKind.i64.wrap (det a b c) := fun _ _ _ => rfl
    have eR : IntKind.i64.wrap (svv a0 * det (gram a0).1 (gram a0).2.1 (gram a0).2.2 - (vals a0).1 * det3 (c0 (gram a0) (vals a0)) - (vals a0).2.1 * det3 (c1 (gram a0) (vals a0)) - (vals a0).2.2 * det3 (c2 (gram a0) (vals a0))) = gR a0 := by
      have e : svv a0 * det (gram a0).1 (gram a0).2.1 (gram a0).2.2 - (vals a0).1 * det3 (c0 (gram a0) (vals a0)) - (vals a0).2.1 * det3 (c1 (gram a0) (vals a0)) - (vals a0).2.2 * det3 (c2 (gram a0) (vals a0)) = gR a0 := by
        have e2 : gR a0 = svv a0 * det (gram a0).1 (gram a0).2.1 (gram a0).2.2 - ((vals a0).1 * det3 (c0 (gram a0) (vals a0)) + (vals a0).2.1 * det3 (c1 (gram a0) (vals a0)) + (vals a0).2.2 * det3 (c2 (gram a0) (vals a0))) := rfl
        rw [e2]
        omega
      rw [e]
      exact w64_in (by omega) (by omega)
    have eD : IntKind.i64.wrap (4 * det (gram a0).1 (gram a0).2.1 (gram a0).2.2) = 4 * gD a0 := w64_in (by show _ ≤ 4 * gD a0; omega) (by show 4 * gD a0 ≤ _; omega)
    have e63 : f64 (gR a0, 4 * gD a0) = low (gR a0) (4 * gD a0) := rfl
    have p63 : f64_pre (gR a0, 4 * gD a0) := ⟨⟨by dsimp only; omega, by dsimp only; omega⟩, ⟨by dsimp only; omega, by dsimp only; omega⟩, by dsimp only; omega⟩
    unfold w64
    simp only [e104, wi_ar, wi_mr, wi_ml, wi_sl, wi_sr]
    unfold det3 c0 c1 c2 at eR
    rw [eR, eD, e63]
    have er : resW a0 = if (low (gR a0) (4 * gD a0)).1 > 1000000000 ∨ (low (gR a0) (4 * gD a0)).2 > 1000000000 then ((0, 0), 8) else (low (gR a0) (4 * gD a0), 0) := by
      rw [resW, if_neg (fun hh => hh h)]
    refine ⟨p63, br_if (fun c => hK _ ?_) fun c => br_if (fun c' => hK _ ?_) fun c' => hK _ ?_⟩
    · rw [e0, er, if_pos (.inl c)]
    · rw [e0, er, if_pos (.inr c')]
    · rw [e0, er, if_neg (fun hh => hh.elim c c')]
theorem f49_fn : f49_e.fn = f49 := rfl
theorem f49_ok : EntryOK Tryz.prog 49 f49_e := by
  refine entryF progOK (EnvOK.cons f58_ok (EnvOK.cons f64_ok (EnvOK.cons f107_ok (EnvOK.cons f109_ok (EnvOK.nil))))) (A := f49_A) (d := 6) Tryz.func49 rfl rfl rfl rfl (fun _ _ => trivial) fun x hpre => ?_
  exact f49_t x _ fun _ h => h.trans (congrFun f49_fn.symm _)
end Go.Proofs.YtglijnhkdnhofaaGreat
end

section
namespace Go.Proofs.YtglijnhkdnhofaaGreat
open Go Go.Pi Go.RowKit
set_option maxRecDepth 100000
set_option linter.unusedVariables false
set_option linter.unusedSimpArgs false

def f95 (v : Int × Int × Int × Int) : Int := windE v
def f95_e : Entry := { doms := [(true, (.pair (.int .i64) (.pair (.int .i64) (.pair (.int .i64) (.int .i64)))))], cods := [(false, (.int .i64))], pre := fun _ => True, fn := f95, uq := false, total := true }
def f95_E : Env := [(83, f83_e), (84, f84_e), (85, f85_e), (126, f126_e)]
def f95_A : Anns := { loops := [], own := [] }
theorem f95_run (a0 : Int × Int × Int × Int) (K : Int → Prop) : runF Tryz.prog f95_E f95_A 6 Tryz.f95 f95_e.doms f95_e.cods a0 K =
    (br (f84 (a0.2.2.2, (1, 1000000000)))
    (br (f85 (a0.1, 1000000000000))
    (br (f85 (a0.2.1, 1000000000000))
    (br (!(f85 (a0.2.2.1, 1000000000000)))
    (K 2)
    (f126_pre ([a0.2.2.2, a0.1, a0.2.1, a0.2.2.1] : List Int) ∧
    K (f83 (((f126 ([a0.2.2.2, a0.1, a0.2.1, a0.2.2.1] : List Int)) == 1), 3))))
    (K 2))
    (K 2))
    (K 2)) := by kernel_rfl
theorem f95_t (a0 : Int × Int × Int × Int) (K : Int → Prop) (hK : ∀ y : Int, y = f95 a0 → K y) : RunF Tryz.prog f95_E f95_A 6 Tryz.f95 f95_e.doms f95_e.cods a0 K := by
  refine ⟨?_⟩
  rw [f95_run a0 K]
  have e : ∀ n : Int, f85 (n, 1000000000000) = decide (-1000000000000 ≤ n ∧ n ≤ 1000000000000) := fun n => f85_eq (by omega) (by omega)
  rw [f84_eq]
  simp only [e]
  refine br_two (fun h1 => br_two (fun h2 => br_two (fun h3 => br_two (fun h4 => hK _ ?_) fun h4 => ⟨?_, hK _ ?_⟩) fun h3 => hK _ ?_) fun h2 => hK _ ?_) fun h1 => hK _ ?_
  · rw [f95, windE, if_pos (fun h => nd_t.1 h4 h.2.2.2)]
  · simp only [decide_eq_true_eq] at h1 h2 h3
    have h4 := nd_f.1 h4
    intro n hn
    simp only [List.mem_cons, List.not_mem_nil, or_false] at hn
    rcases hn with rfl | rfl | rfl | rfl <;> constructor <;> omega
  · simp only [decide_eq_true_eq] at h1 h2 h3
    have h4 := nd_f.1 h4
    rw [f95, windE, if_neg (fun h => h ⟨h1, h2, h3, h4⟩), f83, f126]
    by_cases hg : gcdL [a0.2.2.2, a0.1, a0.2.1, a0.2.2.1] = 1
    · rw [hg]; rfl
    · rw [if_neg hg]
      have : (((gcdL [a0.2.2.2, a0.1, a0.2.1, a0.2.2.1] : Nat) : Int) == 1) = false := by rw [beq_eq_false_iff_ne]; omega
      rw [this]; rfl
  · rw [f95, windE, if_pos (fun h => by rw [decide_eq_false_iff_not] at h3; exact h3 h.2.2.1)]
  · rw [f95, windE, if_pos (fun h => by rw [decide_eq_false_iff_not] at h2; exact h2 h.2.1)]
  · rw [f95, windE, if_pos (fun h => by rw [decide_eq_false_iff_not] at h1; exact h1 h.1)]
theorem f95_fn : f95_e.fn = f95 := rfl
theorem f95_ok : EntryOK Tryz.prog 95 f95_e := by
  refine entryF progOK (EnvOK.cons f83_ok (EnvOK.cons f84_ok (EnvOK.cons f85_ok (EnvOK.cons f126_ok (EnvOK.nil))))) (A := f95_A) (d := 6) Tryz.func95 rfl rfl rfl rfl (fun _ _ => trivial) fun x hpre => ?_
  exact f95_t x _ fun _ h => h.trans (congrFun f95_fn.symm _)
end Go.Proofs.YtglijnhkdnhofaaGreat
end

section
namespace Go.Proofs.YtglijnhkdnhofaaGreat
open Go Go.Pi Go.RowKit
set_option maxRecDepth 100000
set_option linter.unusedVariables false
set_option linter.unusedSimpArgs false

def f50 (x : List ((Int × Int × Int) × Int × Int) × Int × Int × Int × Int) : Int × Int := ckW x.1 x.2
def ckf (f : Rd → Int) (v : WV) (r : Rd) : Int := f r * (mid r * v.2.2.2 - 2 * dot (wpt v) r.1)
def f50_e : Entry := { doms := [(false, (.sl (.pair (.pair (.int .i64) (.pair (.int .i64) (.int .i64))) (.pair (.int .i64) (.int .i64))))), (true, (.pair (.int .i64) (.pair (.int .i64) (.pair (.int .i64) (.int .i64)))))], cods := [(false, (.int .i64)), (false, (.int .i64))], pre := fun _ => True, fn := f50, uq := false, total := true }
def f50_E : Env := [(58, f58_e), (61, f61_e), (65, f65_e), (66, f66_e), (95, f95_e)]
def f50_A : Anns := { loops := [(1048576, { tms := [(3, .keep), (8, .keep), (29, .keep), (30, .keep), (31, .data false (.int .i64))], obs := [(1048576, .keep), (1053696, .arr (.fixed 3) (.int .i64))], fz := [] })], own := [], unroll := 4 }
theorem f50_run (a0 : List ((Int × Int × Int) × Int × Int)) (a1 : Int × Int × Int × Int) (K : (Int × Int) → Prop) : runF Tryz.prog f50_E f50_A 6 Tryz.f50 f50_e.doms f50_e.cods (a0, a1) K =
    (br ((f61 ([(f58 a0).2, (f95 a1)] : List Int)) != 0)
    (K (0, (f61 ([(f58 a0).2, (f95 a1)] : List Int))))
    (br (lenOk (a0.length))
    (LoopP (V := Int × List Int × Unit) (fun again v => (fun (again1 : Int → List Int → Prop) (v1_0 : Int) (v1_1 : List Int) =>
    br (decide (v1_0 < ((a0.length) : Int)))
    (br (decide (0 ≤ v1_0) && decide (v1_0 < ((a0.length) : Int)))
    (again1 (IntKind.i64.wrap (v1_0 + 1)) (((v1_1.set 0 (IntKind.i64.wrap ((v1_1.getD 0 0) + (IntKind.i64.wrap (((a0.getD v1_0.toNat ((0, (0, 0)), (0, 0))).1).1 * (IntKind.i64.wrap ((IntKind.i64.wrap ((IntKind.i64.wrap (((a0.getD v1_0.toNat ((0, (0, 0)), (0, 0))).2).1 + ((a0.getD v1_0.toNat ((0, (0, 0)), (0, 0))).2).2)) * a1.2.2.2)) - (IntKind.i64.wrap (2 * (f66 (((f65 a1).1, ((f65 a1).2)), (((a0.getD v1_0.toNat ((0, (0, 0)), (0, 0))).1).1, (((a0.getD v1_0.toNat ((0, (0, 0)), (0, 0))).1).2))))))))))))).set 1 (IntKind.i64.wrap (((v1_1.set 0 (IntKind.i64.wrap ((v1_1.getD 0 0) + (IntKind.i64.wrap (((a0.getD v1_0.toNat ((0, (0, 0)), (0, 0))).1).1 * (IntKind.i64.wrap ((IntKind.i64.wrap ((IntKind.i64.wrap (((a0.getD v1_0.toNat ((0, (0, 0)), (0, 0))).2).1 + ((a0.getD v1_0.toNat ((0, (0, 0)), (0, 0))).2).2)) * a1.2.2.2)) - (IntKind.i64.wrap (2 * (f66 (((f65 a1).1, ((f65 a1).2)), (((a0.getD v1_0.toNat ((0, (0, 0)), (0, 0))).1).1, (((a0.getD v1_0.toNat ((0, (0, 0)), (0, 0))).1).2))))))))))))).getD 1 0) + (IntKind.i64.wrap ((((a0.getD v1_0.toNat ((0, (0, 0)), (0, 0))).1).2).1 * (IntKind.i64.wrap ((IntKind.i64.wrap ((IntKind.i64.wrap (((a0.getD v1_0.toNat ((0, (0, 0)), (0, 0))).2).1 + ((a0.getD v1_0.toNat ((0, (0, 0)), (0, 0))).2).2)) * a1.2.2.2)) - (IntKind.i64.wrap (2 * (f66 (((f65 a1).1, ((f65 a1).2)), (((a0.getD v1_0.toNat ((0, (0, 0)), (0, 0))).1).1, (((a0.getD v1_0.toNat ((0, (0, 0)), (0, 0))).1).2))))))))))))).set 2 (IntKind.i64.wrap ((((v1_1.set 0 (IntKind.i64.wrap ((v1_1.getD 0 0) + (IntKind.i64.wrap (((a0.getD v1_0.toNat ((0, (0, 0)), (0, 0))).1).1 * (IntKind.i64.wrap ((IntKind.i64.wrap ((IntKind.i64.wrap (((a0.getD v1_0.toNat ((0, (0, 0)), (0, 0))).2).1 + ((a0.getD v1_0.toNat ((0, (0, 0)), (0, 0))).2).2)) * a1.2.2.2)) - (IntKind.i64.wrap (2 * (f66 (((f65 a1).1, ((f65 a1).2)), (((a0.getD v1_0.toNat ((0, (0, 0)), (0, 0))).1).1, (((a0.getD v1_0.toNat ((0, (0, 0)), (0, 0))).1).2))))))))))))).set 1 (IntKind.i64.wrap (((v1_1.set 0 (IntKind.i64.wrap ((v1_1.getD 0 0) + (IntKind.i64.wrap (((a0.getD v1_0.toNat ((0, (0, 0)), (0, 0))).1).1 * (IntKind.i64.wrap ((IntKind.i64.wrap ((IntKind.i64.wrap (((a0.getD v1_0.toNat ((0, (0, 0)), (0, 0))).2).1 + ((a0.getD v1_0.toNat ((0, (0, 0)), (0, 0))).2).2)) * a1.2.2.2)) - (IntKind.i64.wrap (2 * (f66 (((f65 a1).1, ((f65 a1).2)), (((a0.getD v1_0.toNat ((0, (0, 0)), (0, 0))).1).1, (((a0.getD v1_0.toNat ((0, (0, 0)), (0, 0))).1).2))))))))))))).getD 1 0) + (IntKind.i64.wrap ((((a0.getD v1_0.toNat ((0, (0, 0)), (0, 0))).1).2).1 * (IntKind.i64.wrap ((IntKind.i64.wrap ((IntKind.i64.wrap (((a0.getD v1_0.toNat ((0, (0, 0)), (0, 0))).2).1 + ((a0.getD v1_0.toNat ((0, (0, 0)), (0, 0))).2).2)) * a1.2.2.2)) - (IntKind.i64.wrap (2 * (f66 (((f65 a1).1, ((f65 a1).2)), (((a0.getD v1_0.toNat ((0, (0, 0)), (0, 0))).1).1, (((a0.getD v1_0.toNat ((0, (0, 0)), (0, 0))).1).2))))))))))))).getD 2 0) + (IntKind.i64.wrap ((((a0.getD v1_0.toNat ((0, (0, 0)), (0, 0))).1).2).2 * (IntKind.i64.wrap ((IntKind.i64.wrap ((IntKind.i64.wrap (((a0.getD v1_0.toNat ((0, (0, 0)), (0, 0))).2).1 + ((a0.getD v1_0.toNat ((0, (0, 0)), (0, 0))).2).2)) * a1.2.2.2)) - (IntKind.i64.wrap (2 * (f66 (((f65 a1).1, ((f65 a1).2)), (((a0.getD v1_0.toNat ((0, (0, 0)), (0, 0))).1).1, (((a0.getD v1_0.toNat ((0, (0, 0)), (0, 0))).1).2))))))))))))))
    False)
    (br ((v1_1.getD 0 0) != 0)
    (K (0, 17))
    (br ((v1_1.getD 1 0) != 0)
    (K (1, 17))
    (br ((v1_1.getD 2 0) != 0)
    (K (2, 17))
    (K (0, 0))))))
    (fun v1_0 v1_1 => again (v1_0, v1_1, ())) v.1 v.2.1) (0, ([0, 0, 0] : List Int), ()))
    True)) := by kernel_rfl
theorem f50_t (a0 : List ((Int × Int × Int) × Int × Int)) (a1 : Int × Int × Int × Int) (K : (Int × Int) → Prop) (hK : ∀ y : Int × Int, y = f50 (a0, a1) → K y) : RunF Tryz.prog f50_E f50_A 6 Tryz.f50 f50_e.doms f50_e.cods (a0, a1) K := by
  refine ⟨?_⟩
  rw [f50_run a0 a1 K]
  have e0 : f50 (a0, a1) = ckW a0 a1 := rfl
  have e95 : (f58 a0).2 = openE a0 := rfl
  have e82 : f95 a1 = windE a1 := rfl
  have e59 : f61 [openE a0, windE a1] = if openE a0 ≠ 0 then openE a0 else windE a1 := by
    unfold f61
    by_cases h : openE a0 = 0
    · by_cases h2 : windE a1 = 0
      · rw [h, h2]; rfl
      · rw [if_neg (fun hh => hh h), h]
        simp [List.find?, h2]
        have : (windE a1 != 0) = true := by simpa using h2
        rw [this]
    · rw [if_pos h]
      have : (openE a0 != 0) = true := by simpa using h
      simp only [List.find?, this]
  rw [e95, e82, e59]
  by_cases h1 : openE a0 ≠ 0
  · rw [if_pos h1]
    refine br_two (fun h => hK _ ?_) fun h => absurd (bne_f.1 h) h1
    rw [e0, ckW, if_pos h1]
  rw [if_neg h1]
  refine br_two (fun h => hK _ ?_) fun h => ?_
  · rw [e0, ckW, if_neg h1, if_pos (bne_iff_ne.1 h)]
  have h2 : windE a1 = 0 := bne_f.1 h
  refine br_true_.2 fun hlen => ?_
  have hlen := lenOk_iff.1 hlen
  refine LoopP.up (a0.length : Int) (fun i v => v = ([w64 (ckS dx a1 (a0.take i.toNat)), w64 (ckS dy a1 (a0.take i.toNat)), w64 (ckS dz a1 (a0.take i.toNat))], ())) (fun again i v hi0 hin hI hag => ?_) (by omega) rfl
  subst hI
  obtain ⟨k, rfl⟩ := Int.eq_ofNat_of_zero_le hi0
  rw [Int.toNat_natCast]
  dsimp only
  refine br_if (fun hlt => br_must (inb (by omega) (by omega)) ?_) fun hge => ?_
  · have hk : k < a0.length := by omega
    have hh := hag _ hlt rfl
    rw [show ((k : Int) + 1).toNat = k + 1 by omega] at hh
    rw [wr (n := (k : Int) + 1) (by omega) (by omega)]
    have e103 : ∀ d : V3, f66 (((f65 a1).1, ((f65 a1).2)), d) = IntKind.i64.wrap (dot (wpt a1) d) := fun _ => rfl
    simp only [e103, List.set_cons_zero, List.set_cons_succ, List.getD_cons_zero, List.getD_cons_succ]
    have st : ∀ (f : Rd → Int) {n : Int}, n = f (a0.getD k rd0) → IntKind.i64.wrap (w64 (ckS f a1 (a0.take k)) + IntKind.i64.wrap (n * IntKind.i64.wrap (IntKind.i64.wrap (IntKind.i64.wrap ((a0.getD k rd0).2.1 + (a0.getD k rd0).2.2) * a1.2.2.2) - IntKind.i64.wrap (2 * IntKind.i64.wrap (dot (wpt a1) (a0.getD k rd0).1))))) = w64 (ckS f a1 (a0.take (k + 1))) := fun f n hn => by
      simp only [wi_ar, wi_mr, wi_ml, wi_sl, wi_sr]
      exact sm_step (ckf f a1) hk (by rw [hn]; rfl)
    have c1 := st dx (n := (a0.getD k rd0).1.1) rfl
    have c2 := st dy (n := (a0.getD k rd0).1.2.1) rfl
    have c3 := st dz (n := (a0.getD k rd0).1.2.2) rfl
    rw [← c1, ← c2, ← c3] at hh
    exact hh
  · have : k = a0.length := by omega
    subst this
    rw [List.take_of_length_le (Nat.le_refl _)]
    have ec : ckW a0 a1 = if w64 (ckS dx a1 a0) ≠ 0 then (0, 17) else if w64 (ckS dy a1 a0) ≠ 0 then (1, 17) else if w64 (ckS dz a1 a0) ≠ 0 then (2, 17) else (0, 0) := by
      rw [ckW, if_neg h1, if_neg (fun hh => hh h2)]
    simp only [List.getD_cons_zero, List.getD_cons_succ]
    refine br_two (fun h => hK _ ?_) fun h => br_two (fun h' => hK _ ?_) fun h' => br_two (fun h'' => hK _ ?_) fun h'' => hK _ ?_
    · rw [e0, ec, if_pos (bne_iff_ne.1 h)]
    · rw [e0, ec, if_neg (fun hh => hh (bne_f.1 h)), if_pos (bne_iff_ne.1 h')]
    · rw [e0, ec, if_neg (fun hh => hh (bne_f.1 h)), if_neg (fun hh => hh (bne_f.1 h')), if_pos (bne_iff_ne.1 h'')]
    · rw [e0, ec, if_neg (fun hh => hh (bne_f.1 h)), if_neg (fun hh => hh (bne_f.1 h')), if_neg (fun hh => hh (bne_f.1 h''))]
theorem f50_fn : f50_e.fn = f50 := rfl
theorem f50_ok : EntryOK Tryz.prog 50 f50_e := by
  refine entryF progOK (EnvOK.cons f58_ok (EnvOK.cons f61_ok (EnvOK.cons f65_ok (EnvOK.cons f66_ok (EnvOK.cons f95_ok (EnvOK.nil)))))) (A := f50_A) (d := 6) Tryz.func50 rfl rfl rfl rfl (fun _ _ => trivial) fun x hpre => ?_
  obtain ⟨a0, a1⟩ := x
  exact f50_t a0 a1 _ fun _ h => h.trans (congrFun f50_fn.symm _)
end Go.Proofs.YtglijnhkdnhofaaGreat
end

section
namespace Go.Proofs.YtglijnhkdnhofaaGreat
open Go Go.Pi Go.RowKit
set_option maxRecDepth 100000
set_option linter.unusedVariables false
set_option linter.unusedSimpArgs false

def f37 (x : Int × Int × Int × Int) : Int × Int × Int := (x.1, x.2.1, x.2.2.1)
def f37_e : Entry := { doms := [(true, (.pair (.int .i64) (.pair (.int .i64) (.pair (.int .i64) (.int .i64)))))], cods := [(true, (.pair (.int .i64) (.pair (.int .i64) (.int .i64))))], pre := fun _ => True, fn := f37, uq := false, total := true }
def f37_E : Env := []
def f37_A : Anns := { loops := [], own := [] }
theorem f37_run (a0 : Int × Int × Int × Int) (K : (Int × Int × Int) → Prop) : runF Tryz.prog f37_E f37_A 6 Tryz.f37 f37_e.doms f37_e.cods a0 K =
    (K (a0.1, (a0.2.1, a0.2.2.1))) := by kernel_rfl
theorem f37_t (a0 : Int × Int × Int × Int) (K : (Int × Int × Int) → Prop) (hK : ∀ y : Int × Int × Int, y = f37 a0 → K y) : RunF Tryz.prog f37_E f37_A 6 Tryz.f37 f37_e.doms f37_e.cods a0 K := by
  refine ⟨?_⟩
  rw [f37_run a0 K]
  exact hK _ rfl
theorem f37_fn : f37_e.fn = f37 := rfl
theorem f37_ok : EntryOK Tryz.prog 37 f37_e := by
  refine entryF progOK (EnvOK.nil) (A := f37_A) (d := 6) Tryz.func37 rfl rfl rfl rfl (fun _ _ => trivial) fun x hpre => ?_
  exact f37_t x _ fun _ h => h.trans (congrFun f37_fn.symm _)
end Go.Proofs.YtglijnhkdnhofaaGreat
end

section
namespace Go.Proofs.YtglijnhkdnhofaaGreat
open Go Go.Pi Go.RowKit
set_option maxRecDepth 100000
set_option linter.unusedVariables false
set_option linter.unusedSimpArgs false

def f127 (x : (Int × Int × Int) × Int) : Int × Int × Int × Int := lowV x.1 x.2
def f127_pre (x : (Int × Int × Int) × Int) : Prop := (Fit x.1.1 ∧ Fit x.1.2.1 ∧ Fit x.1.2.2) ∧ Fit x.2 ∧ x.2 ≠ 0
def f127_e : Entry := { doms := [(true, (.pair (.int .i64) (.pair (.int .i64) (.int .i64)))), (false, (.int .i64))], cods := [(true, (.pair (.int .i64) (.pair (.int .i64) (.pair (.int .i64) (.int .i64)))))], pre := f127_pre, fn := f127, uq := false, total := false }
def f127_E : Env := [(94, f94_e)]
def f127_A : Anns := { loops := [], own := [] }
theorem f127_run (a0 : Int × Int × Int) (a1 : Int) (K : (Int × Int × Int × Int) → Prop) : runF Tryz.prog f127_E f127_A 6 Tryz.f127 f127_e.doms f127_e.cods (a0, a1) K =
    (f94_pre a0.2 ∧
    f94_pre (a0.1, (f94 a0.2)) ∧
    f94_pre (a1, (f94 (a0.1, (f94 a0.2)))) ∧
    br (decide (a1 < 0))
    (br (!(decide ((IntKind.i64.wrap (0 - (f94 (a1, (f94 (a0.1, (f94 a0.2))))))) = 0)))
    (br (!(decide ((IntKind.i64.wrap (0 - (f94 (a1, (f94 (a0.1, (f94 a0.2))))))) = 0)))
    (br (!(decide ((IntKind.i64.wrap (0 - (f94 (a1, (f94 (a0.1, (f94 a0.2))))))) = 0)))
    (br (!(decide ((IntKind.i64.wrap (0 - (f94 (a1, (f94 (a0.1, (f94 a0.2))))))) = 0)))
    (K ((IntKind.i64.wrap (a0.1.tdiv (IntKind.i64.wrap (0 - (f94 (a1, (f94 (a0.1, (f94 a0.2))))))))), ((IntKind.i64.wrap (a0.2.1.tdiv (IntKind.i64.wrap (0 - (f94 (a1, (f94 (a0.1, (f94 a0.2))))))))), ((IntKind.i64.wrap (a0.2.2.tdiv (IntKind.i64.wrap (0 - (f94 (a1, (f94 (a0.1, (f94 a0.2))))))))), (IntKind.i64.wrap (a1.tdiv (IntKind.i64.wrap (0 - (f94 (a1, (f94 (a0.1, (f94 a0.2)))))))))))))
    False)
    False)
    False)
    False)
    (br (!(decide ((f94 (a1, (f94 (a0.1, (f94 a0.2))))) = 0)))
    (br (!(decide ((f94 (a1, (f94 (a0.1, (f94 a0.2))))) = 0)))
    (br (!(decide ((f94 (a1, (f94 (a0.1, (f94 a0.2))))) = 0)))
    (br (!(decide ((f94 (a1, (f94 (a0.1, (f94 a0.2))))) = 0)))
    (K ((IntKind.i64.wrap (a0.1.tdiv (f94 (a1, (f94 (a0.1, (f94 a0.2))))))), ((IntKind.i64.wrap (a0.2.1.tdiv (f94 (a1, (f94 (a0.1, (f94 a0.2))))))), ((IntKind.i64.wrap (a0.2.2.tdiv (f94 (a1, (f94 (a0.1, (f94 a0.2))))))), (IntKind.i64.wrap (a1.tdiv (f94 (a1, (f94 (a0.1, (f94 a0.2)))))))))))
    False)
    False)
    False)
    False)) := by kernel_rfl
theorem f127_t (a0 : Int × Int × Int) (a1 : Int) (hpre : f127_pre (a0, a1)) (K : (Int × Int × Int × Int) → Prop) (hK : ∀ y : Int × Int × Int × Int, y = f127 (a0, a1) → K y) : RunF Tryz.prog f127_E f127_A 6 Tryz.f127 f127_e.doms f127_e.cods (a0, a1) K := by
  refine ⟨?_⟩
  rw [f127_run a0 a1 K]
  obtain ⟨⟨h1, h2, h3⟩, hd, hne⟩ := hpre
  dsimp only at h1 h2 h3 hd hne
  have eg : f94 (a1, f94 (a0.1, f94 a0.2)) = (g4 a0 a1 : Int) := by
    show ((Nat.gcd _ _ : Nat) : Int) = _
    unfold g4
    rw [gcdL_four]
    simp only [f94, Int.natAbs_natCast]
  have gl : ∀ a b : Int, Fit a → Fit b → Fit (f94 (a, b)) := fun a b ha hb => fit_nat (gcd_fit (fit_abs ha) (fit_abs hb))
  have g1 : Fit (f94 a0.2) := gl a0.2.1 a0.2.2 h2 h3
  have g2 : Fit (f94 (a0.1, f94 a0.2)) := gl _ _ h1 g1
  have hg := gl _ _ hd g2
  rw [eg] at hg ⊢
  have hle : (g4 a0 a1 : Int) ≤ 9223372036854775807 := hg.2
  have hpos := g4_pos (p := a0) hne
  have hng : IntKind.i64.wrap (0 - (g4 a0 a1 : Int)) = -(g4 a0 a1 : Int) := by rw [wr (by omega) (by omega)]; omega
  have hw : ∀ n m : Int, Fit n → IntKind.i64.wrap (n.tdiv m) = n.tdiv m := fun n m h => w64_fit (tdiv_fit h)
  have ef : f127 (a0, a1) = lowV a0 a1 := rfl
  rw [hng]
  refine ⟨⟨h2, h3⟩, ⟨h1, g1⟩, ⟨hd, g2⟩, br_if (fun h => ?_) fun h => ?_⟩
  · have hn := ne_zero_b (show -(g4 a0 a1 : Int) ≠ 0 by omega)
    refine br_must hn (br_must hn (br_must hn (br_must hn (hK _ ?_))))
    rw [hw _ _ h1, hw _ _ h2, hw _ _ h3, hw _ _ hd, ef]
    simp only [lowV, s4, if_pos h]
  · have hn := ne_zero_b (show (g4 a0 a1 : Int) ≠ 0 by omega)
    refine br_must hn (br_must hn (br_must hn (br_must hn (hK _ ?_))))
    rw [hw _ _ h1, hw _ _ h2, hw _ _ h3, hw _ _ hd, ef]
    simp only [lowV, s4, if_neg h]
theorem f127_fn : f127_e.fn = f127 := rfl
theorem f127_ok : EntryOK Tryz.prog 127 f127_e := by
  refine entryF progOK (EnvOK.cons f94_ok (EnvOK.nil)) (A := f127_A) (d := 6) Tryz.func127 rfl rfl rfl rfl (fun h => by cases h) fun x hpre => ?_
  obtain ⟨a0, a1⟩ := x
  exact f127_t a0 a1 hpre _ fun _ h => h.trans (congrFun f127_fn.symm _)
end Go.Proofs.YtglijnhkdnhofaaGreat
end

section
namespace Go.Proofs.YtglijnhkdnhofaaGreat
open Go Go.Pi Go.RowKit
set_option maxRecDepth 100000
set_option linter.unusedVariables false
set_option linter.unusedSimpArgs false

def f73 (x : ((Int × Int × Int) × (Int × Int × Int) × Int × Int × Int) × Int × Int × Int) : Int × Int × Int × Int := lowV (det3 (c0 x.1 x.2), det3 (c1 x.1 x.2), det3 (c2 x.1 x.2)) (det3 x.1)
def f73_pre (x : ((Int × Int × Int) × (Int × Int × Int) × Int × Int × Int) × Int × Int × Int) : Prop := (Fit (det3 (c0 x.1 x.2)) ∧ Fit (det3 (c1 x.1 x.2)) ∧ Fit (det3 (c2 x.1 x.2))) ∧ Fit (det3 x.1) ∧ det3 x.1 ≠ 0
theorem f73_sml {m : M3} {v : V3} (hs : Sml m v) (h0 : det3 m ≠ 0) : f73_pre (m, v) := by
  have hc := hs.cs
  have hd := hs.det
  exact ⟨⟨fit_le hc.1 (by omega), fit_le hc.2.1 (by omega), fit_le hc.2.2 (by omega)⟩, fit_le hd (by omega), h0⟩
def f73_e : Entry := { doms := [(true, (.pair (.pair (.int .i64) (.pair (.int .i64) (.int .i64))) (.pair (.pair (.int .i64) (.pair (.int .i64) (.int .i64))) (.pair (.int .i64) (.pair (.int .i64) (.int .i64)))))), (true, (.pair (.int .i64) (.pair (.int .i64) (.int .i64))))], cods := [(true, (.pair (.int .i64) (.pair (.int .i64) (.pair (.int .i64) (.int .i64)))))], pre := f73_pre, fn := f73, uq := false, total := false }
def f73_E : Env := [(72, f72_e), (127, f127_e)]
def f73_A : Anns := { loops := [], own := [1152921504607901697, 1152921504608950273, 1152921504609998849], unroll := 4 }
theorem f73_run (a0 : (Int × Int × Int) × (Int × Int × Int) × Int × Int × Int) (a1 : Int × Int × Int) (K : (Int × Int × Int × Int) → Prop) : runF Tryz.prog f73_E f73_A 6 Tryz.f73 f73_e.doms f73_e.cods (a0, a1) K =
    (f127_pre (((f72 ((a1.1, a0.1.2), ((a1.2.1, a0.2.1.2), (a1.2.2, a0.2.2.2)))), ((f72 ((a0.1.1, (a1.1, a0.1.2.2)), ((a0.2.1.1, (a1.2.1, a0.2.1.2.2)), (a0.2.2.1, (a1.2.2, a0.2.2.2.2))))), (f72 ((a0.1.1, (a0.1.2.1, a1.1)), ((a0.2.1.1, (a0.2.1.2.1, a1.2.1)), (a0.2.2.1, (a0.2.2.2.1, a1.2.2))))))), (f72 a0)) ∧
    K ((f127 (((f72 ((a1.1, a0.1.2), ((a1.2.1, a0.2.1.2), (a1.2.2, a0.2.2.2)))), ((f72 ((a0.1.1, (a1.1, a0.1.2.2)), ((a0.2.1.1, (a1.2.1, a0.2.1.2.2)), (a0.2.2.1, (a1.2.2, a0.2.2.2.2))))), (f72 ((a0.1.1, (a0.1.2.1, a1.1)), ((a0.2.1.1, (a0.2.1.2.1, a1.2.1)), (a0.2.2.1, (a0.2.2.2.1, a1.2.2))))))), (f72 a0))).1, (((f127 (((f72 ((a1.1, a0.1.2), ((a1.2.1, a0.2.1.2), (a1.2.2, a0.2.2.2)))), ((f72 ((a0.1.1, (a1.1, a0.1.2.2)), ((a0.2.1.1, (a1.2.1, a0.2.1.2.2)), (a0.2.2.1, (a1.2.2, a0.2.2.2.2))))), (f72 ((a0.1.1, (a0.1.2.1, a1.1)), ((a0.2.1.1, (a0.2.1.2.1, a1.2.1)), (a0.2.2.1, (a0.2.2.2.1, a1.2.2))))))), (f72 a0))).2).1, (((f127 (((f72 ((a1.1, a0.1.2), ((a1.2.1, a0.2.1.2), (a1.2.2, a0.2.2.2)))), ((f72 ((a0.1.1, (a1.1, a0.1.2.2)), ((a0.2.1.1, (a1.2.1, a0.2.1.2.2)), (a0.2.2.1, (a1.2.2, a0.2.2.2.2))))), (f72 ((a0.1.1, (a0.1.2.1, a1.1)), ((a0.2.1.1, (a0.2.1.2.1, a1.2.1)), (a0.2.2.1, (a0.2.2.2.1, a1.2.2))))))), (f72 a0))).2).2)))) := by kernel_rfl
theorem f73_t (a0 : (Int × Int × Int) × (Int × Int × Int) × Int × Int × Int) (a1 : Int × Int × Int) (hpre : f73_pre (a0, a1)) (K : (Int × Int × Int × Int) → Prop) (hK : ∀ y : Int × Int × Int × Int, y = f73 (a0, a1) → K y) : RunF Tryz.prog f73_E f73_A 6 Tryz.f73 f73_e.doms f73_e.cods (a0, a1) K := by
  refine ⟨?_⟩
  rw [f73_run a0 a1 K]
  obtain ⟨⟨h1, h2, h3⟩, hd, h0⟩ := hpre
  dsimp only at h1 h2 h3 hd h0
  have e0 : f72 a0 = det3 a0 := w64_fit hd
  have e1 : f72 (c0 a0 a1) = det3 (c0 a0 a1) := w64_fit h1
  have e2 : f72 (c1 a0 a1) = det3 (c1 a0 a1) := w64_fit h2
  have e3 : f72 (c2 a0 a1) = det3 (c2 a0 a1) := w64_fit h3
  refine ⟨?_, hK _ ?_⟩
  · show f127_pre ((f72 (c0 a0 a1), f72 (c1 a0 a1), f72 (c2 a0 a1)), f72 a0)
    rw [e0, e1, e2, e3]
    exact ⟨⟨h1, h2, h3⟩, hd, h0⟩
  · show lowV (f72 (c0 a0 a1), f72 (c1 a0 a1), f72 (c2 a0 a1)) (f72 a0) = f73 (a0, a1)
    rw [e0, e1, e2, e3]; rfl
theorem f73_fn : f73_e.fn = f73 := rfl
theorem f73_ok : EntryOK Tryz.prog 73 f73_e := by
  refine entryF progOK (EnvOK.cons f72_ok (EnvOK.cons f127_ok (EnvOK.nil))) (A := f73_A) (d := 6) Tryz.func73 rfl rfl rfl rfl (fun h => by cases h) fun x hpre => ?_
  obtain ⟨a0, a1⟩ := x
  exact f73_t a0 a1 hpre _ fun _ h => h.trans (congrFun f73_fn.symm _)
end Go.Proofs.YtglijnhkdnhofaaGreat
end

section
namespace Go.Pi
set_option linter.unusedVariables false
set_option linter.unusedSimpArgs false
theorem getD_ge {l : List Int} {i : Nat} (h : l.length ≤ i) : l.getD i 0 = 0 := by rw [List.getD_eq_getElem?_getD, List.getElem?_eq_none h]; rfl
def bv : List Int → Int
  | [] => 0
  | d :: r => d + 1000000000 * bv r
def pw : Nat → Int
  | 0 => 1
  | n + 1 => 1000000000 * pw n
theorem pw_pos : ∀ n, 0 < pw n
  | 0 => by decide
  | n + 1 => by have := pw_pos n; simp only [pw]; omega
theorem pw_succ (n : Nat) : pw (n + 1) = 1000000000 * pw n := rfl
theorem pw_add (m : Nat) : ∀ n, pw (m + n) = pw m * pw n
  | 0 => by simp [pw]
  | n + 1 => by rw [Nat.add_succ, pw, pw, pw_add m n, Int.mul_left_comm]
theorem pw_mono {m n : Nat} (h : m ≤ n) : pw m ≤ pw n := by
  obtain ⟨k, rfl⟩ := Nat.exists_eq_add_of_le h
  induction k with
  | zero => exact Int.le_refl _
  | succ k ih =>
    have := pw_pos (m + k)
    have := ih (by omega)
    rw [← Nat.add_assoc, pw_succ]; omega
def Dg (l : List Int) : Prop := ∀ d ∈ l, 0 ≤ d ∧ d < 1000000000
theorem Dg.nil : Dg [] := fun d h => by cases h
theorem Dg.cons {d : Int} {l : List Int} (h : 0 ≤ d ∧ d < 1000000000) (hl : Dg l) : Dg (d :: l) := fun x hx => by
  rcases List.mem_cons.1 hx with rfl | hx
  · exact h
  · exact hl x hx
theorem Dg.head {d : Int} {l : List Int} (h : Dg (d :: l)) : 0 ≤ d ∧ d < 1000000000 := h d (.head _)
theorem Dg.tail {d : Int} {l : List Int} (h : Dg (d :: l)) : Dg l := fun x hx => h x (.tail _ hx)
theorem Dg.append {a b : List Int} (ha : Dg a) (hb : Dg b) : Dg (a ++ b) := fun x hx => by
  rcases List.mem_append.1 hx with hx | hx
  · exact ha x hx
  · exact hb x hx
theorem Dg.snoc {a : List Int} {d : Int} (ha : Dg a) (hd : 0 ≤ d ∧ d < 1000000000) : Dg (a ++ [d]) := ha.append (Dg.cons hd Dg.nil)
theorem Dg.take {a : List Int} (h : Dg a) (n : Nat) : Dg (a.take n) := fun x hx => h x (List.mem_of_mem_take hx)
theorem Dg.drop {a : List Int} (h : Dg a) (n : Nat) : Dg (a.drop n) := fun x hx => h x (List.mem_of_mem_drop hx)
theorem Dg.set {a : List Int} (h : Dg a) {d : Int} (hd : 0 ≤ d ∧ d < 1000000000) (n : Nat) : Dg (a.set n d) := fun x hx => by
  rcases List.mem_or_eq_of_mem_set hx with hx | rfl
  · exact h x hx
  · exact hd
theorem Dg.at {a : List Int} (h : Dg a) (n : Nat) : 0 ≤ a.getD n 0 ∧ a.getD n 0 < 1000000000 := by
  by_cases hn : n < a.length
  · rw [getD_lt hn]; exact h _ (List.getElem_mem _)
  · rw [getD_ge (by omega)]; decide
theorem bv_range : ∀ {l : List Int}, Dg l → 0 ≤ bv l ∧ bv l < pw l.length
  | [], _ => by decide
  | d :: l, h => by
    obtain ⟨h1, h2⟩ := h.head
    obtain ⟨h3, h4⟩ := bv_range h.tail
    simp only [bv, List.length_cons, pw]
    omega
theorem bv_append : ∀ a b : List Int, bv (a ++ b) = bv a + pw a.length * bv b
  | [], b => by simp [bv, pw]
  | d :: a, b => by
    simp only [List.cons_append, bv, List.length_cons, pw, bv_append a b]
    rw [Int.mul_add, Int.mul_assoc]; omega
theorem bv_snoc (a : List Int) (d : Int) : bv (a ++ [d]) = bv a + pw a.length * d := by
  rw [bv_append]; simp [bv]
theorem bv_take_succ {a : List Int} {k : Nat} : bv (a.take (k + 1)) = bv (a.take k) + pw k * a.getD k 0 := by
  by_cases h : k < a.length
  · rw [List.take_add_one, List.getElem?_eq_getElem h]
    show bv (a.take k ++ [a[k]]) = _
    rw [bv_snoc, List.length_take, getD_lt h, show min k a.length = k by omega]
  · rw [getD_ge (by omega), List.take_of_length_le (by omega), List.take_of_length_le (by omega)]; simp
theorem bv_drop {a : List Int} {k : Nat} (h : k < a.length) : bv (a.drop k) = a.getD k 0 + 1000000000 * bv (a.drop (k + 1)) := by
  rw [List.drop_eq_getElem_cons h, getD_lt h]; rfl
theorem bv_set : ∀ {l : List Int} {i : Nat} (x : Int), i < l.length → bv (l.set i x) = bv l + pw i * (x - l.getD i 0)
  | [], i, x, h => by simp at h
  | d :: l, 0, x, h => by simp [bv, pw]; omega
  | d :: l, i + 1, x, h => by
    simp only [List.set_cons_succ, bv, List.getD_cons_succ, pw]
    rw [bv_set x (by simpa using h), Int.mul_add, Int.mul_assoc]; omega
theorem bv_zeros : ∀ {l : List Int}, (∀ d ∈ l, d = 0) → bv l = 0
  | [], _ => rfl
  | d :: l, h => by simp only [bv]; rw [h d (.head _), bv_zeros fun x hx => h x (.tail _ hx)]; rfl
theorem bv_inj : ∀ {a b : List Int}, Dg a → Dg b → a.length = b.length → bv a = bv b → a = b
  | [], [], _, _, _, _ => rfl
  | [], y :: b, _, _, h, _ => by simp at h
  | x :: a, [], _, _, h, _ => by simp at h
  | x :: a, y :: b, ha, hb, hl, h => by
    obtain ⟨x1, x2⟩ := ha.head
    obtain ⟨y1, y2⟩ := hb.head
    simp only [bv] at h
    have e : x = y ∧ bv a = bv b := by constructor <;> omega
    rw [e.1, bv_inj ha.tail hb.tail (by simpa using hl) e.2]
/-- Digits without zeros at the end. -/
structure Cnl (l : List Int) : Prop where
  dg : Dg l
  top : l = [] ∨ pw (l.length - 1) ≤ bv l
theorem Cnl.nil : Cnl [] := ⟨Dg.nil, .inl rfl⟩
theorem Cnl.len_le {l : List Int} (h : Cnl l) {k : Nat} (hk : bv l < pw k) : l.length ≤ k := by
  rcases h.top with rfl | ht
  · simp
  · refine Classical.byContradiction fun hn => ?_
    have := pw_mono (show k ≤ l.length - 1 by omega)
    omega
theorem Cnl.lt {l : List Int} (h : Cnl l) {k : Nat} (hk : l.length ≤ k) : bv l < pw k := by
  have := (bv_range h.dg).2
  have := pw_mono hk
  omega
theorem Cnl.mono {a b : List Int} (ha : Cnl a) (hb : Cnl b) (h : bv a ≤ bv b) : a.length ≤ b.length := ha.len_le (by have := (bv_range hb.dg).2; omega)
theorem Cnl.inj {a b : List Int} (ha : Cnl a) (hb : Cnl b) (h : bv a = bv b) : a = b :=
  bv_inj ha.dg hb.dg (Nat.le_antisymm (ha.mono hb (by omega)) (hb.mono ha (by omega))) h
theorem Cnl.zero {a : List Int} (ha : Cnl a) (h : bv a = 0) : a = [] := ha.inj Cnl.nil (by rw [h]; rfl)
theorem Cnl.pos {a : List Int} (ha : Cnl a) (h : a ≠ []) : 0 < bv a := by
  rcases ha.top with h' | h'
  · exact absurd h' h
  · have := pw_pos (a.length - 1); omega
/-- The digits of a number. -/
def digs (n : Nat) : List Int := if h : n = 0 then [] else ((n % 1000000000 : Nat) : Int) :: digs (n / 1000000000)
  termination_by n
  decreasing_by omega
theorem digs_zero : digs 0 = [] := by rw [digs]; rfl
theorem digs_pos {n : Nat} (h : n ≠ 0) : digs n = ((n % 1000000000 : Nat) : Int) :: digs (n / 1000000000) := by rw [digs, dif_neg h]
theorem digs_ok (n : Nat) : Cnl (digs n) ∧ bv (digs n) = (n : Int) := by
  induction n using Nat.strongRecOn with
  | _ n ih =>
    by_cases h : n = 0
    · subst h; rw [digs_zero]; exact ⟨Cnl.nil, rfl⟩
    · obtain ⟨c, v⟩ := ih (n / 1000000000) (by omega)
      rw [digs_pos h]
      refine ⟨⟨Dg.cons ⟨by omega, by omega⟩ c.dg, .inr ?_⟩, ?_⟩
      · simp only [List.length_cons, bv, v, Nat.add_sub_cancel]
        rcases c.top with e | e
        · rw [e]
          simp only [List.length_nil, pw]
          have : n / 1000000000 = 0 := by
            rw [e] at v
            simp only [bv] at v; omega
          omega
        · rw [v] at e
          have hl : (digs (n / 1000000000)).length ≠ 0 ∨ (digs (n / 1000000000)).length = 0 := by omega
          rcases hl with hl | hl
          · obtain ⟨k, hk⟩ := Nat.exists_eq_succ_of_ne_zero hl
            rw [hk] at e ⊢
            simp only [Nat.succ_eq_add_one, Nat.add_sub_cancel, pw] at e ⊢
            omega
          · rw [hl]; simp only [pw]
            omega
      · simp only [bv, v]; omega
theorem digs_of {l : List Int} (h : Cnl l) : digs (bv l).toNat = l := by
  obtain ⟨c, v⟩ := digs_ok (bv l).toNat
  have := (bv_range h.dg).1
  exact c.inj h (by rw [v]; omega)
theorem digs_eq {l : List Int} {n : Nat} (h : Cnl l) (hv : bv l = (n : Int)) : l = digs n := by
  rw [← digs_of h, hv]; simp
/-- Digits without the zeros at the end. -/
theorem trim_ok {l : List Int} (h : Dg l) {n : Nat} (hn : n ≤ l.length) (hz : ∀ j, n ≤ j → l.getD j 0 = 0) (ht : n = 0 ∨ l.getD (n - 1) 0 ≠ 0) : l.take n = digs (bv l).toNat := by
  have hd : bv (l.drop n) = 0 := bv_zeros fun d hd => by
    obtain ⟨j, hj, e⟩ := List.mem_iff_getElem.1 hd
    rw [List.getElem_drop] at e
    have := hz (n + j) (by omega)
    rw [List.length_drop] at hj
    rw [getD_lt (by omega)] at this
    omega
  have hv : bv (l.take n) = bv l := by
    conv => rhs; rw [← List.take_append_drop n l]
    rw [bv_append, hd]; omega
  have hl : (l.take n).length = n := by rw [List.length_take]; omega
  rw [← hv]
  refine (digs_of ⟨h.take n, ?_⟩).symm
  rcases ht with ht | ht
  · subst ht; exact .inl (by simp)
  · right
    rw [hl]
    by_cases h0 : n = 0
    · subst h0
      rw [hz 0 (by omega)] at ht; exact absurd rfl ht
    · have e : bv (l.take n) = bv (l.take (n - 1)) + pw (n - 1) * l.getD (n - 1) 0 := by
        have := @bv_take_succ l (n - 1)
        rwa [show n - 1 + 1 = n by omega] at this
      have h1 := (bv_range (h.take (n - 1))).1
      have h2 := h.at (n - 1)
      have h3 := pw_pos (n - 1)
      have : pw (n - 1) * 1 ≤ pw (n - 1) * l.getD (n - 1) 0 := Int.mul_le_mul_of_nonneg_left (by omega) (by omega)
      omega
abbrev Wd := Int × List Int
def sg (z : Int) : Int := if z < 0 then -1 else if z = 0 then 0 else 1
def wd (z : Int) : Wd := (sg z, digs z.natAbs)
def wv (a : Wd) : Int := a.1 * bv a.2
theorem sg_mul (z : Int) : sg z * (z.natAbs : Int) = z := by
  unfold sg
  split
  · omega
  · split <;> omega
theorem wv_wd (z : Int) : wv (wd z) = z := by
  show sg z * bv (digs z.natAbs) = z
  rw [(digs_ok _).2, sg_mul]
theorem wd_inj {x y : Int} (h : wd x = wd y) : x = y := by rw [← wv_wd x, ← wv_wd y, h]
theorem wd_zero : wd 0 = (0, []) := by
  show (sg 0, digs 0) = _
  rw [digs_zero]; rfl
/-- A number that is less than so many digits. -/
structure WB (k : Nat) (a : Wd) : Prop where
  eq : a = wd (wv a)
  lt : -pw k < wv a ∧ wv a < pw k
theorem wd_WB {k : Nat} {z : Int} (h : -pw k < z ∧ z < pw k) : WB k (wd z) := ⟨by rw [wv_wd], by rw [wv_wd]; exact h⟩
theorem WB.mono {k m : Nat} (h : k ≤ m) {a : Wd} (ha : WB k a) : WB m a := ⟨ha.eq, by have := pw_mono h; have := ha.lt; omega⟩
theorem WB.can {k : Nat} {a : Wd} (h : WB k a) : Cnl a.2 ∧ bv a.2 = ((wv a).natAbs : Int) ∧ a.1 = sg (wv a) := by
  have e := h.eq
  have := digs_ok (wv a).natAbs
  refine ⟨?_, ?_, ?_⟩
  · rw [show a.2 = digs (wv a).natAbs from congrArg Prod.snd e]; exact this.1
  · rw [show a.2 = digs (wv a).natAbs from congrArg Prod.snd e]; exact this.2
  · exact congrArg Prod.fst e
theorem WB.len {k : Nat} {a : Wd} (h : WB k a) : a.2.length ≤ k := by
  obtain ⟨c, v, _⟩ := h.can
  have := h.lt
  exact c.len_le (by omega)
theorem sg_cases (z : Int) : z < 0 ∧ sg z = -1 ∨ z = 0 ∧ sg z = 0 ∨ 0 < z ∧ sg z = 1 := by
  unfold sg
  by_cases h : z < 0
  · rw [if_pos h]; exact .inl ⟨h, rfl⟩
  · by_cases h0 : z = 0
    · rw [if_neg h, if_pos h0]; exact .inr (.inl ⟨h0, rfl⟩)
    · rw [if_neg h, if_neg h0]; exact .inr (.inr ⟨by omega, rfl⟩)
theorem sg_zero {z : Int} : sg z = 0 ↔ z = 0 := by rcases sg_cases z with h | h | h <;> omega
theorem sg_neg {z : Int} : sg z < 0 ↔ z < 0 := by rcases sg_cases z with h | h | h <;> omega
theorem sg_one (z : Int) : -1 ≤ sg z ∧ sg z ≤ 1 := by rcases sg_cases z with h | h | h <;> omega
theorem sg_opp (z : Int) : sg (-z) = -sg z := by rcases sg_cases z with h | h | h <;> rcases sg_cases (-z) with k | k | k <;> omega
theorem sg_prod (x y : Int) : sg (x * y) = sg x * sg y := by
  rcases sg_cases x with h | h | h <;> rcases sg_cases y with k | k | k
  · have := Int.mul_pos_of_neg_of_neg h.1 k.1
    rcases sg_cases (x * y) with q | q | q <;> rw [h.2, k.2] <;> omega
  · rw [k.1, Int.mul_zero, show sg 0 = 0 from rfl, Int.mul_zero]
  · have := Int.mul_neg_of_neg_of_pos h.1 k.1
    rcases sg_cases (x * y) with q | q | q <;> rw [h.2, k.2] <;> omega
  · rw [h.1, Int.zero_mul, show sg 0 = 0 from rfl, Int.zero_mul]
  · rw [h.1, Int.zero_mul, show sg 0 = 0 from rfl, Int.zero_mul]
  · rw [h.1, Int.zero_mul, show sg 0 = 0 from rfl, Int.zero_mul]
  · have := Int.mul_neg_of_pos_of_neg h.1 k.1
    rcases sg_cases (x * y) with q | q | q <;> rw [h.2, k.2] <;> omega
  · rw [k.1, Int.mul_zero, show sg 0 = 0 from rfl, Int.mul_zero]
  · have := Int.mul_pos h.1 k.1
    rcases sg_cases (x * y) with q | q | q <;> rw [h.2, k.2] <;> omega
theorem wd_neg (z : Int) : wd (-z) = (-sg z, digs z.natAbs) := by unfold wd; rw [sg_opp, Int.natAbs_neg]
def WC (a : Wd) : Prop := a = wd (wv a)
theorem WC.of {a : Wd} (h : WC a) : Cnl a.2 ∧ bv a.2 = ((wv a).natAbs : Int) ∧ a.1 = sg (wv a) := by
  have e : a = wd (wv a) := h
  have := digs_ok (wv a).natAbs
  refine ⟨?_, ?_, congrArg Prod.fst e⟩
  · rw [show a.2 = digs (wv a).natAbs from congrArg Prod.snd e]; exact this.1
  · rw [show a.2 = digs (wv a).natAbs from congrArg Prod.snd e]; exact this.2
theorem wd_WC (z : Int) : WC (wd z) := by unfold WC; rw [wv_wd]
theorem bv_split (a : List Int) (k : Nat) (h : k ≤ a.length) : bv a = bv (a.take k) + pw k * bv (a.drop k) := by
  conv => lhs; rw [← List.take_append_drop k a]
  rw [bv_append, List.length_take, show min k a.length = k by omega]
theorem bv_lt_at {a b : List Int} (ha : Dg a) (hb : Dg b) (hl : a.length = b.length) {i : Nat} (hi : i < a.length) (he : a.drop (i + 1) = b.drop (i + 1)) (h : a.getD i 0 < b.getD i 0) : bv a < bv b := by
  rw [bv_split a (i + 1) (by omega), bv_split b (i + 1) (by omega), he, bv_take_succ, bv_take_succ]
  have h1 := bv_range (ha.take i)
  have h2 := bv_range (hb.take i)
  rw [List.length_take, show min i a.length = i by omega] at h1
  have h3 := pw_pos i
  have : pw i * (a.getD i 0 + 1) ≤ pw i * b.getD i 0 := Int.mul_le_mul_of_nonneg_left (by omega) (by omega)
  rw [Int.mul_add] at this
  omega
theorem Cnl.shorter {a b : List Int} (ha : Cnl a) (hb : Cnl b) (h : a.length < b.length) : bv a < bv b := by
  refine Classical.byContradiction fun hn => ?_
  have := hb.mono ha (by omega)
  omega
theorem drop_step {a b : List Int} {i : Nat} (hl : a.length = b.length) (hi : i < a.length) (he : a.drop (i + 1) = b.drop (i + 1)) (h : a.getD i 0 = b.getD i 0) : a.drop i = b.drop i := by
  rw [List.drop_eq_getElem_cons hi, List.drop_eq_getElem_cons (show i < b.length by omega), he]
  rw [getD_lt hi, getD_lt (show i < b.length by omega)] at h
  rw [h]
theorem put_digit (out : List Int) (S : Int) : bv (out ++ [S % 1000000000]) + pw (out.length + 1) * (S / 1000000000) = bv out + pw out.length * S := by
  rw [bv_snoc, pw_succ]
  have e : S = S % 1000000000 + 1000000000 * (S / 1000000000) := by omega
  have : pw out.length * S = pw out.length * (S % 1000000000) + 1000000000 * (pw out.length * (S / 1000000000)) := by
    conv => lhs; rw [e]
    rw [Int.mul_add, Int.mul_left_comm]
  rw [this, Int.mul_assoc]; omega
theorem digs_nil {n : Nat} : digs n = [] ↔ n = 0 := by
  constructor
  · intro h
    have := (digs_ok n).2
    rw [h] at this
    simp only [bv] at this; omega
  · intro h; rw [h, digs_zero]
theorem take_end {a : List Int} {k : Nat} (h : a.length ≤ k) : bv (a.take k) = bv a := by rw [List.take_of_length_le h]
theorem bv_take_le {a : List Int} (ha : Dg a) (k : Nat) : bv (a.take k) ≤ bv a := by
  by_cases h : k ≤ a.length
  · rw [bv_split a k h]
    have := (bv_range (ha.drop k)).1
    have := Int.mul_nonneg (Int.le_of_lt (pw_pos k)) this
    omega
  · rw [take_end (by omega)]; exact Int.le_refl _
theorem set_digit {l : List Int} {i : Nat} (hi : i < l.length) (S : Int) : bv (l.set i (S % 1000000000)) + pw (i + 1) * (S / 1000000000) = bv l + pw i * (S - l.getD i 0) := by
  rw [bv_set _ hi, pw_succ]
  have e : S = S % 1000000000 + 1000000000 * (S / 1000000000) := by omega
  have : pw i * (S - l.getD i 0) = pw i * (S % 1000000000 - l.getD i 0) + 1000000000 * (pw i * (S / 1000000000)) := by
    conv => lhs; rw [e]
    rw [show S % 1000000000 + 1000000000 * (S / 1000000000) - l.getD i 0 = (S % 1000000000 - l.getD i 0) + 1000000000 * (S / 1000000000) by omega, Int.mul_add, Int.mul_left_comm]
  rw [this, Int.mul_assoc]; omega
theorem getD_set (l : List Int) (i j : Nat) (x : Int) : (l.set i x).getD j 0 = if i = j ∧ j < l.length then x else l.getD j 0 := by
  rw [List.getD_eq_getElem?_getD, List.getElem?_set, List.getD_eq_getElem?_getD]
  by_cases h : i = j
  · subst h
    by_cases h2 : i < l.length
    · rw [if_pos rfl, if_pos h2, if_pos ⟨rfl, h2⟩]; rfl
    · rw [if_pos rfl, if_neg h2, if_neg (fun q => h2 q.2), List.getElem?_eq_none (by omega)]
  · rw [if_neg h, if_neg (fun q => h q.1)]
theorem getD_rep (n j : Nat) : (List.replicate n (0 : Int)).getD j 0 = 0 := by
  rw [List.getD_eq_getElem?_getD, List.getElem?_replicate]; split <;> rfl
theorem rep_dg (n : Nat) : Dg (List.replicate n 0) := fun d hd => by rw [List.eq_of_mem_replicate hd]; decide
theorem rep_bv (n : Nat) : bv (List.replicate n 0) = 0 := bv_zeros fun d hd => List.eq_of_mem_replicate hd
theorem digs_bv (n : Nat) : bv (digs n) = (n : Int) := (digs_ok n).2
theorem digs_cnl (n : Nat) : Cnl (digs n) := (digs_ok n).1
theorem bv_nn {l : List Int} (h : Dg l) : 0 ≤ bv l := (bv_range h).1
theorem wd_pos {z : Int} (h : 0 < z) : wd z = (1, digs z.toNat) := by
  unfold wd
  rcases sg_cases z with q | q | q
  · omega
  · omega
  · rw [q.2, show z.natAbs = z.toNat by omega]
/-- The sign and the digits of a product. -/
theorem wd_mul (x y : Int) : wd (x * y) = if x.natAbs * y.natAbs = 0 then (0, []) else (sg x * sg y, digs (x.natAbs * y.natAbs)) := by
  split
  · rename_i h
    have : x * y = 0 := by
      rcases Nat.mul_eq_zero.1 h with h | h
      · rw [show x = 0 by omega, Int.zero_mul]
      · rw [show y = 0 by omega, Int.mul_zero]
    rw [this, wd_zero]
  · unfold wd
    rw [sg_prod, Int.natAbs_mul]
theorem lt_mul {m n k : Nat} {x y : Int} (hx : 0 ≤ x ∧ x < pw m) (hy : 0 ≤ y ∧ y < pw n) (h : m + n ≤ k) : 0 ≤ x * y ∧ x * y < pw k := by
  refine ⟨Int.mul_nonneg hx.1 hy.1, ?_⟩
  have h1 := pw_mono h
  rw [pw_add] at h1
  have h2 : x * y ≤ x * pw n := Int.mul_le_mul_of_nonneg_left (by omega) hx.1
  have h3 : x * pw n < pw m * pw n := Int.mul_lt_mul_of_pos_right hx.2 (pw_pos n)
  omega
end Go.Pi
end
