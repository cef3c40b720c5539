/- What functions of the program compute, each proved once, part 9. -/
import Derived.Test.YtglijnhkdnhofaaPiD
import Derived.Test.YtglijnhkdnhofaaFnA
import Derived.Test.YtglijnhkdnhofaaFnH
import Derived.Test.YtglijnhkdnhofaaFnF
import Derived.Test.YtglijnhkdnhofaaFnE
import Derived.Test.YtglijnhkdnhofaaFnG

section
namespace Go.Proofs.Ytglijnhkdnhofaa
open Go Go.Pi Go.RowKit
set_option maxRecDepth 100000
set_option linter.unusedVariables false
set_option linter.unusedSimpArgs false

def f50 (x : List ((Int × Int × Int) × Int × Int) × Int × Int × Int × Int) : Int × Int := ckW x.1 x.2
def ckf (f : Rd → Int) (v : WV) (r : Rd) : Int := f r * (mid r * v.2.2.2 - 2 * dot (wpt v) r.1)
def f50_e : Entry := { doms := [(false, (.sl (.pair (.pair (.int .i64) (.pair (.int .i64) (.int .i64))) (.pair (.int .i64) (.int .i64))))), (true, (.pair (.int .i64) (.pair (.int .i64) (.pair (.int .i64) (.int .i64)))))], cods := [(false, (.int .i64)), (false, (.int .i64))], pre := fun _ => True, fn := f50, uq := false, total := true }
def f50_E : Env := [(59, f59_e), (82, f82_e), (95, f95_e), (102, f102_e), (103, f103_e)]
def f50_A : Anns := { loops := [(1048576, { tms := [(3, .keep), (8, .keep), (29, .keep), (30, .keep), (31, .data false (.int .i64))], obs := [(1048576, .keep), (1053696, .arr (.fixed 3) (.int .i64))], fz := [] })], own := [], unroll := 4 }
theorem f50_run (a0 : List ((Int × Int × Int) × Int × Int)) (a1 : Int × Int × Int × Int) (K : (Int × Int) → Prop) : runF Try.prog f50_E f50_A 6 Try.f50 f50_e.doms f50_e.cods (a0, a1) K =
    (br ((f59 ([(f95 a0).2, (f82 a1)] : List Int)) != 0)
    (K (0, (f59 ([(f95 a0).2, (f82 a1)] : List Int))))
    (br (lenOk (a0.length))
    (LoopP (V := Int × List Int × Unit) (fun again v => (fun (again1 : Int → List Int → Prop) (v1_0 : Int) (v1_1 : List Int) =>
    br (decide (v1_0 < ((a0.length) : Int)))
    (br (decide (0 ≤ v1_0) && decide (v1_0 < ((a0.length) : Int)))
    (again1 (IntKind.i64.wrap (v1_0 + 1)) (((v1_1.set 0 (IntKind.i64.wrap ((v1_1.getD 0 0) + (IntKind.i64.wrap (((a0.getD v1_0.toNat ((0, (0, 0)), (0, 0))).1).1 * (IntKind.i64.wrap ((IntKind.i64.wrap ((IntKind.i64.wrap (((a0.getD v1_0.toNat ((0, (0, 0)), (0, 0))).2).1 + ((a0.getD v1_0.toNat ((0, (0, 0)), (0, 0))).2).2)) * a1.2.2.2)) - (IntKind.i64.wrap (2 * (f103 (((f102 a1).1, ((f102 a1).2)), (((a0.getD v1_0.toNat ((0, (0, 0)), (0, 0))).1).1, (((a0.getD v1_0.toNat ((0, (0, 0)), (0, 0))).1).2))))))))))))).set 1 (IntKind.i64.wrap (((v1_1.set 0 (IntKind.i64.wrap ((v1_1.getD 0 0) + (IntKind.i64.wrap (((a0.getD v1_0.toNat ((0, (0, 0)), (0, 0))).1).1 * (IntKind.i64.wrap ((IntKind.i64.wrap ((IntKind.i64.wrap (((a0.getD v1_0.toNat ((0, (0, 0)), (0, 0))).2).1 + ((a0.getD v1_0.toNat ((0, (0, 0)), (0, 0))).2).2)) * a1.2.2.2)) - (IntKind.i64.wrap (2 * (f103 (((f102 a1).1, ((f102 a1).2)), (((a0.getD v1_0.toNat ((0, (0, 0)), (0, 0))).1).1, (((a0.getD v1_0.toNat ((0, (0, 0)), (0, 0))).1).2))))))))))))).getD 1 0) + (IntKind.i64.wrap ((((a0.getD v1_0.toNat ((0, (0, 0)), (0, 0))).1).2).1 * (IntKind.i64.wrap ((IntKind.i64.wrap ((IntKind.i64.wrap (((a0.getD v1_0.toNat ((0, (0, 0)), (0, 0))).2).1 + ((a0.getD v1_0.toNat ((0, (0, 0)), (0, 0))).2).2)) * a1.2.2.2)) - (IntKind.i64.wrap (2 * (f103 (((f102 a1).1, ((f102 a1).2)), (((a0.getD v1_0.toNat ((0, (0, 0)), (0, 0))).1).1, (((a0.getD v1_0.toNat ((0, (0, 0)), (0, 0))).1).2))))))))))))).set 2 (IntKind.i64.wrap ((((v1_1.set 0 (IntKind.i64.wrap ((v1_1.getD 0 0) + (IntKind.i64.wrap (((a0.getD v1_0.toNat ((0, (0, 0)), (0, 0))).1).1 * (IntKind.i64.wrap ((IntKind.i64.wrap ((IntKind.i64.wrap (((a0.getD v1_0.toNat ((0, (0, 0)), (0, 0))).2).1 + ((a0.getD v1_0.toNat ((0, (0, 0)), (0, 0))).2).2)) * a1.2.2.2)) - (IntKind.i64.wrap (2 * (f103 (((f102 a1).1, ((f102 a1).2)), (((a0.getD v1_0.toNat ((0, (0, 0)), (0, 0))).1).1, (((a0.getD v1_0.toNat ((0, (0, 0)), (0, 0))).1).2))))))))))))).set 1 (IntKind.i64.wrap (((v1_1.set 0 (IntKind.i64.wrap ((v1_1.getD 0 0) + (IntKind.i64.wrap (((a0.getD v1_0.toNat ((0, (0, 0)), (0, 0))).1).1 * (IntKind.i64.wrap ((IntKind.i64.wrap ((IntKind.i64.wrap (((a0.getD v1_0.toNat ((0, (0, 0)), (0, 0))).2).1 + ((a0.getD v1_0.toNat ((0, (0, 0)), (0, 0))).2).2)) * a1.2.2.2)) - (IntKind.i64.wrap (2 * (f103 (((f102 a1).1, ((f102 a1).2)), (((a0.getD v1_0.toNat ((0, (0, 0)), (0, 0))).1).1, (((a0.getD v1_0.toNat ((0, (0, 0)), (0, 0))).1).2))))))))))))).getD 1 0) + (IntKind.i64.wrap ((((a0.getD v1_0.toNat ((0, (0, 0)), (0, 0))).1).2).1 * (IntKind.i64.wrap ((IntKind.i64.wrap ((IntKind.i64.wrap (((a0.getD v1_0.toNat ((0, (0, 0)), (0, 0))).2).1 + ((a0.getD v1_0.toNat ((0, (0, 0)), (0, 0))).2).2)) * a1.2.2.2)) - (IntKind.i64.wrap (2 * (f103 (((f102 a1).1, ((f102 a1).2)), (((a0.getD v1_0.toNat ((0, (0, 0)), (0, 0))).1).1, (((a0.getD v1_0.toNat ((0, (0, 0)), (0, 0))).1).2))))))))))))).getD 2 0) + (IntKind.i64.wrap ((((a0.getD v1_0.toNat ((0, (0, 0)), (0, 0))).1).2).2 * (IntKind.i64.wrap ((IntKind.i64.wrap ((IntKind.i64.wrap (((a0.getD v1_0.toNat ((0, (0, 0)), (0, 0))).2).1 + ((a0.getD v1_0.toNat ((0, (0, 0)), (0, 0))).2).2)) * a1.2.2.2)) - (IntKind.i64.wrap (2 * (f103 (((f102 a1).1, ((f102 a1).2)), (((a0.getD v1_0.toNat ((0, (0, 0)), (0, 0))).1).1, (((a0.getD v1_0.toNat ((0, (0, 0)), (0, 0))).1).2))))))))))))))
    False)
    (br ((v1_1.getD 0 0) != 0)
    (K (0, 17))
    (br ((v1_1.getD 1 0) != 0)
    (K (1, 17))
    (br ((v1_1.getD 2 0) != 0)
    (K (2, 17))
    (K (0, 0))))))
    (fun v1_0 v1_1 => again (v1_0, v1_1, ())) v.1 v.2.1) (0, ([0, 0, 0] : List Int), ()))
    True)) := by kernel_rfl
theorem f50_t (a0 : List ((Int × Int × Int) × Int × Int)) (a1 : Int × Int × Int × Int) (K : (Int × Int) → Prop) (hK : ∀ y : Int × Int, y = f50 (a0, a1) → K y) : RunF Try.prog f50_E f50_A 6 Try.f50 f50_e.doms f50_e.cods (a0, a1) K := by
  refine ⟨?_⟩
  rw [f50_run a0 a1 K]
  have e0 : f50 (a0, a1) = ckW a0 a1 := rfl
  have e95 : (f95 a0).2 = openE a0 := rfl
  have e82 : f82 a1 = windE a1 := rfl
  have e59 : f59 [openE a0, windE a1] = if openE a0 ≠ 0 then openE a0 else windE a1 := by
    unfold f59
    by_cases h : openE a0 = 0
    · by_cases h2 : windE a1 = 0
      · rw [h, h2]; rfl
      · rw [if_neg (fun hh => hh h), h]
        simp [List.find?, h2]
        have : (windE a1 != 0) = true := by simpa using h2
        rw [this]
    · rw [if_pos h]
      have : (openE a0 != 0) = true := by simpa using h
      simp only [List.find?, this]
  rw [e95, e82, e59]
  by_cases h1 : openE a0 ≠ 0
  · rw [if_pos h1]
    refine br_two (fun h => hK _ ?_) fun h => absurd (bne_f.1 h) h1
    rw [e0, ckW, if_pos h1]
  rw [if_neg h1]
  refine br_two (fun h => hK _ ?_) fun h => ?_
  · rw [e0, ckW, if_neg h1, if_pos (bne_iff_ne.1 h)]
  have h2 : windE a1 = 0 := bne_f.1 h
  refine br_true_.2 fun hlen => ?_
  have hlen := lenOk_iff.1 hlen
  refine LoopP.up (a0.length : Int) (fun i v => v = ([w64 (ckS dx a1 (a0.take i.toNat)), w64 (ckS dy a1 (a0.take i.toNat)), w64 (ckS dz a1 (a0.take i.toNat))], ())) (fun again i v hi0 hin hI hag => ?_) (by omega) rfl
  subst hI
  obtain ⟨k, rfl⟩ := Int.eq_ofNat_of_zero_le hi0
  rw [Int.toNat_natCast]
  dsimp only
  refine br_if (fun hlt => br_must (inb (by omega) (by omega)) ?_) fun hge => ?_
  · have hk : k < a0.length := by omega
    have hh := hag _ hlt rfl
    rw [show ((k : Int) + 1).toNat = k + 1 by omega] at hh
    rw [wr (n := (k : Int) + 1) (by omega) (by omega)]
    have e103 : ∀ d : V3, f103 (((f102 a1).1, ((f102 a1).2)), d) = IntKind.i64.wrap (dot (wpt a1) d) := fun _ => rfl
    simp only [e103, List.set_cons_zero, List.set_cons_succ, List.getD_cons_zero, List.getD_cons_succ]
    have st : ∀ (f : Rd → Int) {n : Int}, n = f (a0.getD k rd0) → IntKind.i64.wrap (w64 (ckS f a1 (a0.take k)) + IntKind.i64.wrap (n * IntKind.i64.wrap (IntKind.i64.wrap (IntKind.i64.wrap ((a0.getD k rd0).2.1 + (a0.getD k rd0).2.2) * a1.2.2.2) - IntKind.i64.wrap (2 * IntKind.i64.wrap (dot (wpt a1) (a0.getD k rd0).1))))) = w64 (ckS f a1 (a0.take (k + 1))) := fun f n hn => by
      simp only [wi_ar, wi_mr, wi_ml, wi_sl, wi_sr]
      exact sm_step (ckf f a1) hk (by rw [hn]; rfl)
    have c1 := st dx (n := (a0.getD k rd0).1.1) rfl
    have c2 := st dy (n := (a0.getD k rd0).1.2.1) rfl
    have c3 := st dz (n := (a0.getD k rd0).1.2.2) rfl
    rw [← c1, ← c2, ← c3] at hh
    exact hh
  · have : k = a0.length := by omega
    subst this
    rw [List.take_of_length_le (Nat.le_refl _)]
    have ec : ckW a0 a1 = if w64 (ckS dx a1 a0) ≠ 0 then (0, 17) else if w64 (ckS dy a1 a0) ≠ 0 then (1, 17) else if w64 (ckS dz a1 a0) ≠ 0 then (2, 17) else (0, 0) := by
      rw [ckW, if_neg h1, if_neg (fun hh => hh h2)]
    simp only [List.getD_cons_zero, List.getD_cons_succ]
    refine br_two (fun h => hK _ ?_) fun h => br_two (fun h' => hK _ ?_) fun h' => br_two (fun h'' => hK _ ?_) fun h'' => hK _ ?_
    · rw [e0, ec, if_pos (bne_iff_ne.1 h)]
    · rw [e0, ec, if_neg (fun hh => hh (bne_f.1 h)), if_pos (bne_iff_ne.1 h')]
    · rw [e0, ec, if_neg (fun hh => hh (bne_f.1 h)), if_neg (fun hh => hh (bne_f.1 h')), if_pos (bne_iff_ne.1 h'')]
    · rw [e0, ec, if_neg (fun hh => hh (bne_f.1 h)), if_neg (fun hh => hh (bne_f.1 h')), if_neg (fun hh => hh (bne_f.1 h''))]
theorem f50_fn : f50_e.fn = f50 := rfl
theorem f50_ok : EntryOK Try.prog 50 f50_e := by
  refine entryF progOK (EnvOK.cons f59_ok (EnvOK.cons f82_ok (EnvOK.cons f95_ok (EnvOK.cons f102_ok (EnvOK.cons f103_ok (EnvOK.nil)))))) (A := f50_A) (d := 6) Try.func50 rfl rfl rfl rfl (fun _ _ => trivial) fun x hpre => ?_
  obtain ⟨a0, a1⟩ := x
  exact f50_t a0 a1 _ fun _ h => h.trans (congrFun f50_fn.symm _)
end Go.Proofs.Ytglijnhkdnhofaa
end

section
namespace Go.Proofs.Ytglijnhkdnhofaa
open Go Go.Pi Go.RowKit
set_option maxRecDepth 100000
set_option linter.unusedVariables false
set_option linter.unusedSimpArgs false

def f51 (l : List ((Int × Int × Int) × Int × Int)) : (Int × Int) × Int := resW l
def f51_e : Entry := { doms := [(false, (.sl (.pair (.pair (.int .i64) (.pair (.int .i64) (.int .i64))) (.pair (.int .i64) (.int .i64)))))], cods := [(true, (.pair (.int .i64) (.int .i64))), (false, (.int .i64))], pre := fun _ => True, fn := f51, uq := false, total := true }
def f51_E : Env := [(63, f63_e), (95, f95_e), (100, f100_e), (104, f104_e)]
def f51_A : Anns := { loops := [(1048576, { tms := [(2, .keep), (6, .keep), (7, .data false (.int .i64)), (27, .keep), (28, .keep), (29, .data false (.int .i64))], obs := [(1048576, .keep), (1052674, .keep)], fz := [] })], own := [1152921642046864386, 1152921642047912962, 1152921642048961538], unroll := 4 }
theorem f51_run (a0 : List ((Int × Int × Int) × Int × Int)) (K : ((Int × Int) × Int) → Prop) : runF Try.prog f51_E f51_A 6 Try.f51 f51_e.doms f51_e.cods a0 K =
    (br ((f95 a0).2 != 0)
    (K ((0, 0), (f95 a0).2))
    (br (lenOk (a0.length))
    (LoopP (V := Int × Int × Unit) (fun again v => (fun (again1 : Int → Int → Prop) (v1_0 : Int) (v1_1 : Int) =>
    br (decide (v1_1 < ((a0.length) : Int)))
    (br (decide (0 ≤ v1_1) && decide (v1_1 < ((a0.length) : Int)))
    (again1 (IntKind.i64.wrap (v1_0 + (IntKind.i64.wrap ((IntKind.i64.wrap (((a0.getD v1_1.toNat ((0, (0, 0)), (0, 0))).2).1 + ((a0.getD v1_1.toNat ((0, (0, 0)), (0, 0))).2).2)) * (IntKind.i64.wrap (((a0.getD v1_1.toNat ((0, (0, 0)), (0, 0))).2).1 + ((a0.getD v1_1.toNat ((0, (0, 0)), (0, 0))).2).2)))))) (IntKind.i64.wrap (v1_1 + 1)))
    False)
    (f63_pre ((IntKind.i64.wrap ((IntKind.i64.wrap ((IntKind.i64.wrap ((IntKind.i64.wrap (v1_0 * (f104 (((((f100 ((f95 a0).1)).1).1).1, ((((f100 ((f95 a0).1)).1).1).2)), ((((((f100 ((f95 a0).1)).1).2).1).1, (((((f100 ((f95 a0).1)).1).2).1).2)), (((((f100 ((f95 a0).1)).1).2).2).1, (((((f100 ((f95 a0).1)).1).2).2).2))))))) - (IntKind.i64.wrap (((f100 ((f95 a0).1)).2).1 * (f104 ((((f100 ((f95 a0).1)).2).1, ((((f100 ((f95 a0).1)).1).1).2)), (((((f100 ((f95 a0).1)).2).2).1, (((((f100 ((f95 a0).1)).1).2).1).2)), ((((f100 ((f95 a0).1)).2).2).2, (((((f100 ((f95 a0).1)).1).2).2).2))))))))) - (IntKind.i64.wrap ((((f100 ((f95 a0).1)).2).2).1 * (f104 (((((f100 ((f95 a0).1)).1).1).1, (((f100 ((f95 a0).1)).2).1, ((((f100 ((f95 a0).1)).1).1).2).2)), ((((((f100 ((f95 a0).1)).1).2).1).1, ((((f100 ((f95 a0).1)).2).2).1, (((((f100 ((f95 a0).1)).1).2).1).2).2)), (((((f100 ((f95 a0).1)).1).2).2).1, ((((f100 ((f95 a0).1)).2).2).2, (((((f100 ((f95 a0).1)).1).2).2).2).2))))))))) - (IntKind.i64.wrap ((((f100 ((f95 a0).1)).2).2).2 * (f104 (((((f100 ((f95 a0).1)).1).1).1, (((((f100 ((f95 a0).1)).1).1).2).1, ((f100 ((f95 a0).1)).2).1)), ((((((f100 ((f95 a0).1)).1).2).1).1, ((((((f100 ((f95 a0).1)).1).2).1).2).1, (((f100 ((f95 a0).1)).2).2).1)), (((((f100 ((f95 a0).1)).1).2).2).1, ((((((f100 ((f95 a0).1)).1).2).2).2).1, (((f100 ((f95 a0).1)).2).2).2))))))))), (IntKind.i64.wrap (4 * (f104 (((((f100 ((f95 a0).1)).1).1).1, ((((f100 ((f95 a0).1)).1).1).2)), ((((((f100 ((f95 a0).1)).1).2).1).1, (((((f100 ((f95 a0).1)).1).2).1).2)), (((((f100 ((f95 a0).1)).1).2).2).1, (((((f100 ((f95 a0).1)).1).2).2).2)))))))) ∧
    br (decide ((f63 ((IntKind.i64.wrap ((IntKind.i64.wrap ((IntKind.i64.wrap ((IntKind.i64.wrap (v1_0 * (f104 (((((f100 ((f95 a0).1)).1).1).1, ((((f100 ((f95 a0).1)).1).1).2)), ((((((f100 ((f95 a0).1)).1).2).1).1, (((((f100 ((f95 a0).1)).1).2).1).2)), (((((f100 ((f95 a0).1)).1).2).2).1, (((((f100 ((f95 a0).1)).1).2).2).2))))))) - (IntKind.i64.wrap (((f100 ((f95 a0).1)).2).1 * (f104 ((((f100 ((f95 a0).1)).2).1, ((((f100 ((f95 a0).1)).1).1).2)), (((((f100 ((f95 a0).1)).2).2).1, (((((f100 ((f95 a0).1)).1).2).1).2)), ((((f100 ((f95 a0).1)).2).2).2, (((((f100 ((f95 a0).1)).1).2).2).2))))))))) - (IntKind.i64.wrap ((((f100 ((f95 a0).1)).2).2).1 * (f104 (((((f100 ((f95 a0).1)).1).1).1, (((f100 ((f95 a0).1)).2).1, ((((f100 ((f95 a0).1)).1).1).2).2)), ((((((f100 ((f95 a0).1)).1).2).1).1, ((((f100 ((f95 a0).1)).2).2).1, (((((f100 ((f95 a0).1)).1).2).1).2).2)), (((((f100 ((f95 a0).1)).1).2).2).1, ((((f100 ((f95 a0).1)).2).2).2, (((((f100 ((f95 a0).1)).1).2).2).2).2))))))))) - (IntKind.i64.wrap ((((f100 ((f95 a0).1)).2).2).2 * (f104 (((((f100 ((f95 a0).1)).1).1).1, (((((f100 ((f95 a0).1)).1).1).2).1, ((f100 ((f95 a0).1)).2).1)), ((((((f100 ((f95 a0).1)).1).2).1).1, ((((((f100 ((f95 a0).1)).1).2).1).2).1, (((f100 ((f95 a0).1)).2).2).1)), (((((f100 ((f95 a0).1)).1).2).2).1, ((((((f100 ((f95 a0).1)).1).2).2).2).1, (((f100 ((f95 a0).1)).2).2).2))))))))), (IntKind.i64.wrap (4 * (f104 (((((f100 ((f95 a0).1)).1).1).1, ((((f100 ((f95 a0).1)).1).1).2)), ((((((f100 ((f95 a0).1)).1).2).1).1, (((((f100 ((f95 a0).1)).1).2).1).2)), (((((f100 ((f95 a0).1)).1).2).2).1, (((((f100 ((f95 a0).1)).1).2).2).2))))))))).1 > 1000000000))
    (K ((0, 0), 8))
    (br (decide ((f63 ((IntKind.i64.wrap ((IntKind.i64.wrap ((IntKind.i64.wrap ((IntKind.i64.wrap (v1_0 * (f104 (((((f100 ((f95 a0).1)).1).1).1, ((((f100 ((f95 a0).1)).1).1).2)), ((((((f100 ((f95 a0).1)).1).2).1).1, (((((f100 ((f95 a0).1)).1).2).1).2)), (((((f100 ((f95 a0).1)).1).2).2).1, (((((f100 ((f95 a0).1)).1).2).2).2))))))) - (IntKind.i64.wrap (((f100 ((f95 a0).1)).2).1 * (f104 ((((f100 ((f95 a0).1)).2).1, ((((f100 ((f95 a0).1)).1).1).2)), (((((f100 ((f95 a0).1)).2).2).1, (((((f100 ((f95 a0).1)).1).2).1).2)), ((((f100 ((f95 a0).1)).2).2).2, (((((f100 ((f95 a0).1)).1).2).2).2))))))))) - (IntKind.i64.wrap ((((f100 ((f95 a0).1)).2).2).1 * (f104 (((((f100 ((f95 a0).1)).1).1).1, (((f100 ((f95 a0).1)).2).1, ((((f100 ((f95 a0).1)).1).1).2).2)), ((((((f100 ((f95 a0).1)).1).2).1).1, ((((f100 ((f95 a0).1)).2).2).1, (((((f100 ((f95 a0).1)).1).2).1).2).2)), (((((f100 ((f95 a0).1)).1).2).2).1, ((((f100 ((f95 a0).1)).2).2).2, (((((f100 ((f95 a0).1)).1).2).2).2).2))))))))) - (IntKind.i64.wrap ((((f100 ((f95 a0).1)).2).2).2 * (f104 (((((f100 ((f95 a0).1)).1).1).1, (((((f100 ((f95 a0).1)).1).1).2).1, ((f100 ((f95 a0).1)).2).1)), ((((((f100 ((f95 a0).1)).1).2).1).1, ((((((f100 ((f95 a0).1)).1).2).1).2).1, (((f100 ((f95 a0).1)).2).2).1)), (((((f100 ((f95 a0).1)).1).2).2).1, ((((((f100 ((f95 a0).1)).1).2).2).2).1, (((f100 ((f95 a0).1)).2).2).2))))))))), (IntKind.i64.wrap (4 * (f104 (((((f100 ((f95 a0).1)).1).1).1, ((((f100 ((f95 a0).1)).1).1).2)), ((((((f100 ((f95 a0).1)).1).2).1).1, (((((f100 ((f95 a0).1)).1).2).1).2)), (((((f100 ((f95 a0).1)).1).2).2).1, (((((f100 ((f95 a0).1)).1).2).2).2))))))))).2 > 1000000000))
    (K ((0, 0), 8))
    (K ((f63 ((IntKind.i64.wrap ((IntKind.i64.wrap ((IntKind.i64.wrap ((IntKind.i64.wrap (v1_0 * (f104 (((((f100 ((f95 a0).1)).1).1).1, ((((f100 ((f95 a0).1)).1).1).2)), ((((((f100 ((f95 a0).1)).1).2).1).1, (((((f100 ((f95 a0).1)).1).2).1).2)), (((((f100 ((f95 a0).1)).1).2).2).1, (((((f100 ((f95 a0).1)).1).2).2).2))))))) - (IntKind.i64.wrap (((f100 ((f95 a0).1)).2).1 * (f104 ((((f100 ((f95 a0).1)).2).1, ((((f100 ((f95 a0).1)).1).1).2)), (((((f100 ((f95 a0).1)).2).2).1, (((((f100 ((f95 a0).1)).1).2).1).2)), ((((f100 ((f95 a0).1)).2).2).2, (((((f100 ((f95 a0).1)).1).2).2).2))))))))) - (IntKind.i64.wrap ((((f100 ((f95 a0).1)).2).2).1 * (f104 (((((f100 ((f95 a0).1)).1).1).1, (((f100 ((f95 a0).1)).2).1, ((((f100 ((f95 a0).1)).1).1).2).2)), ((((((f100 ((f95 a0).1)).1).2).1).1, ((((f100 ((f95 a0).1)).2).2).1, (((((f100 ((f95 a0).1)).1).2).1).2).2)), (((((f100 ((f95 a0).1)).1).2).2).1, ((((f100 ((f95 a0).1)).2).2).2, (((((f100 ((f95 a0).1)).1).2).2).2).2))))))))) - (IntKind.i64.wrap ((((f100 ((f95 a0).1)).2).2).2 * (f104 (((((f100 ((f95 a0).1)).1).1).1, (((((f100 ((f95 a0).1)).1).1).2).1, ((f100 ((f95 a0).1)).2).1)), ((((((f100 ((f95 a0).1)).1).2).1).1, ((((((f100 ((f95 a0).1)).1).2).1).2).1, (((f100 ((f95 a0).1)).2).2).1)), (((((f100 ((f95 a0).1)).1).2).2).1, ((((((f100 ((f95 a0).1)).1).2).2).2).1, (((f100 ((f95 a0).1)).2).2).2))))))))), (IntKind.i64.wrap (4 * (f104 (((((f100 ((f95 a0).1)).1).1).1, ((((f100 ((f95 a0).1)).1).1).2)), ((((((f100 ((f95 a0).1)).1).2).1).1, (((((f100 ((f95 a0).1)).1).2).1).2)), (((((f100 ((f95 a0).1)).1).2).2).1, (((((f100 ((f95 a0).1)).1).2).2).2))))))))), 0)))))
    (fun v1_0 v1_1 => again (v1_0, v1_1, ())) v.1 v.2.1) (0, 0, ()))
    True)) := by kernel_rfl
theorem f51_t (a0 : List ((Int × Int × Int) × Int × Int)) (K : ((Int × Int) × Int) → Prop) (hK : ∀ y : (Int × Int) × Int, y = f51 a0 → K y) : RunF Try.prog f51_E f51_A 6 Try.f51 f51_e.doms f51_e.cods a0 K := by
  refine ⟨?_⟩
  rw [f51_run a0 K]
  have e0 : f51 a0 = resW a0 := rfl
  have e95 : f95 a0 = (a0, openE a0) := rfl
  rw [e95]
  dsimp only
  refine br_two (fun h => hK _ ?_) fun h => ?_
  · rw [e0, resW, if_pos (bne_iff_ne.1 h)]
  have h : openE a0 = 0 := bne_f.1 h
  obtain ⟨h1, h3⟩ := openE_zero h
  have rok := rdOf_ok h1
  have hD := gD_pos rok h3
  have hDl := gD_le rok.sz
  have hR := gR_sz rok.sz hD
  rw [gram_ok rok]
  refine br_true_.2 fun hlen => ?_
  have hlen := lenOk_iff.1 hlen
  refine LoopP.up2 (a0.length : Int) (fun i u v => u = w64 (svv (a0.take i.toNat))) (fun again u i v hi0 hin hI hag => ?_) (by omega) rfl
  subst hI
  obtain ⟨k, rfl⟩ := Int.eq_ofNat_of_zero_le hi0
  rw [Int.toNat_natCast]
  dsimp only
  refine br_if (fun hlt => br_must (inb (by omega) (by omega)) ?_) fun hge => ?_
  · have hk : k < a0.length := by omega
    have hh := hag _ () hlt rfl
    rw [show ((k : Int) + 1).toNat = k + 1 by omega] at hh
    rw [wr (n := (k : Int) + 1) (by omega) (by omega)]
    have c1 : IntKind.i64.wrap (w64 (svv (a0.take k)) + ((a0.getD k ((0, 0, 0), 0, 0)).2.1 + (a0.getD k ((0, 0, 0), 0, 0)).2.2) * ((a0.getD k ((0, 0, 0), 0, 0)).2.1 + (a0.getD k ((0, 0, 0), 0, 0)).2.2)) = w64 (svv (a0.take (k + 1))) := sm_step (fun r => mid r * mid r) hk rfl
    simp only [wi_ar, wi_mr, wi_ml]
    rw [c1]
    exact hh
  · have : k = a0.length := by omega
    subst this
    rw [List.take_of_length_le (Nat.le_refl _)]
    have e104 : ∀ a b c : V3, f104 (a, b, c) = IntKind.i64.wrap (det a b c) := fun _ _ _ => rfl
    have eR : IntKind.i64.wrap (svv a0 * det (gram a0).1 (gram a0).2.1 (gram a0).2.2 - (vals a0).1 * det3 (c0 (gram a0) (vals a0)) - (vals a0).2.1 * det3 (c1 (gram a0) (vals a0)) - (vals a0).2.2 * det3 (c2 (gram a0) (vals a0))) = gR a0 := by
      have e : svv a0 * det (gram a0).1 (gram a0).2.1 (gram a0).2.2 - (vals a0).1 * det3 (c0 (gram a0) (vals a0)) - (vals a0).2.1 * det3 (c1 (gram a0) (vals a0)) - (vals a0).2.2 * det3 (c2 (gram a0) (vals a0)) = gR a0 := by
        have e2 : gR a0 = svv a0 * det (gram a0).1 (gram a0).2.1 (gram a0).2.2 - ((vals a0).1 * det3 (c0 (gram a0) (vals a0)) + (vals a0).2.1 * det3 (c1 (gram a0) (vals a0)) + (vals a0).2.2 * det3 (c2 (gram a0) (vals a0))) := rfl
        rw [e2]
        omega
      rw [e]
      exact w64_in (by omega) (by omega)
    have eD : IntKind.i64.wrap (4 * det (gram a0).1 (gram a0).2.1 (gram a0).2.2) = 4 * gD a0 := w64_in (by show _ ≤ 4 * gD a0; omega) (by show 4 * gD a0 ≤ _; omega)
    have e63 : f63 (gR a0, 4 * gD a0) = low (gR a0) (4 * gD a0) := rfl
    have p63 : f63_pre (gR a0, 4 * gD a0) := ⟨⟨by dsimp only; omega, by dsimp only; omega⟩, ⟨by dsimp only; omega, by dsimp only; omega⟩, by dsimp only; omega⟩
    unfold w64
    simp only [e104, wi_ar, wi_mr, wi_ml, wi_sl, wi_sr]
    unfold det3 c0 c1 c2 at eR
    rw [eR, eD, e63]
    have er : resW a0 = if (low (gR a0) (4 * gD a0)).1 > 1000000000 ∨ (low (gR a0) (4 * gD a0)).2 > 1000000000 then ((0, 0), 8) else (low (gR a0) (4 * gD a0), 0) := by
      rw [resW, if_neg (fun hh => hh h)]
    refine ⟨p63, br_if (fun c => hK _ ?_) fun c => br_if (fun c' => hK _ ?_) fun c' => hK _ ?_⟩
    · rw [e0, er, if_pos (.inl c)]
    · rw [e0, er, if_pos (.inr c')]
    · rw [e0, er, if_neg (fun hh => hh.elim c c')]
theorem f51_fn : f51_e.fn = f51 := rfl
theorem f51_ok : EntryOK Try.prog 51 f51_e := by
  refine entryF progOK (EnvOK.cons f63_ok (EnvOK.cons f95_ok (EnvOK.cons f100_ok (EnvOK.cons f104_ok (EnvOK.nil))))) (A := f51_A) (d := 6) Try.func51 rfl rfl rfl rfl (fun _ _ => trivial) fun x hpre => ?_
  exact f51_t x _ fun _ h => h.trans (congrFun f51_fn.symm _)
end Go.Proofs.Ytglijnhkdnhofaa
end

section
namespace Go.Proofs.Ytglijnhkdnhofaa
open Go Go.Pi Go.RowKit
set_option maxRecDepth 100000
set_option linter.unusedVariables false
set_option linter.unusedSimpArgs false

def f52 (x : Int × Int) : Bool := decide ((-1000000000 ≤ x.1 ∧ x.1 ≤ 1000000000) ∧ 1 ≤ x.2 ∧ x.2 ≤ 1000000000)
def f52_e : Entry := { doms := [(true, (.pair (.int .i64) (.int .i64)))], cods := [(false, .bool)], pre := fun _ => True, fn := f52, uq := false, total := true }
def f52_E : Env := [(35, f35_e)]
def f52_A : Anns := { loops := [], own := [] }
theorem f52_run (a0 : Int × Int) (K : Bool → Prop) : runF Try.prog f52_E f52_A 6 Try.f52 f52_e.doms f52_e.cods a0 K =
    (br (f35 (a0.1, ((-1000000000), 1000000000)))
    (K (f35 (a0.2, (1, 1000000000))))
    (K false)) := by kernel_rfl
theorem f52_t (a0 : Int × Int) (K : Bool → Prop) (hK : ∀ y : Bool, y = f52 a0 → K y) : RunF Try.prog f52_E f52_A 6 Try.f52 f52_e.doms f52_e.cods a0 K := by
  refine ⟨?_⟩
  rw [f52_run a0 K]
  have e0 : f52 a0 = decide ((-1000000000 ≤ a0.1 ∧ a0.1 ≤ 1000000000) ∧ 1 ≤ a0.2 ∧ a0.2 ≤ 1000000000) := rfl
  have e35 : ∀ n a b, f35 (n, a, b) = (decide (a ≤ n) && decide (n ≤ b)) := fun _ _ _ => rfl
  rw [e35, e35]
  refine br_two (fun h => hK _ ?_) fun h => hK _ ?_
  · rw [e0]
    simp only [Bool.and_eq_true, decide_eq_true_eq] at h
    rw [Bool.eq_iff_iff]
    simp only [Bool.and_eq_true, decide_eq_true_eq]
    exact ⟨fun hh => ⟨h, hh⟩, fun hh => hh.2⟩
  · rw [e0]
    refine (decide_eq_false fun hh => ?_).symm
    rw [decide_eq_true hh.1.1, decide_eq_true hh.1.2] at h
    cases h
theorem f52_fn : f52_e.fn = f52 := rfl
theorem f52_ok : EntryOK Try.prog 52 f52_e := by
  refine entryF progOK (EnvOK.cons f35_ok (EnvOK.nil)) (A := f52_A) (d := 6) Try.func52 rfl rfl rfl rfl (fun _ _ => trivial) fun x hpre => ?_
  exact f52_t x _ fun _ h => h.trans (congrFun f52_fn.symm _)
end Go.Proofs.Ytglijnhkdnhofaa
end

section
namespace Go.Proofs.Ytglijnhkdnhofaa
open Go Go.Pi Go.RowKit
set_option maxRecDepth 100000
set_option linter.unusedVariables false
set_option linter.unusedSimpArgs false

def f9 (x : List ((Int × Int × Int) × Int × Int) × (Int × Int × Int × Int) × Int × Int × Int) : Bool := true
def exA (l : List Rd) (w : V3) (i : Nat) : List Rd := exactL (l.take i) w ++ l.drop i
theorem exA_zero (l : List Rd) (w : V3) : exA l w 0 = l := by simp [exA, exactL]
theorem exA_all (l : List Rd) (w : V3) : exA l w l.length = exactL l w := by simp [exA]
theorem exA_len (l : List Rd) (w : V3) (i : Nat) : (exA l w i).length = l.length := by
  simp only [exA, exactL, List.length_append, List.length_map, List.length_take, List.length_drop]; omega
theorem exA_get {l : List Rd} (w : V3) {i : Nat} (h : i < l.length) : (exA l w i).getD i rd0 = l.getD i rd0 := by
  rw [getD_lt (by rw [exA_len]; exact h), getD_lt h]
  unfold exA exactL
  rw [List.getElem_append_right (by simp; omega)]
  simp only [List.length_map, List.length_take, List.getElem_drop]
  congr 1
  omega
theorem exA_set {l : List Rd} (w : V3) {i : Nat} (h : i < l.length) : (exA l w i).set i ((l.getD i rd0).1, dot (l.getD i rd0).1 w, dot (l.getD i rd0).1 w) = exA l w (i + 1) := by
  unfold exA exactL
  have hl : (List.map (fun r : Rd => (r.1, dot r.1 w, dot r.1 w)) (l.take i)).length = i := by rw [List.length_map, List.length_take]; omega
  rw [List.set_append_right _ _ (by omega), hl, Nat.sub_self]
  have e : l.drop i = l.getD i rd0 :: l.drop (i + 1) := by rw [List.drop_eq_getElem_cons h, getD_lt h]
  have e2 : l.take (i + 1) = l.take i ++ [l.getD i rd0] := by
    rw [List.take_add_one, List.getElem?_eq_getElem h, getD_lt h]; rfl
  rw [e, e2, List.map_append]
  simp
def f9_e : Entry := { doms := [(false, (.sl (.pair (.pair (.int .i64) (.pair (.int .i64) (.int .i64))) (.pair (.int .i64) (.int .i64))))), (true, (.pair (.int .i64) (.pair (.int .i64) (.pair (.int .i64) (.int .i64))))), (true, (.pair (.int .i64) (.pair (.int .i64) (.int .i64))))], cods := [(false, .bool)], pre := fun _ => True, fn := f9, uq := false, total := true }
def f9_E : Env := [(10, f10_e), (21, f21_e), (23, f23_e), (27, f27_e), (28, f28_e), (32, f32_e), (33, f33_e), (35, f35_e), (37, f37_e), (49, f49_e), (50, f50_e), (51, f51_e), (52, f52_e)]
def f9_A : Anns := { loops := [(1048576, { tms := [(0, .keep), (5, .keep), (13, .ref 1063937), (14, .data false (.int .i64)), (15, .data false (.int .i64))], obs := [(1048577, .keep), (1063937, .arr (.uniq) (.pair (.pair (.int .i64) (.pair (.int .i64) (.int .i64))) (.pair (.int .i64) (.int .i64))))], fz := [] }),
  (1572925, { tms := [(0, .keep), (5, .keep)], obs := [(1048577, .keep)], fz := [] }),
  (1572945, { tms := [(0, .keep), (5, .keep), (13, .ref 1063937), (14, .data false (.int .i64))], obs := [(1048577, .keep), (1063937, .arr (.uniq) (.pair (.pair (.int .i64) (.pair (.int .i64) (.int .i64))) (.pair (.int .i64) (.int .i64))))], fz := [] })], own := [1063937], unroll := 4 }
theorem f9_run (a0 : List ((Int × Int × Int) × Int × Int)) (a1 : Int × Int × Int × Int) (a2 : Int × Int × Int) (K : Bool → Prop) : runF Try.prog f9_E f9_A 6 Try.f9 f9_e.doms f9_e.cods (a0, a1, a2) K =
    (br (!(f10 ()))
    (K false)
    (br (!(f21 a0))
    (K true)
    (br ((f32 a0) != 0)
    (K true)
    (f28_pre a0 ∧
    br (decide ((f27 (f28 a0)) < 3))
    (K true)
    (br (!(f35 (a2.1, ((-300), 300))))
    (K true)
    (br (!(f35 (a2.2.1, ((-300), 300))))
    (K true)
    (br (!(f35 (a2.2.2, ((-300), 300))))
    (K true)
    (f23_pre a0 ∧
    br ((f49 (f23 a0)).2 != 0)
    (K false)
    (br ((f33 (((f49 (f23 a0)).1).1, ((((f49 (f23 a0)).1).2).1, ((((f49 (f23 a0)).1).2).2)))) != 0)
    (K false)
    (f23_pre a0 ∧
    br ((f50 ((f23 a0), (((f49 (f23 a0)).1).1, ((((f49 (f23 a0)).1).2).1, ((((f49 (f23 a0)).1).2).2))))).2 != 0)
    (K false)
    (br ((f50 ((f23 a0), (((f49 (f23 a0)).1).1, ((((f49 (f23 a0)).1).2).1, ((((f49 (f23 a0)).1).2).2))))).1 != 0)
    (K false)
    (JoinQ (V := Unit) (fun J => (fun (join1 : Prop) =>
    br ((f33 a1) == 0)
    (f23_pre a0 ∧
    br (!(((f50 ((f23 a0), a1)).2 == 0) == ((a1.1 == ((f49 (f23 a0)).1).1) && ((a1.2.1 == (((f49 (f23 a0)).1).2).1) && ((a1.2.2.1 == ((((f49 (f23 a0)).1).2).2).1) && ((a1.2.2.2 == ((((f49 (f23 a0)).1).2).2).2) && true))))))
    (K false)
    (join1))
    (join1)) (J ())) (fun v =>
    f23_pre a0 ∧
    JoinQ (V := Int × List ((Int × Int × Int) × Int × Int) × Unit) (fun J => (fun (join3 : Int → List ((Int × Int × Int) × Int × Int) → Prop) =>
    LoopP (V := Int × Int × List ((Int × Int × Int) × Int × Int) × Unit) (fun again v => (fun (again2 : Int → Int → List ((Int × Int × Int) × Int × Int) → Prop) (v2_0 : Int) (v2_1 : Int) (v2_2 : List ((Int × Int × Int) × Int × Int)) =>
    br (lenOk (a0.length))
    (br (decide (v2_1 < ((a0.length) : Int)))
    (br (decide (0 ≤ v2_1) && decide (v2_1 < ((a0.length) : Int)))
    (br (decide (0 ≤ v2_1) && decide (v2_1 < ((v2_2.length) : Int)))
    (br (decide (0 ≤ v2_1) && decide (v2_1 < ((a0.length) : Int)))
    (br (decide (0 ≤ v2_1) && decide (v2_1 < ((a0.length) : Int)))
    (br (decide (0 ≤ v2_1) && decide (v2_1 < ((a0.length) : Int)))
    (br (decide (0 ≤ v2_1) && decide (v2_1 < ((a0.length) : Int)))
    (again2 (IntKind.i64.wrap (v2_0 + (IntKind.i64.wrap ((IntKind.i64.wrap ((IntKind.i64.wrap (((a0.getD v2_1.toNat ((0, (0, 0)), (0, 0))).2).1 + ((a0.getD v2_1.toNat ((0, (0, 0)), (0, 0))).2).2)) - (IntKind.i64.wrap (2 * (f37 ((((a0.getD v2_1.toNat ((0, (0, 0)), (0, 0))).1).1, (((a0.getD v2_1.toNat ((0, (0, 0)), (0, 0))).1).2)), a2)))))) * (IntKind.i64.wrap ((IntKind.i64.wrap (((a0.getD v2_1.toNat ((0, (0, 0)), (0, 0))).2).1 + ((a0.getD v2_1.toNat ((0, (0, 0)), (0, 0))).2).2)) - (IntKind.i64.wrap (2 * (f37 ((((a0.getD v2_1.toNat ((0, (0, 0)), (0, 0))).1).1, (((a0.getD v2_1.toNat ((0, (0, 0)), (0, 0))).1).2)), a2)))))))))) (IntKind.i64.wrap (v2_1 + 1)) (v2_2.set v2_1.toNat ((((v2_2.getD v2_1.toNat ((0, (0, 0)), (0, 0))).1).1, (((v2_2.getD v2_1.toNat ((0, (0, 0)), (0, 0))).1).2)), ((f37 ((((a0.getD v2_1.toNat ((0, (0, 0)), (0, 0))).1).1, (((a0.getD v2_1.toNat ((0, (0, 0)), (0, 0))).1).2)), a2)), (f37 ((((a0.getD v2_1.toNat ((0, (0, 0)), (0, 0))).1).1, (((a0.getD v2_1.toNat ((0, (0, 0)), (0, 0))).1).2)), a2))))))
    False)
    False)
    False)
    False)
    False)
    False)
    (join3 v2_0 v2_2))
    True)
    (fun v2_0 v2_1 v2_2 => again (v2_0, v2_1, v2_2, ())) v.1 v.2.1 v.2.2.1) (0, 0, (f23 a0), ())) (fun j3_0 j3_1 => J (j3_0, j3_1, ()))) (fun v => (fun (j3_0 : Int) (j3_1 : List ((Int × Int × Int) × Int × Int)) =>
    f23_pre j3_1 ∧
    f23_pre j3_1 ∧
    br ((f49 (f23 j3_1)).2 != 0)
    (K false)
    (br (!((((f49 (f23 j3_1)).1).1 == a2.1) && (((((f49 (f23 j3_1)).1).2).1 == a2.2.1) && ((((((f49 (f23 j3_1)).1).2).2).1 == a2.2.2) && ((((((f49 (f23 j3_1)).1).2).2).2 == 1) && true)))))
    (K false)
    (br ((f51 (f23 j3_1)).2 != 0)
    (K false)
    (br (!((((f51 (f23 j3_1)).1).1 == 0) && ((((f51 (f23 j3_1)).1).2 == 1) && true)))
    (K false)
    (f23_pre a0 ∧
    br ((f51 (f23 a0)).2 != 0)
    (K ((f51 (f23 a0)).2 == 8))
    (br (f52 ((f51 (f23 a0)).1))
    (br (decide (((f51 (f23 a0)).1).1 ≥ 0))
    (K (decide ((IntKind.i64.wrap (4 * ((f51 (f23 a0)).1).1)) ≤ (IntKind.i64.wrap (j3_0 * ((f51 (f23 a0)).1).2)))))
    (K false))
    (K false))))))) v.1 v.2.1)))))))))))))) := by kernel_rfl
theorem f9_t (a0 : List ((Int × Int × Int) × Int × Int)) (a1 : Int × Int × Int × Int) (a2 : Int × Int × Int) (K : Bool → Prop) (hK : ∀ y : Bool, y = f9 (a0, a1, a2) → K y) : RunF Try.prog f9_E f9_A 6 Try.f9 f9_e.doms f9_e.cods (a0, a1, a2) K := by
  refine ⟨?_⟩
  rw [f9_run a0 a1 a2 K]
  have e10 : f10 () = true := rfl
  have hT : K true := hK _ rfl
  have hKb : ∀ b : Bool, b = true → K b := fun b h => hK _ (by rw [h]; rfl)
  have e21 : f21 a0 = decide (a0.length ≤ 8) := rfl
  have e23 : ∀ l, f23 l = l := fun _ => rfl
  have e32 : f32 a0 = (rdOf a0).2 := rfl
  have e28 : f28 a0 = a0.map (·.1) := rfl
  have e27 : f27 (a0.map (·.1)) = rkR (a0.map (·.1)) := rfl
  have e33 : ∀ v, f33 v = windE v := fun _ => rfl
  have e49 : ∀ l, f49 l = fitW l := fun _ => rfl
  have e50 : ∀ l v, f50 (l, v) = ckW l v := fun _ _ => rfl
  have e51 : ∀ l, f51 l = resW l := fun _ => rfl
  have e35 : ∀ n, f35 (n, -300, 300) = (decide (-300 ≤ n) && decide (n ≤ 300)) := fun _ => rfl
  simp only [e23, e32, e28, e27, e33, e49, e50, e51, e35]
  rw [e10, e21]
  refine br_two (fun h => by cases h) fun _ => br_two (fun _ => hT) fun h9 => ?_
  have hl : a0.length ≤ 8 := by simpa using h9
  refine br_two (fun _ => hT) fun h24 => ?_
  have h24 : (rdOf a0).2 = 0 := bne_f.1 h24
  have rok := rdOf_ok h24
  refine ⟨show a0.length ≤ 1048576 by omega, ?_⟩
  have hdirs : Dirs (a0.map (·.1)) := ⟨fun d hd => by obtain ⟨r, hr, rfl⟩ := List.mem_map.1 hd; exact (rok.dir r hr).1, fun d hd => by obtain ⟨r, hr, rfl⟩ := List.mem_map.1 hd; exact (rok.dir r hr).2⟩
  rw [rkR_eq hdirs]
  refine br_if (fun _ => hT) fun hrk => ?_
  have h3 : (rkOwn (a0.map (·.1))).length = 3 := by have := rkOwn_len (a0.map (·.1)); omega
  have hw : ∀ n : Int, (!(decide (-300 ≤ n) && decide (n ≤ 300))) = false → -300 ≤ n ∧ n ≤ 300 := fun n h => by simpa using h
  refine br_two (fun _ => hT) fun w1 => br_two (fun _ => hT) fun w2 => br_two (fun _ => hT) fun w3 => ?_
  have hv : V3.le a2 300 := ⟨hw _ w1, hw _ w2, hw _ w3⟩
  have p23 : ∀ l : List Rd, l.length ≤ 8 → f23_pre l := fun l h => show l.length ≤ 1048576 by omega
  have hO := openE_of h24 h3
  have hD := gD_pos rok h3
  have ef : fitW a0 = (lowV (gP a0) (2 * gD a0), 0) := by unfold fitW; rw [if_neg (fun hh => hh hO)]
  have hwf := fit_wind hO
  have hck := (ckW_is hO hwf).2 rfl
  have hck1 := ckW_zero hck
  have hck' : ∀ v, windE v = 0 → ((ckW a0 v).2 = 0 ↔ v = (fitW a0).1) := fun v h => ckW_is hO h
  have ef2 : (fitW a0).2 = 0 := by rw [ef]
  have eta : ∀ v : WV, (v.1, v.2.1, v.2.2.1, v.2.2.2) = v := fun _ => rfl
  refine ⟨p23 _ hl, br_two (fun h => absurd ef2 (bne_iff_ne.1 h)) fun _ => ?_⟩
  have hwf' : windE ((fitW a0).1.1, ((fitW a0).1.2.1, (fitW a0).1.2.2)) = 0 := hwf
  have hck' : (ckW a0 ((fitW a0).1.1, ((fitW a0).1.2.1, (fitW a0).1.2.2))).2 = 0 := hck
  have hck1' : (ckW a0 ((fitW a0).1.1, ((fitW a0).1.2.1, (fitW a0).1.2.2))).1 = 0 := hck1
  have hckv := fun h => ckW_is hO (v := a1) h
  rw [hwf', hck', hck1']
  refine br_two (fun h => by cases h) fun _ => ⟨p23 _ hl, br_two (fun h => by cases h) fun _ => br_two (fun h => by cases h) fun _ => ?_⟩
  refine JoinQ.use0 True (fun G hG => ?_) fun _ => ?_
  · have hj := hG trivial
    refine br_two (fun hv => ⟨p23 _ hl, br_two (fun h => ?_) fun _ => hj⟩) fun _ => hj
    have hv := beq_iff_eq.1 hv
    have key := hckv hv
    exfalso
    rw [Bool.not_eq_true', ← Bool.not_eq_true] at h
    refine h ?_
    rw [beq_iff_eq]
    generalize fitW a0 = F at *
    obtain ⟨⟨x, y, z, d⟩, e⟩ := F
    obtain ⟨x', y', z', d'⟩ := a1
    rw [Bool.eq_iff_iff]
    simp only [beq_iff_eq, Bool.and_eq_true, Bool.and_true] at key ⊢
    rw [key]
    simp only [Prod.mk.injEq]
  refine ⟨p23 _ hl, ?_⟩
  refine JoinQ.use (fun q : Int × List Rd × Unit => q = (sumQ a0 a2, exactL a0 a2, ())) (fun G hG => ?_) fun q hq => ?_
  · refine LoopP.up2 (a0.length : Int) (fun i u v => u = w64 (sm (fun r => sq (mid r - 2 * dot r.1 a2)) (a0.take i.toNat)) ∧ v = (exA a0 a2 i.toNat, ())) (fun again u i v hi0 hin hI hag => ?_) (by omega) ⟨rfl, by rw [show (0 : Int).toNat = 0 from rfl, exA_zero]⟩
    obtain ⟨rfl, rfl⟩ := hI
    obtain ⟨k, rfl⟩ := Int.eq_ofNat_of_zero_le hi0
    rw [Int.toNat_natCast]
    dsimp only
    refine br_weak (br_if (fun hlt => ?_) fun hge => ?_)
    · have hk : k < a0.length := by omega
      have hb := inb (show (0 : Int) ≤ (k : Int) by omega) hlt
      have hb2 := inb (n := (exA a0 a2 k).length) (show (0 : Int) ≤ (k : Int) by omega) (by rw [exA_len]; exact hlt)
      have hh := hag _ _ hlt ⟨rfl, rfl⟩
      rw [show ((k : Int) + 1).toNat = k + 1 by omega] at hh
      rw [wr (n := (k : Int) + 1) (by omega) (by omega)]
      have dr : ((0 : Int), (0 : Int), (0 : Int)) = z3 := rfl
      have hm := getD_mem (d := rd0) hk
      have hdt := dot_le (rok.dir _ hm).1 hv
      have e37 : f37 ((a0.getD k ((0, 0, 0), 0, 0)).1, a2) = dot (a0.getD k rd0).1 a2 := w64_in (by show _ ≤ dot (a0.getD k rd0).1 a2; omega) (by show dot (a0.getD k rd0).1 a2 ≤ _; omega)
      have e37' : f37 (((a0.getD k ((0, 0, 0), 0, 0)).1.1, (a0.getD k ((0, 0, 0), 0, 0)).1.2), a2) = dot (a0.getD k rd0).1 a2 := e37
      rw [e37']
      have eg : (exA a0 a2 k).getD k ((0, 0, 0), 0, 0) = a0.getD k rd0 := exA_get a2 hk
      rw [eg]
      have es := exA_set a2 hk
      have c1 := sm_step (fun r => sq (mid r - 2 * dot r.1 a2)) hk rfl
      rw [← es, ← c1] at hh
      refine br_must hb (br_must hb2 (br_must hb (br_must hb (br_must hb (br_must hb ?_)))))
      simp only [wi_ar, wi_mr, wi_ml, wi_sl, wi_sr]
      exact hh
    · have : k = a0.length := by omega
      subst this
      have hs := sumQ_le rok hv
      refine hG _ ?_
      rw [List.take_of_length_le (Nat.le_refl _), exA_all]
      have : w64 (sm (fun r => sq (mid r - 2 * dot r.1 a2)) a0) = sumQ a0 a2 := w64_in (by show _ ≤ sumQ a0 a2; omega) (by show sumQ a0 a2 ≤ _; omega)
      rw [this]
  subst hq
  dsimp only
  obtain ⟨x1, x2⟩ := exact_ok rok hv
  have xl : (exactL a0 a2).length ≤ 8 := by unfold exactL; rw [List.length_map]; exact hl
  have xO : openE (exactL a0 a2) = 0 := openE_of (by rw [x1]) (by rw [x2]; exact h3)
  have xf : fitW (exactL a0 a2) = ((a2.1, a2.2.1, a2.2.2, 1), 0) := by
    unfold fitW
    rw [if_neg (fun hh => hh xO), exact_fit hD]
  have xr : resW (exactL a0 a2) = ((0, 1), 0) := by
    unfold resW
    rw [if_neg (fun hh => hh xO), exact_R hD, exact_D, low_zero (by omega)]
    rfl
  rw [xf, xr]
  refine ⟨p23 _ xl, p23 _ xl, br_two (fun h => by cases h) fun _ => br_two (fun h => by simp at h) fun _ => br_two (fun h => by cases h) fun _ => br_two (fun h => by cases h) fun _ => ⟨p23 _ hl, ?_⟩⟩
  have hr := res_le hD a2
  have hs := sumQ_le rok hv
  have hp := (low_pos (n := gR a0) (d := 4 * gD a0) (by omega)).1
  by_cases c : (low (gR a0) (4 * gD a0)).1 > 1000000000 ∨ (low (gR a0) (4 * gD a0)).2 > 1000000000
  · have er : resW a0 = ((0, 0), 8) := by rw [resW, if_neg (fun hh => hh hO), if_pos c]
    rw [er]
    exact br_two (fun _ => hKb _ rfl) fun h => by cases h
  · have er : resW a0 = (low (gR a0) (4 * gD a0), 0) := by rw [resW, if_neg (fun hh => hh hO), if_neg c]
    rw [er]
    dsimp only
    generalize low (gR a0) (4 * gD a0) = f at *
    have e52 : f52 f = true := decide_eq_true (by omega)
    refine br_two (fun h => by cases h) fun _ => br_two (fun _ => br_if (fun _ => hKb _ (decide_eq_true ?_)) fun h => absurd hr.1 h) fun h => by rw [e52] at h; cases h
    have m1 : sumQ a0 a2 * f.2 ≤ 7862640000 * 1000000000 := Int.mul_le_mul hs.2 (by omega) (by omega) (by omega)
    have m2 : 0 ≤ sumQ a0 a2 * f.2 := Int.mul_nonneg hs.1 (by omega)
    rw [wr (by omega) (by omega), wr (by omega) (by omega)]
    exact hr.2
theorem f9_fn : f9_e.fn = f9 := rfl
theorem f9_ok : EntryOK Try.prog 9 f9_e := by
  refine entryF progOK (EnvOK.cons f10_ok (EnvOK.cons f21_ok (EnvOK.cons f23_ok (EnvOK.cons f27_ok (EnvOK.cons f28_ok (EnvOK.cons f32_ok (EnvOK.cons f33_ok (EnvOK.cons f35_ok (EnvOK.cons f37_ok (EnvOK.cons f49_ok (EnvOK.cons f50_ok (EnvOK.cons f51_ok (EnvOK.cons f52_ok (EnvOK.nil)))))))))))))) (A := f9_A) (d := 6) Try.func9 rfl rfl rfl rfl (fun _ _ => trivial) fun x hpre => ?_
  obtain ⟨a0, a1, a2⟩ := x
  exact f9_t a0 a1 a2 _ fun _ h => h.trans (congrFun f9_fn.symm _)
end Go.Proofs.Ytglijnhkdnhofaa
end
