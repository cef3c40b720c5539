/- What functions of the program compute, each proved once, part 14. -/
import Derived.Test.YtglijnhkdnhofaaGreatPiD
import Derived.Test.YtglijnhkdnhofaaGreatFnA
import Derived.Test.YtglijnhkdnhofaaGreatFnJ
import Derived.Test.YtglijnhkdnhofaaGreatFnM
import Derived.Test.YtglijnhkdnhofaaGreatFnK
import Derived.Test.YtglijnhkdnhofaaGreatFnG
import Derived.Test.YtglijnhkdnhofaaGreatFnH
import Derived.Test.YtglijnhkdnhofaaGreatFnI
import Derived.Test.YtglijnhkdnhofaaGreatFnD
import Derived.Test.YtglijnhkdnhofaaGreatFnF
import Derived.Test.YtglijnhkdnhofaaGreatFnL

section
namespace Go.Proofs.YtglijnhkdnhofaaGreat
open Go Go.Pi Go.RowKit
set_option maxRecDepth 100000
set_option linter.unusedVariables false
set_option linter.unusedSimpArgs false

def f98 (x : Int × Int) : Int := -((-x.1) / x.2)
def f98_pre (x : Int × Int) : Prop := Fit x.1 ∧ 0 < x.2
def f98_e : Entry := { doms := [(false, (.int .i64)), (false, (.int .i64))], cods := [(false, (.int .i64))], pre := f98_pre, fn := f98, uq := false, total := false }
def f98_E : Env := [(97, f97_e)]
def f98_A : Anns := { loops := [], own := [] }
theorem f98_run (a0 : Int) (a1 : Int) (K : Int → Prop) : runF Tryz.prog f98_E f98_A 6 Tryz.f98 f98_e.doms f98_e.cods (a0, a1) K =
    (f97_pre ((IntKind.i64.wrap (0 - a0)), a1) ∧
    K (IntKind.i64.wrap (0 - (f97 ((IntKind.i64.wrap (0 - a0)), a1))))) := by kernel_rfl
theorem f98_t (a0 : Int) (a1 : Int) (hpre : f98_pre (a0, a1)) (K : Int → Prop) (hK : ∀ y : Int, y = f98 (a0, a1) → K y) : RunF Tryz.prog f98_E f98_A 6 Tryz.f98 f98_e.doms f98_e.cods (a0, a1) K := by
  refine ⟨?_⟩
  rw [f98_run a0 a1 K]
  obtain ⟨h1, h2⟩ := hpre
  dsimp only at h1 h2
  have hn := neg_fit h1
  rw [wr (n := 0 - a0) (by have := hn.1; omega) hn.2]
  refine ⟨⟨hn, h2⟩, hK _ ?_⟩
  have hf := ediv_fit hn h2
  simp only [f97, f98]
  rw [wr (n := 0 - (0 - a0) / a1) (by have := hf.1; have := hf.2; omega) (by have := hf.1; omega)]
  simp
theorem f98_fn : f98_e.fn = f98 := rfl
theorem f98_ok : EntryOK Tryz.prog 98 f98_e := by
  refine entryF progOK (EnvOK.cons f97_ok (EnvOK.nil)) (A := f98_A) (d := 6) Tryz.func98 rfl rfl rfl rfl (fun h => by cases h) fun x hpre => ?_
  obtain ⟨a0, a1⟩ := x
  exact f98_t a0 a1 hpre _ fun _ h => h.trans (congrFun f98_fn.symm _)
end Go.Proofs.YtglijnhkdnhofaaGreat
end

section
namespace Go.Proofs.YtglijnhkdnhofaaGreat
open Go Go.Pi Go.RowKit
set_option maxRecDepth 100000
set_option linter.unusedVariables false
set_option linter.unusedSimpArgs false

def f34 (x : (Int × Int) × Int × Int) : Int × Int := (x.1.1 / x.1.2, -((-x.2.1) / x.2.2))
def f34_pre (x : (Int × Int) × Int × Int) : Prop := FS x.1 ∧ FS x.2
def f34_e : Entry := { doms := [(true, (.pair (.pair (.int .i64) (.int .i64)) (.pair (.int .i64) (.int .i64))))], cods := [(true, (.pair (.int .i64) (.int .i64)))], pre := f34_pre, fn := f34, uq := false, total := false }
def f34_E : Env := [(97, f97_e), (98, f98_e)]
def f34_A : Anns := { loops := [], own := [] }
theorem f34_run (a0 : (Int × Int) × Int × Int) (K : (Int × Int) → Prop) : runF Tryz.prog f34_E f34_A 6 Tryz.f34 f34_e.doms f34_e.cods a0 K =
    (f97_pre a0.1 ∧
    f98_pre a0.2 ∧
    K ((f97 a0.1), (f98 a0.2))) := by kernel_rfl
theorem f34_t (a0 : (Int × Int) × Int × Int) (hpre : f34_pre a0) (K : (Int × Int) → Prop) (hK : ∀ y : Int × Int, y = f34 a0 → K y) : RunF Tryz.prog f34_E f34_A 6 Tryz.f34 f34_e.doms f34_e.cods a0 K := by
  refine ⟨?_⟩
  rw [f34_run a0 K]
  obtain ⟨h1, h2⟩ := hpre
  exact ⟨⟨fit_le h1.1 (by omega), h1.2.1⟩, ⟨fit_le h2.1 (by omega), h2.2.1⟩, hK _ rfl⟩
theorem f34_fn : f34_e.fn = f34 := rfl
theorem f34_ok : EntryOK Tryz.prog 34 f34_e := by
  refine entryF progOK (EnvOK.cons f97_ok (EnvOK.cons f98_ok (EnvOK.nil))) (A := f34_A) (d := 6) Tryz.func34 rfl rfl rfl rfl (fun h => by cases h) fun x hpre => ?_
  exact f34_t x hpre _ fun _ h => h.trans (congrFun f34_fn.symm _)
end Go.Proofs.YtglijnhkdnhofaaGreat
end

section
namespace Go.Proofs.YtglijnhkdnhofaaGreat
open Go Go.Pi Go.RowKit
set_option maxRecDepth 100000
set_option linter.unusedVariables false
set_option linter.unusedSimpArgs false

def f18 (x : List ((Int × Int × Int) × Int × Int) × Int × Int × Int) : Int × Int := (f34 (f16 (vtx x.1, x.2)))
def f18_pre (x : List ((Int × Int × Int) × Int × Int) × Int × Int × Int) : Prop := RdLe x.1 ∧ V3.le x.2 9 ∧ 0 < (vtx x.1).length
theorem vtx_good {l : List Rd} (h : RdLe l) : ∀ v ∈ vtx l, 0 < v.2.2.2 ∧ v.2.2.2 ≤ 4374 ∧ V3.le (wpt v) 4860000 := fun v hv => by
  have := cands_ok h v (vtx_mem.1 hv)
  exact ⟨this.1.den, this.2⟩
theorem vtx_size {l : List Rd} (h : RdLe l) : (vtx l).length ≤ 4096 := by
  have h1 : (vtx l).length ≤ ([] : List WV).length + (cands l).length := sortW_len (cands l) []
  have := cands_len h
  simp only [List.length_nil] at h1
  omega
def f18_e : Entry := { doms := [(false, (.sl (.pair (.pair (.int .i64) (.pair (.int .i64) (.int .i64))) (.pair (.int .i64) (.int .i64))))), (true, (.pair (.int .i64) (.pair (.int .i64) (.int .i64))))], cods := [(true, (.pair (.int .i64) (.int .i64)))], pre := f18_pre, fn := f18, uq := false, total := false }
def f18_E : Env := [(16, f16_e), (17, f17_e), (34, f34_e)]
def f18_A : Anns := { loops := [], own := [] }
theorem f18_run (a0 : List ((Int × Int × Int) × Int × Int)) (a1 : Int × Int × Int) (K : (Int × Int) → Prop) : runF Tryz.prog f18_E f18_A 6 Tryz.f18 f18_e.doms f18_e.cods (a0, a1) K =
    (f17_pre a0 ∧
    f16_pre ((f17 a0), a1) ∧
    f34_pre (((f16 ((f17 a0), a1)).1), ((f16 ((f17 a0), a1)).2)) ∧
    K (f34 (((f16 ((f17 a0), a1)).1), ((f16 ((f17 a0), a1)).2)))) := by kernel_rfl
theorem f18_t (a0 : List ((Int × Int × Int) × Int × Int)) (a1 : Int × Int × Int) (hpre : f18_pre (a0, a1)) (K : (Int × Int) → Prop) (hK : ∀ y : Int × Int, y = f18 (a0, a1) → K y) : RunF Tryz.prog f18_E f18_A 6 Tryz.f18 f18_e.doms f18_e.cods (a0, a1) K := by
  refine ⟨?_⟩
  rw [f18_run a0 a1 K]
  obtain ⟨hle, hd, hn⟩ := hpre
  dsimp only at hle hd hn
  have e17 : f17 a0 = vtx a0 := rfl
  have hsz := vtx_size hle
  have p16 : f16_pre (vtx a0, a1) := ⟨by dsimp only; omega, vtx_good hle, hd⟩
  have hlen : 0 < (fracs (vtx a0) a1).length := by simp [fracs]; exact hn
  have hf := fracs_fs hle hd
  have p34 : f34_pre (f16 (vtx a0, a1)) := by
    show FS (if _ then _ else _ : (Int × Int) × Int × Int).1 ∧ FS (if _ then _ else _ : (Int × Int) × Int × Int).2
    rw [if_neg (by dsimp only; omega)]
    exact ⟨pick_fs hlen hf, pick_fs hlen hf⟩
  rw [e17]
  exact ⟨hle, p16, p34, hK _ rfl⟩
theorem f18_fn : f18_e.fn = f18 := rfl
theorem f18_ok : EntryOK Tryz.prog 18 f18_e := by
  refine entryF progOK (EnvOK.cons f16_ok (EnvOK.cons f17_ok (EnvOK.cons f34_ok (EnvOK.nil)))) (A := f18_A) (d := 6) Tryz.func18 rfl rfl rfl rfl (fun h => by cases h) fun x hpre => ?_
  obtain ⟨a0, a1⟩ := x
  exact f18_t a0 a1 hpre _ fun _ h => h.trans (congrFun f18_fn.symm _)
end Go.Proofs.YtglijnhkdnhofaaGreat
end

section
namespace Go.Proofs.YtglijnhkdnhofaaGreat
open Go Go.Pi Go.RowKit
set_option maxRecDepth 100000
set_option linter.unusedVariables false
set_option linter.unusedSimpArgs false

def f20 (x : List (Int × Int × Int × Int) × List (Int × Int × Int × Int)) : Bool := decide (x.1 = x.2)
def f20_e : Entry := { doms := [(false, (.sl (.pair (.int .i64) (.pair (.int .i64) (.pair (.int .i64) (.int .i64)))))), (false, (.sl (.pair (.int .i64) (.pair (.int .i64) (.pair (.int .i64) (.int .i64))))))], cods := [(false, .bool)], pre := fun _ => True, fn := f20, uq := false, total := true }
def f20_E : Env := []
def f20_A : Anns := { loops := [(1048576, { tms := [(0, .keep), (1, .keep), (5, .data false (.int .i64))], obs := [], fz := [] })], own := [] }
theorem f20_run (a0 : List (Int × Int × Int × Int)) (a1 : List (Int × Int × Int × Int)) (K : Bool → Prop) : runF Tryz.prog f20_E f20_A 6 Tryz.f20 f20_e.doms f20_e.cods (a0, a1) K =
    (br (lenOk (a0.length))
    (br (lenOk (a1.length))
    (br (((a0.length) : Int) != ((a1.length) : Int))
    (K false)
    (LoopP (V := Int × Unit) (fun again v => (fun (again1 : Int → Prop) (v1_0 : Int) =>
    br (lenOk (a0.length))
    (br (decide (v1_0 < ((a0.length) : Int)))
    (br (decide (0 ≤ v1_0) && decide (v1_0 < ((a0.length) : Int)))
    (br (decide (0 ≤ v1_0) && decide (v1_0 < ((a1.length) : Int)))
    (br (!(((a0.getD v1_0.toNat (0, (0, (0, 0)))).1 == (a1.getD v1_0.toNat (0, (0, (0, 0)))).1) && ((((a0.getD v1_0.toNat (0, (0, (0, 0)))).2).1 == ((a1.getD v1_0.toNat (0, (0, (0, 0)))).2).1) && (((((a0.getD v1_0.toNat (0, (0, (0, 0)))).2).2).1 == (((a1.getD v1_0.toNat (0, (0, (0, 0)))).2).2).1) && (((((a0.getD v1_0.toNat (0, (0, (0, 0)))).2).2).2 == (((a1.getD v1_0.toNat (0, (0, (0, 0)))).2).2).2) && true)))))
    (K false)
    (again1 (IntKind.i64.wrap (v1_0 + 1))))
    False)
    False)
    (K true))
    True)
    (fun v1_0 => again (v1_0, ())) v.1) (0, ())))
    True)
    True) := by kernel_rfl
theorem f20_t (a0 : List (Int × Int × Int × Int)) (a1 : List (Int × Int × Int × Int)) (K : Bool → Prop) (hK : ∀ y : Bool, y = f20 (a0, a1) → K y) : RunF Tryz.prog f20_E f20_A 6 Tryz.f20 f20_e.doms f20_e.cods (a0, a1) K := by
  refine ⟨?_⟩
  rw [f20_run a0 a1 K]
  have eqv : ∀ a b : WV, (a.1 == b.1 && (a.2.1 == b.2.1 && (a.2.2.1 == b.2.2.1 && (a.2.2.2 == b.2.2.2 && true)))) = true ↔ a = b := fun a b => by
    simp only [Bool.and_eq_true, beq_iff_eq, and_true, Prod.ext_iff]
  rw [br_true_, lenOk_iff]
  intro hl
  refine br_weak (br_two (fun h => hK _ ?_) fun h => ?_)
  · have h := bne_t.1 h
    symm
    rw [f20, decide_eq_false_iff_not]
    intro he
    have he : a0 = a1 := he
    exact h (by rw [he])
  have hn : a0.length = a1.length := by have := bne_f.1 h; omega
  refine LoopP.of (fun q : Int × Unit => ∃ i : Nat, i ≤ a0.length ∧ q = ((i : Int), ()) ∧ ∀ k, k < i → a0.getD k (0, 0, 0, 0) = a1.getD k (0, 0, 0, 0)) (fun q => ((a0.length : Int) - q.1).toNat) (fun again q hq hag => ?_) ⟨0, by omega, rfl, fun k hk => by omega⟩
  obtain ⟨i, hi, rfl, hI⟩ := hq
  dsimp only
  rw [Int.toNat_natCast]
  refine br_weak (br_if (fun hlt => ?_) fun hge => hK _ ?_)
  · have hlt' : i < a0.length := by omega
    refine br_must (inb (by omega) hlt) (br_must (inb (by omega) (by omega)) (br_two (fun h => hK _ ?_) fun h => hag _ ⟨i + 1, by omega, ?_, fun k hk => ?_⟩ ?_))
    · symm
      rw [f20, decide_eq_false_iff_not]
      intro he
      have he : a0 = a1 := he
      rw [he, (eqv _ _).2 rfl] at h
      cases h
    · rw [wr (by omega) (by omega)]; rfl
    · rcases Nat.lt_or_ge k i with h2 | h2
      · exact hI k h2
      · have : k = i := by omega
        subst this
        refine (eqv _ _).1 ?_
        revert h
        cases (_ && _) <;> simp
    · dsimp only
      rw [wr (by omega) (by omega)]; omega
  · have : i = a0.length := by omega
    subst this
    symm
    rw [f20, decide_eq_true_eq]
    refine List.ext_getElem hn fun k h1 h2 => ?_
    have := hI k h1
    rwa [getD_lt h1, getD_lt h2] at this
theorem f20_fn : f20_e.fn = f20 := rfl
theorem f20_ok : EntryOK Tryz.prog 20 f20_e := by
  refine entryF progOK (EnvOK.nil) (A := f20_A) (d := 6) Tryz.func20 rfl rfl rfl rfl (fun _ _ => trivial) fun x hpre => ?_
  obtain ⟨a0, a1⟩ := x
  exact f20_t a0 a1 _ fun _ h => h.trans (congrFun f20_fn.symm _)
end Go.Proofs.YtglijnhkdnhofaaGreat
end

section
namespace Go.Proofs.YtglijnhkdnhofaaGreat
open Go Go.Pi Go.RowKit
set_option maxRecDepth 100000
set_option linter.unusedVariables false
set_option linter.unusedSimpArgs false

def f3 (x : List ((Int × Int × Int) × Int × Int) × Int × Int × Int) : Bool := true
theorem winE_zero {l : List Rd} (h : winE l = 0) : (rdOf l).2 = 0 ∧ (rkOwn (l.map (·.1))).length = 3 ∧ 0 < (vtx l).length := by
  unfold winE at h
  by_cases h1 : (rdOf l).2 ≠ 0
  · rw [if_pos h1] at h; exact absurd h h1
  · by_cases h2 : (rkOwn (l.map (·.1))).length ≠ 3
    · rw [if_neg h1, if_pos h2] at h; cases h
    · by_cases h3 : (vtx l).length = 0
      · rw [if_neg h1, if_neg h2, if_pos h3] at h; cases h
      · exact ⟨Classical.byContradiction h1, Classical.byContradiction h2, by omega⟩
theorem hwE_zero {l : List Rd} {d : V3} (h : hwE l d = 0) : (rdOf l).2 = 0 ∧ dirE d = 0 ∧ winE l = 0 := by
  unfold hwE at h
  by_cases h1 : (rdOf l).2 ≠ 0
  · rw [if_pos h1] at h; exact absurd h h1
  · by_cases h2 : dirE d ≠ 0
    · rw [if_neg h1, if_pos h2] at h; exact absurd h h2
    · rw [if_neg h1, if_neg h2] at h
      exact ⟨Classical.byContradiction h1, Classical.byContradiction h2, h⟩
theorem rangeW_hw (l : List Rd) (d : V3) : rangeW l d = if hwE l d = 0 then (spanW (vtx l) d, 0) else (no4, hwE l d) := by
  unfold rangeW
  by_cases h1 : (rdOf l).2 ≠ 0
  · have e : hwE l d = (rdOf l).2 := by rw [hwE, if_pos h1]
    rw [e, if_pos h1, if_neg h1]
  · by_cases h2 : dirE d ≠ 0
    · have e : hwE l d = dirE d := by rw [hwE, if_neg h1, if_pos h2]
      rw [e, if_neg h1, if_pos h2, if_neg h2]
    · have e : hwE l d = winE l := by rw [hwE, if_neg h1, if_neg h2]
      rw [e, if_neg h1, if_neg h2]
      unfold winE
      by_cases h3 : (rkOwn (l.map (·.1))).length ≠ 3
      · rw [if_pos h3, if_neg h1, if_pos h3]; rfl
      · by_cases h4 : (vtx l).length = 0
        · rw [if_neg h3, if_neg h1, if_neg h3, if_pos h4, if_pos h4]; rfl
        · rw [if_neg h3, if_neg h1, if_neg h3, if_neg h4, if_neg h4]; rfl
theorem headW_hw (l : List Rd) (d : V3) : headW l d = if hwE l d = 0 then (f34 (spanW (vtx l) d), 0) else ((0, 0), hwE l d) := by
  unfold headW
  rw [rangeW_hw]
  by_cases h : hwE l d = 0
  · rw [if_pos h, if_pos h]; exact if_neg (fun hh => hh rfl)
  · rw [if_neg h, if_neg h]; exact if_pos h
theorem vtxW_w (l : List Rd) : vtxW l = if winE l = 0 then (vtx l, 0) else ([], winE l) := by
  unfold vtxW winE
  by_cases h1 : (rdOf l).2 ≠ 0
  · rw [if_pos h1, if_pos h1, if_neg h1]
  · by_cases h3 : (rkOwn (l.map (·.1))).length ≠ 3
    · rw [if_neg h1, if_pos h3, if_neg h1, if_pos h3]; rfl
    · by_cases h4 : (vtx l).length = 0
      · rw [if_neg h1, if_neg h3, if_pos h4, if_neg h1, if_neg h3, if_pos h4]; rfl
      · rw [if_neg h1, if_neg h3, if_neg h4, if_neg h1, if_neg h3, if_neg h4]; rfl
theorem hwE_ax (l : List Rd) {d : V3} (h : dirE d = 0) : hwE l d = winE l := by
  unfold hwE
  rw [if_neg (show ¬ dirE d ≠ 0 from fun hh => hh h)]
  by_cases h1 : (rdOf l).2 ≠ 0
  · rw [if_pos h1, winE, if_pos h1]
  · rw [if_neg h1]
theorem f14_w (l : List Rd) : f14 l = if winE l = 0 then ((f34 (spanW (vtx l) (1, 0, 0)), f34 (spanW (vtx l) (0, 1, 0)), f34 (spanW (vtx l) (0, 0, 1))), 0) else (((0, 0), (0, 0), 0, 0), winE l) := by
  have x := headW_hw l (1, 0, 0)
  have y := headW_hw l (0, 1, 0)
  have z := headW_hw l (0, 0, 1)
  rw [hwE_ax l (by decide)] at x y z
  unfold f14
  by_cases h : winE l = 0
  · rw [if_pos h] at x y z
    rw [x, y, z, if_pos h]
    rfl
  · rw [if_neg h] at x y z
    rw [x, y, z, if_neg h]
    exact if_pos h
def f3_e : Entry := { doms := [(false, (.sl (.pair (.pair (.int .i64) (.pair (.int .i64) (.int .i64))) (.pair (.int .i64) (.int .i64))))), (true, (.pair (.int .i64) (.pair (.int .i64) (.int .i64))))], cods := [(false, .bool)], pre := fun _ => True, fn := f3, uq := false, total := true }
def f3_E : Env := [(8, f8_e), (9, f9_e), (10, f10_e), (11, f11_e), (12, f12_e), (13, f13_e), (14, f14_e), (15, f15_e), (16, f16_e), (17, f17_e), (18, f18_e), (19, f19_e), (20, f20_e)]
def f3_A : Anns := { loops := [(1572913, { tms := [(0, .keep), (3, .keep), (5, .keep), (6, .keep), (7, .keep), (8, .keep), (9, .keep), (10, .keep), (11, .keep), (12, .keep), (13, .keep)], obs := [(1048576, .keep), (1054727, .keep), (1055751, .keep), (1056774, .keep)], fz := [] }),
  (1572921, { tms := [(0, .keep), (5, .keep), (6, .keep), (11, .keep), (12, .keep)], obs := [(1056774, .keep)], fz := [] })], own := [] }
theorem f3_run (a0 : List ((Int × Int × Int) × Int × Int)) (a1 : Int × Int × Int) (K : Bool → Prop) : runF Tryz.prog f3_E f3_A 6 Tryz.f3 f3_e.doms f3_e.cods (a0, a1) K =
    (br (!(f8 ()))
    (K false)
    (br (!(f9 a0))
    (K true)
    (f11_pre a0 ∧
    f11_pre a0 ∧
    f11_pre a0 ∧
    f11_pre a0 ∧
    JoinQ (V := Unit) (fun J => (fun (join1 : Prop) =>
    br ((f15 (a0, a1)) != 0)
    (br ((f12 ((f11 a0), a1)).2 != (f15 (a0, a1)))
    (K false)
    (br ((f13 ((f11 a0), a1)).2 != (f15 (a0, a1)))
    (K false)
    (br (!((((((f12 ((f11 a0), a1)).1).1).1 == 0) && (((((f12 ((f11 a0), a1)).1).1).2 == 0) && true)) && ((((((f12 ((f11 a0), a1)).1).2).1 == 0) && (((((f12 ((f11 a0), a1)).1).2).2 == 0) && true)) && true)))
    (K false)
    (br (!((((f13 ((f11 a0), a1)).1).1 == 0) && ((((f13 ((f11 a0), a1)).1).2 == 0) && true)))
    (K false)
    (join1)))))
    (join1)) (J ())) (fun v =>
    JoinQ (V := Unit) (fun J => (fun (join2 : Prop) =>
    br ((f15 (a0, a1)) == 0)
    (br ((f12 ((f11 a0), a1)).2 != 0)
    (K false)
    (f17_pre a0 ∧
    f16_pre ((f17 a0), a1) ∧
    br (!((((((f12 ((f11 a0), a1)).1).1).1 == ((f16 ((f17 a0), a1)).1).1) && (((((f12 ((f11 a0), a1)).1).1).2 == ((f16 ((f17 a0), a1)).1).2) && true)) && ((((((f12 ((f11 a0), a1)).1).2).1 == ((f16 ((f17 a0), a1)).2).1) && (((((f12 ((f11 a0), a1)).1).2).2 == ((f16 ((f17 a0), a1)).2).2) && true)) && true)))
    (K false)
    (br ((f13 ((f11 a0), a1)).2 != 0)
    (K false)
    (f18_pre (a0, a1) ∧
    br (!((((f13 ((f11 a0), a1)).1).1 == (f18 (a0, a1)).1) && ((((f13 ((f11 a0), a1)).1).2 == (f18 (a0, a1)).2) && true)))
    (K false)
    (join2)))))
    (join2)) (J ())) (fun v =>
    br ((f19 a0) != 0)
    (br ((f10 (f11 a0)).2 == (f19 a0))
    (br ((f14 (f11 a0)).2 == (f19 a0))
    (br (lenOk (((f10 (f11 a0)).1).length))
    (br (((((f10 (f11 a0)).1).length) : Int) == 0)
    (K ((((((f14 (f11 a0)).1).1).1 == 0) && (((((f14 (f11 a0)).1).1).2 == 0) && true)) && (((((((f14 (f11 a0)).1).2).1).1 == 0) && ((((((f14 (f11 a0)).1).2).1).2 == 0) && true)) && (((((((f14 (f11 a0)).1).2).2).1 == 0) && ((((((f14 (f11 a0)).1).2).2).2 == 0) && true)) && true))))
    (K false))
    True)
    (K false))
    (K false))
    (br ((f10 (f11 a0)).2 == 0)
    (f17_pre a0 ∧
    br (f20 ((f10 (f11 a0)).1, (f17 a0)))
    (br ((f14 (f11 a0)).2 == 0)
    (f18_pre (a0, (1, (0, 0))) ∧
    f18_pre (a0, (0, (1, 0))) ∧
    f18_pre (a0, (0, (0, 1))) ∧
    K ((((((f14 (f11 a0)).1).1).1 == (f18 (a0, (1, (0, 0)))).1) && (((((f14 (f11 a0)).1).1).2 == (f18 (a0, (1, (0, 0)))).2) && true)) && (((((((f14 (f11 a0)).1).2).1).1 == (f18 (a0, (0, (1, 0)))).1) && ((((((f14 (f11 a0)).1).2).1).2 == (f18 (a0, (0, (1, 0)))).2) && true)) && (((((((f14 (f11 a0)).1).2).2).1 == (f18 (a0, (0, (0, 1)))).1) && ((((((f14 (f11 a0)).1).2).2).2 == (f18 (a0, (0, (0, 1)))).2) && true)) && true))))
    (K false))
    (K false))
    (K false))))))) := by kernel_rfl
theorem f3_t (a0 : List ((Int × Int × Int) × Int × Int)) (a1 : Int × Int × Int) (K : Bool → Prop) (hK : ∀ y : Bool, y = f3 (a0, a1) → K y) : RunF Tryz.prog f3_E f3_A 6 Tryz.f3 f3_e.doms f3_e.cods (a0, a1) K := by
  refine ⟨?_⟩
  rw [f3_run a0 a1 K]
  have e8 : f8 () = true := rfl
  have hT : K true := hK _ rfl
  have hKb : ∀ b : Bool, b = true → K b := fun b h => hK _ (by rw [h]; rfl)
  have e9 : f9 a0 = decide (a0.length ≤ 8) := rfl
  have e11 : f11 a0 = a0 := rfl
  have e12 : f12 (a0, a1) = rangeW a0 a1 := rfl
  have e13 : f13 (a0, a1) = headW a0 a1 := rfl
  have e15 : f15 (a0, a1) = hwE a0 a1 := rfl
  have e17 : f17 a0 = vtx a0 := rfl
  have e19 : f19 a0 = winE a0 := rfl
  have e10 : f10 a0 = vtxW a0 := rfl
  have e20 : ∀ x y : List WV, f20 (x, y) = decide (x = y) := fun _ _ => rfl
  have e16 : winE a0 = 0 → ∀ d : V3, f16 (vtx a0, d) = spanW (vtx a0) d := fun h d => by
    have := (winE_zero h).2.2
    exact if_neg (show ¬ (vtx a0).length = 0 by omega)
  have e18 : winE a0 = 0 → ∀ d : V3, f18 (a0, d) = f34 (spanW (vtx a0) d) := fun h d => by
    show f34 (f16 (vtx a0, d)) = _
    rw [e16 h]
  have rl : winE a0 = 0 → RdLe a0 := fun h => (rdOf_ok (winE_zero h).1).rdLe
  have p16 : winE a0 = 0 → ∀ d : V3, V3.le d 9 → f16_pre (vtx a0, d) := fun h d hd => ⟨by have := vtx_size (rl h); dsimp only; omega, vtx_good (rl h), hd⟩
  have p18 : winE a0 = 0 → ∀ d : V3, V3.le d 9 → f18_pre (a0, d) := fun h d hd => ⟨rl h, hd, (winE_zero h).2.2⟩
  simp only [e11, e12, e13, e15, e17, e19, e10, e20]
  rw [e8, e9]
  refine br_two (fun h => by cases h) fun _ => br_two (fun _ => hT) fun h9 => ?_
  have hl : a0.length ≤ 8 := by simpa using h9
  have p11 : f11_pre a0 := show a0.length ≤ 1048576 by omega
  refine ⟨p11, p11, p11, p11, ?_⟩
  refine JoinQ.use0 True (fun G hG => ?_) fun _ => ?_
  · have hj := hG trivial
    by_cases hE : hwE a0 a1 = 0
    · rw [hE]; exact br_two (fun h => by simp at h) fun _ => hj
    · rw [rangeW_hw, headW_hw, if_neg hE, if_neg hE]
      exact br_two (fun _ => br_two (fun h => by simp at h) fun _ => br_two (fun h => by simp at h) fun _ => br_two (fun h => by simp [no4] at h) fun _ => br_two (fun h => by simp at h) fun _ => hj) fun h => absurd (bne_f.1 h) hE
  refine JoinQ.use0 True (fun G hG => ?_) fun _ => ?_
  · have hj := hG trivial
    by_cases hE : hwE a0 a1 = 0
    · obtain ⟨h1, h2, h3⟩ := hwE_zero hE
      have hd := (dirE_zero h2).1
      rw [rangeW_hw, headW_hw, if_pos hE, if_pos hE, e16 h3, e18 h3, hE]
      exact br_two (fun _ => br_two (fun h => by simp at h) fun _ => ⟨rl h3, p16 h3 _ hd, br_two (fun h => by simp at h) fun _ => br_two (fun h => by simp at h) fun _ => ⟨p18 h3 _ hd, br_two (fun h => by simp at h) fun _ => hj⟩⟩) fun h => by simp at h
    · exact br_two (fun h => absurd (beq_iff_eq.1 h) hE) fun _ => hj
  rw [vtxW_w, f14_w]
  by_cases hW : winE a0 = 0
  · rw [if_pos hW, if_pos hW, e18 hW, e18 hW, e18 hW, hW]
    exact br_two (fun h => by simp at h) fun _ => br_two (fun _ => ⟨rl hW, br_two (fun _ => br_two (fun _ => ⟨p18 hW _ (by decide), p18 hW _ (by decide), p18 hW _ (by decide), hKb _ (by simp)⟩) fun h => by simp at h) fun h => by simp at h⟩) fun h => by simp at h
  · rw [if_neg hW, if_neg hW]
    exact br_two (fun _ => br_two (fun _ => br_two (fun _ => br_weak (br_two (fun _ => hKb _ (by simp)) fun h => by simp at h)) fun h => by simp at h) fun h => by simp at h) fun h => absurd (bne_f.1 h) hW
theorem f3_fn : f3_e.fn = f3 := rfl
theorem f3_ok : EntryOK Tryz.prog 3 f3_e := by
  refine entryF progOK (EnvOK.cons f8_ok (EnvOK.cons f9_ok (EnvOK.cons f10_ok (EnvOK.cons f11_ok (EnvOK.cons f12_ok (EnvOK.cons f13_ok (EnvOK.cons f14_ok (EnvOK.cons f15_ok (EnvOK.cons f16_ok (EnvOK.cons f17_ok (EnvOK.cons f18_ok (EnvOK.cons f19_ok (EnvOK.cons f20_ok (EnvOK.nil)))))))))))))) (A := f3_A) (d := 6) Tryz.func3 rfl rfl rfl rfl (fun _ _ => trivial) fun x hpre => ?_
  obtain ⟨a0, a1⟩ := x
  exact f3_t a0 a1 _ fun _ h => h.trans (congrFun f3_fn.symm _)
end Go.Proofs.YtglijnhkdnhofaaGreat
end
