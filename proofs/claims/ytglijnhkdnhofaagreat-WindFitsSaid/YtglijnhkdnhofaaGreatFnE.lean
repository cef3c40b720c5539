/- What functions of the program compute, each proved once, part 5. -/
import Derived.Test.YtglijnhkdnhofaaGreatPiD
import Derived.Test.YtglijnhkdnhofaaGreatFnA

section
namespace Go.Proofs.YtglijnhkdnhofaaGreat
open Go Go.Pi Go.RowKit
set_option maxRecDepth 100000
set_option linter.unusedVariables false
set_option linter.unusedSimpArgs false

def f70 (x : Int × Int) : Int := x.1 / x.2
def f70_pre (x : Int × Int) : Prop := Fit x.1 ∧ 0 < x.2
def f70_e : Entry := { doms := [(false, (.int .i64)), (false, (.int .i64))], cods := [(false, (.int .i64))], pre := f70_pre, fn := f70, uq := false, total := false }
def f70_E : Env := []
def f70_A : Anns := { loops := [], own := [] }
theorem f70_run (a0 : Int) (a1 : Int) (K : Int → Prop) : runF Tryz.prog f70_E f70_A 6 Tryz.f70 f70_e.doms f70_e.cods (a0, a1) K =
    (br (!(decide (a1 = 0)))
    (br (!(decide (a1 = 0)))
    (br (decide ((a0.tmod a1) < 0))
    (K (IntKind.i64.wrap ((IntKind.i64.wrap (a0.tdiv a1)) - 1)))
    (K (IntKind.i64.wrap (a0.tdiv a1))))
    False)
    False) := by kernel_rfl
theorem f70_t (a0 : Int) (a1 : Int) (hpre : f70_pre (a0, a1)) (K : Int → Prop) (hK : ∀ y : Int, y = f70 (a0, a1) → K y) : RunF Tryz.prog f70_E f70_A 6 Tryz.f70 f70_e.doms f70_e.cods (a0, a1) K := by
  refine ⟨?_⟩
  rw [f70_run a0 a1 K]
  obtain ⟨h1, h2⟩ := hpre
  dsimp only at h1 h2
  have hn : (!(decide (a1 = 0))) = true := ne_zero_b (by omega)
  have hf : Fit (a0.tdiv a1) := tdiv_fit h1
  have he := floor_eq (a := a0) h2
  have hg := ediv_fit h1 h2
  refine br_must hn (br_must hn (br_if (fun h => hK _ ?_) fun h => hK _ ?_))
  · rw [if_pos h] at he
    rw [wr (n := a0.tdiv a1) (by have := hf.1; omega) hf.2, he]
    exact w64_fit hg
  · rw [if_neg h] at he
    rw [wr (n := a0.tdiv a1) (by have := hf.1; omega) hf.2, he]
    rfl
theorem f70_fn : f70_e.fn = f70 := rfl
theorem f70_ok : EntryOK Tryz.prog 70 f70_e := by
  refine entryF progOK (EnvOK.nil) (A := f70_A) (d := 6) Tryz.func70 rfl rfl rfl rfl (fun h => by cases h) fun x hpre => ?_
  obtain ⟨a0, a1⟩ := x
  exact f70_t a0 a1 hpre _ fun _ h => h.trans (congrFun f70_fn.symm _)
end Go.Proofs.YtglijnhkdnhofaaGreat
end

section
namespace Go.Proofs.YtglijnhkdnhofaaGreat
open Go Go.Pi Go.RowKit
set_option maxRecDepth 100000
set_option linter.unusedVariables false
set_option linter.unusedSimpArgs false

def f71 (x : Int × Int) : Int := -((-x.1) / x.2)
def f71_pre (x : Int × Int) : Prop := Fit x.1 ∧ 0 < x.2
def f71_e : Entry := { doms := [(false, (.int .i64)), (false, (.int .i64))], cods := [(false, (.int .i64))], pre := f71_pre, fn := f71, uq := false, total := false }
def f71_E : Env := [(70, f70_e)]
def f71_A : Anns := { loops := [], own := [] }
theorem f71_run (a0 : Int) (a1 : Int) (K : Int → Prop) : runF Tryz.prog f71_E f71_A 6 Tryz.f71 f71_e.doms f71_e.cods (a0, a1) K =
    (f70_pre ((IntKind.i64.wrap (0 - a0)), a1) ∧
    K (IntKind.i64.wrap (0 - (f70 ((IntKind.i64.wrap (0 - a0)), a1))))) := by kernel_rfl
theorem f71_t (a0 : Int) (a1 : Int) (hpre : f71_pre (a0, a1)) (K : Int → Prop) (hK : ∀ y : Int, y = f71 (a0, a1) → K y) : RunF Tryz.prog f71_E f71_A 6 Tryz.f71 f71_e.doms f71_e.cods (a0, a1) K := by
  refine ⟨?_⟩
  rw [f71_run a0 a1 K]
  obtain ⟨h1, h2⟩ := hpre
  dsimp only at h1 h2
  have hn := neg_fit h1
  rw [wr (n := 0 - a0) (by have := hn.1; omega) hn.2]
  refine ⟨⟨hn, h2⟩, hK _ ?_⟩
  have hf := ediv_fit hn h2
  simp only [f70, f71]
  rw [wr (n := 0 - (0 - a0) / a1) (by have := hf.1; have := hf.2; omega) (by have := hf.1; omega)]
  simp
theorem f71_fn : f71_e.fn = f71 := rfl
theorem f71_ok : EntryOK Tryz.prog 71 f71_e := by
  refine entryF progOK (EnvOK.cons f70_ok (EnvOK.nil)) (A := f71_A) (d := 6) Tryz.func71 rfl rfl rfl rfl (fun h => by cases h) fun x hpre => ?_
  obtain ⟨a0, a1⟩ := x
  exact f71_t a0 a1 hpre _ fun _ h => h.trans (congrFun f71_fn.symm _)
end Go.Proofs.YtglijnhkdnhofaaGreat
end
