/- What functions of the program compute, each proved once, part 15. -/
import Derived.Test.YtglijnhkdnhofaaGreatPiD
import Derived.Test.YtglijnhkdnhofaaGreatFnA
import Derived.Test.YtglijnhkdnhofaaGreatFnN
import Derived.Test.YtglijnhkdnhofaaGreatFnL
import Derived.Test.YtglijnhkdnhofaaGreatFnM
import Derived.Test.YtglijnhkdnhofaaGreatFnI
import Derived.Test.YtglijnhkdnhofaaGreatFnK

section
namespace Go.Proofs.YtglijnhkdnhofaaGreat
open Go Go.Pi Go.RowKit
set_option maxRecDepth 100000
set_option linter.unusedVariables false
set_option linter.unusedSimpArgs false

def f111 (x : ((Int × List Int) × Int × List Int) × (Int × List Int) × Int × List Int) : (Int × List Int) × Int × List Int := (wd (raW x.1 (wd (-(wv x.2.1)), x.2.2)).1, wd (raW x.1 (wd (-(wv x.2.1)), x.2.2)).2)
def f111_pre (x : ((Int × List Int) × Int × List Int) × (Int × List Int) × Int × List Int) : Prop := RB 90 x.1 ∧ RB 90 x.2
def f111_e : Entry := { doms := [(true, (.pair (.pair (.int .i64) (.sl (.int .i64))) (.pair (.int .i64) (.sl (.int .i64))))), (true, (.pair (.pair (.int .i64) (.sl (.int .i64))) (.pair (.int .i64) (.sl (.int .i64)))))], cods := [(true, (.pair (.pair (.int .i64) (.sl (.int .i64))) (.pair (.int .i64) (.sl (.int .i64)))))], pre := f111_pre, fn := f111, uq := false, total := false }
def f111_E : Env := [(113, f113_e), (143, f143_e)]
def f111_A : Anns := { loops := [], own := [] }
theorem f111_run (a0 : (Int × List Int) × Int × List Int) (a1 : (Int × List Int) × Int × List Int) (K : ((Int × List Int) × Int × List Int) → Prop) : runF Tryz.prog f111_E f111_A 6 Tryz.f111 f111_e.doms f111_e.cods (a0, a1) K =
    (f143_pre a1 ∧
    f113_pre (a0, (((f143 a1).1), ((f143 a1).2))) ∧
    K (((f113 (a0, (((f143 a1).1), ((f143 a1).2)))).1), ((f113 (a0, (((f143 a1).1), ((f143 a1).2)))).2))) := by kernel_rfl
theorem f111_t (a0 : (Int × List Int) × Int × List Int) (a1 : (Int × List Int) × Int × List Int) (hpre : f111_pre (a0, a1)) (K : ((Int × List Int) × Int × List Int) → Prop) (hK : ∀ y : (Int × List Int) × Int × List Int, y = f111 (a0, a1) → K y) : RunF Tryz.prog f111_E f111_A 6 Tryz.f111 f111_e.doms f111_e.cods (a0, a1) K := by
  refine ⟨?_⟩
  rw [f111_run a0 a1 K]
  obtain ⟨ha, b1, b2, b3⟩ := hpre
  dsimp only at ha b1 b2 b3
  have := b1.lt
  exact ⟨b1.eq, ⟨ha, wd_WB (by omega), b2, b3⟩, hK _ rfl⟩
theorem f111_fn : f111_e.fn = f111 := rfl
theorem f111_ok : EntryOK Tryz.prog 111 f111_e := by
  refine entryF progOK (EnvOK.cons f113_ok (EnvOK.cons f143_ok (EnvOK.nil))) (A := f111_A) (d := 6) Tryz.func111 rfl rfl rfl rfl (fun h => by cases h) fun x hpre => ?_
  obtain ⟨a0, a1⟩ := x
  exact f111_t a0 a1 hpre _ fun _ h => h.trans (congrFun f111_fn.symm _)
end Go.Proofs.YtglijnhkdnhofaaGreat
end

section
namespace Go.Proofs.YtglijnhkdnhofaaGreat
open Go Go.Pi Go.RowKit
set_option maxRecDepth 100000
set_option linter.unusedVariables false
set_option linter.unusedSimpArgs false

def f112 (x : Int × Int) : (Int × List Int) × Int × List Int := (wd (low x.1 x.2).1, wd (low x.1 x.2).2)
def f112_pre (x : Int × Int) : Prop := Fit x.1 ∧ Fit x.2 ∧ x.2 ≠ 0
def f112_e : Entry := { doms := [(false, (.int .i64)), (false, (.int .i64))], cods := [(true, (.pair (.pair (.int .i64) (.sl (.int .i64))) (.pair (.int .i64) (.sl (.int .i64)))))], pre := f112_pre, fn := f112, uq := false, total := false }
def f112_E : Env := [(142, f142_e), (144, f144_e)]
def f112_A : Anns := { loops := [], own := [] }
theorem f112_run (a0 : Int) (a1 : Int) (K : ((Int × List Int) × Int × List Int) → Prop) : runF Tryz.prog f112_E f112_A 6 Tryz.f112 f112_e.doms f112_e.cods (a0, a1) K =
    (f142_pre a0 ∧
    f142_pre a1 ∧
    f144_pre ((f142 a0), (f142 a1)) ∧
    K (((f144 ((f142 a0), (f142 a1))).1), ((f144 ((f142 a0), (f142 a1))).2))) := by kernel_rfl
theorem f112_t (a0 : Int) (a1 : Int) (hpre : f112_pre (a0, a1)) (K : ((Int × List Int) × Int × List Int) → Prop) (hK : ∀ y : (Int × List Int) × Int × List Int, y = f112 (a0, a1) → K y) : RunF Tryz.prog f112_E f112_A 6 Tryz.f112 f112_e.doms f112_e.cods (a0, a1) K := by
  refine ⟨?_⟩
  rw [f112_run a0 a1 K]
  obtain ⟨h1, h2, h3⟩ := hpre
  dsimp only at h1 h2 h3
  have e144 : f144 (wd a0, wd a1) = (wd (low a0 a1).1, wd (low a0 a1).2) := by
    show (wd (low (wv (wd a0)) (wv (wd a1))).1, wd (low (wv (wd a0)) (wv (wd a1))).2) = _
    rw [wv_wd, wv_wd]
  have p3 : pw 3 = 1000000000000000000000000000 := rfl
  have m := pw_mono (show 3 ≤ 200 by omega)
  have e142 : ∀ n, f142 n = wd n := fun _ => rfl
  rw [e142, e142]
  refine ⟨h1, h2, ⟨wd_WB ?_, wd_WB ?_, by rw [wv_wd]; exact h3⟩, hK _ e144⟩
  · have := h1.1; have := h1.2; omega
  · have := h2.1; have := h2.2; omega
theorem f112_fn : f112_e.fn = f112 := rfl
theorem f112_ok : EntryOK Tryz.prog 112 f112_e := by
  refine entryF progOK (EnvOK.cons f142_ok (EnvOK.cons f144_ok (EnvOK.nil))) (A := f112_A) (d := 6) Tryz.func112 rfl rfl rfl rfl (fun h => by cases h) fun x hpre => ?_
  obtain ⟨a0, a1⟩ := x
  exact f112_t a0 a1 hpre _ fun _ h => h.trans (congrFun f112_fn.symm _)
end Go.Proofs.YtglijnhkdnhofaaGreat
end

section
namespace Go.Proofs.YtglijnhkdnhofaaGreat
open Go Go.Pi Go.RowKit
set_option maxRecDepth 100000
set_option linter.unusedVariables false
set_option linter.unusedSimpArgs false

def rmW (a b : Wd × Wd) : Int × Int := low (wv a.1 * wv b.1) (wv a.2 * wv b.2)
def f114 (x : ((Int × List Int) × Int × List Int) × (Int × List Int) × Int × List Int) : (Int × List Int) × Int × List Int := (wd (rmW x.1 x.2).1, wd (rmW x.1 x.2).2)
def f114_pre (x : ((Int × List Int) × Int × List Int) × (Int × List Int) × Int × List Int) : Prop := RB 90 x.1 ∧ RB 90 x.2
def f114_e : Entry := { doms := [(true, (.pair (.pair (.int .i64) (.sl (.int .i64))) (.pair (.int .i64) (.sl (.int .i64))))), (true, (.pair (.pair (.int .i64) (.sl (.int .i64))) (.pair (.int .i64) (.sl (.int .i64)))))], cods := [(true, (.pair (.pair (.int .i64) (.sl (.int .i64))) (.pair (.int .i64) (.sl (.int .i64)))))], pre := f114_pre, fn := f114, uq := false, total := false }
def f114_E : Env := [(144, f144_e), (146, f146_e), (113, f113_e)]
def f114_A : Anns := { loops := [], own := [] }
theorem f114_run (a0 : (Int × List Int) × Int × List Int) (a1 : (Int × List Int) × Int × List Int) (K : ((Int × List Int) × Int × List Int) → Prop) : runF Tryz.prog f114_E f114_A 6 Tryz.f114 f114_e.doms f114_e.cods (a0, a1) K =
    (f146_pre (a0.1, a1.1) ∧
    f146_pre (a0.2, a1.2) ∧
    f144_pre ((f146 (a0.1, a1.1)), (f146 (a0.2, a1.2))) ∧
    K (((f144 ((f146 (a0.1, a1.1)), (f146 (a0.2, a1.2)))).1), ((f144 ((f146 (a0.1, a1.1)), (f146 (a0.2, a1.2)))).2))) := by kernel_rfl
theorem f114_t (a0 : (Int × List Int) × Int × List Int) (a1 : (Int × List Int) × Int × List Int) (hpre : f114_pre (a0, a1)) (K : ((Int × List Int) × Int × List Int) → Prop) (hK : ∀ y : (Int × List Int) × Int × List Int, y = f114 (a0, a1) → K y) : RunF Tryz.prog f114_E f114_A 6 Tryz.f114 f114_e.doms f114_e.cods (a0, a1) K := by
  refine ⟨?_⟩
  rw [f114_run a0 a1 K]
  obtain ⟨⟨a1, a2, a3⟩, b1, b2, b3⟩ := hpre
  dsimp only at a1 a2 a3 b1 b2 b3
  have e146 : ∀ a b, f146 (a, b) = wd (wv a * wv b) := fun _ _ => rfl
  have e144 : ∀ a b, f144 (a, b) = (wd (low (wv a) (wv b)).1, wd (low (wv a) (wv b)).2) := fun _ _ => rfl
  have q1 := WB_mul a1 b1 (k := 200) (by omega)
  have q3 := WB_mul a2 b2 (k := 200) (by omega)
  have q4 := Int.mul_pos a3 b3
  simp only [e146, e144, wv_wd]
  exact ⟨⟨a1.mono (by omega), b1.mono (by omega)⟩, ⟨a2.mono (by omega), b2.mono (by omega)⟩, ⟨wd_WB q1, wd_WB q3, by rw [wv_wd]; omega⟩, hK _ rfl⟩
theorem f114_fn : f114_e.fn = f114 := rfl
theorem f114_ok : EntryOK Tryz.prog 114 f114_e := by
  refine entryF progOK (EnvOK.cons f144_ok (EnvOK.cons f146_ok (EnvOK.cons f113_ok (EnvOK.nil)))) (A := f114_A) (d := 6) Tryz.func114 rfl rfl rfl rfl (fun h => by cases h) fun x hpre => ?_
  obtain ⟨a0, a1⟩ := x
  exact f114_t a0 a1 hpre _ fun _ h => h.trans (congrFun f114_fn.symm _)
end Go.Proofs.YtglijnhkdnhofaaGreat
end

section
namespace Go.Proofs.YtglijnhkdnhofaaGreat
open Go Go.Pi Go.RowKit
set_option maxRecDepth 100000
set_option linter.unusedVariables false
set_option linter.unusedSimpArgs false

def f147 (a : Int × List Int) : Int × Bool := if -1000000000000000000 < wv a ∧ wv a < 1000000000000000000 then (wv a, true) else (0, false)
def f147_pre (a : Int × List Int) : Prop := WC a
def f147_e : Entry := { doms := [(true, (.pair (.int .i64) (.sl (.int .i64))))], cods := [(false, (.int .i64)), (false, .bool)], pre := f147_pre, fn := f147, uq := false, total := false }
def f147_E : Env := []
def f147_A : Anns := { loops := [(1048576, { tms := [(1, .keep), (4, .data false (.int .i64)), (5, .data false (.int .i64))], obs := [(1048576, .keep)], fz := [] })], own := [] }
theorem f147_run (a0 : Int × List Int) (K : (Int × Bool) → Prop) : runF Tryz.prog f147_E f147_A 6 Tryz.f147 f147_e.doms f147_e.cods a0 K =
    (br (lenOk (a0.2.length))
    (br (decide (((a0.2.length) : Int) > 2))
    (K (0, false))
    (br (lenOk (a0.2.length))
    (LoopP (V := Int × Int × Unit) (fun again v => (fun (again1 : Int → Int → Prop) (v1_0 : Int) (v1_1 : Int) =>
    br (decide (v1_1 ≥ 0))
    (br (decide (0 ≤ v1_1) && decide (v1_1 < ((a0.2.length) : Int)))
    (again1 (IntKind.i64.wrap ((IntKind.i64.wrap (v1_0 * 1000000000)) + (a0.2.getD v1_1.toNat 0))) (IntKind.i64.wrap (v1_1 - 1)))
    False)
    (K ((IntKind.i64.wrap (a0.1 * v1_0)), true)))
    (fun v1_0 v1_1 => again (v1_0, v1_1, ())) v.1 v.2.1) (0, (IntKind.i64.wrap (((a0.2.length) : Int) - 1)), ()))
    True))
    True) := by kernel_rfl
theorem f147_t (a0 : Int × List Int) (hpre : f147_pre a0) (K : (Int × Bool) → Prop) (hK : ∀ y : Int × Bool, y = f147 a0 → K y) : RunF Tryz.prog f147_E f147_A 6 Tryz.f147 f147_e.doms f147_e.cods a0 K := by
  refine ⟨?_⟩
  rw [f147_run a0 K]
  have hc : WC a0 := hpre
  obtain ⟨c, v, s⟩ := hc.of
  have e0 : f147 a0 = if -1000000000000000000 < wv a0 ∧ wv a0 < 1000000000000000000 then (wv a0, true) else (0, false) := rfl
  have p2 : pw 2 = 1000000000000000000 := rfl
  refine br_weak (br_if (fun h => hK _ ?_) fun h => br_weak ?_)
  · rw [e0, if_neg]
    rcases c.top with q | q
    · rw [q] at h; simp at h
    · have := pw_mono (show 2 ≤ a0.2.length - 1 by omega)
      omega
  have hlt := c.lt (k := 2) (by omega)
  rw [show IntKind.i64.wrap ((a0.2.length : Int) - 1) = (a0.2.length : Int) - 1 from wr (by omega) (by omega)]
  refine LoopP.of (fun q : Int × Int × Unit => -1 ≤ q.2.1 ∧ q.2.1 < (a0.2.length : Int) ∧ q.1 = bv (a0.2.drop (q.2.1 + 1).toNat)) (fun q => (q.2.1 + 1).toNat) (fun again q hq hag => ?_) ⟨by simp; omega, by simp; omega, ?_⟩
  rotate_left
  · show 0 = bv (a0.2.drop ((a0.2.length : Int) - 1 + 1).toNat)
    rw [List.drop_of_length_le (by omega)]; rfl
  obtain ⟨n, i, u⟩ := q
  obtain ⟨h0, hn, hz⟩ := hq
  dsimp only at h0 hn hz ⊢
  refine br_if (fun hv => ?_) fun hv => hK _ ?_
  · obtain ⟨i, rfl⟩ := Int.eq_ofNat_of_zero_le hv
    rw [show ((i : Int) + 1).toNat = i + 1 by omega] at hz
    rw [Int.toNat_natCast]
    have hd := @bv_drop a0.2 i (by omega)
    rw [← hz] at hd
    have r := bv_range (c.dg.drop (i + 1))
    rw [← hz, List.length_drop] at r
    have r2 := bv_range (c.dg.drop i)
    rw [List.length_drop] at r2
    have : pw (a0.2.length - i) ≤ pw 2 := pw_mono (by omega)
    have q := c.dg.at i
    have hmul : 0 ≤ n * 1000000000 := by omega
    refine br_must (inb (by omega) hn) ?_
    rw [show IntKind.i64.wrap (n * 1000000000) = n * 1000000000 from wr (by omega) (by omega), show IntKind.i64.wrap (n * 1000000000 + a0.2.getD i 0) = bv (a0.2.drop i) by rw [wr (by omega) (by omega)]; omega, show IntKind.i64.wrap ((i : Int) - 1) = (i : Int) - 1 from wr (by omega) (by omega)]
    refine hag _ ⟨by simp; omega, by simp; omega, ?_⟩ (by show ((i : Int) - 1 + 1).toNat < ((i : Int) + 1).toNat; omega)
    show bv (a0.2.drop i) = bv (a0.2.drop ((i : Int) - 1 + 1).toNat)
    rw [show ((i : Int) - 1 + 1).toNat = i by omega]
  · rw [show (i + 1).toNat = 0 by omega, List.drop_zero] at hz
    have hx : a0.1 * n = wv a0 := by rw [hz]; rfl
    rw [hx, e0, if_pos (by omega), wr (by omega) (by omega)]
theorem f147_fn : f147_e.fn = f147 := rfl
theorem f147_ok : EntryOK Tryz.prog 147 f147_e := by
  refine entryF progOK (EnvOK.nil) (A := f147_A) (d := 6) Tryz.func147 rfl rfl rfl rfl (fun h => by cases h) fun x hpre => ?_
  exact f147_t x hpre _ fun _ h => h.trans (congrFun f147_fn.symm _)
end Go.Proofs.YtglijnhkdnhofaaGreat
end

section
namespace Go.Proofs.YtglijnhkdnhofaaGreat
open Go Go.Pi Go.RowKit
set_option maxRecDepth 100000
set_option linter.unusedVariables false
set_option linter.unusedSimpArgs false

def f148 (x : Int × Int) : Bool := decide ((-1000000000 ≤ x.1 ∧ x.1 ≤ 1000000000) ∧ 1 ≤ x.2 ∧ x.2 ≤ 1000000000)
def f148_e : Entry := { doms := [(true, (.pair (.int .i64) (.int .i64)))], cods := [(false, .bool)], pre := fun _ => True, fn := f148, uq := false, total := true }
def f148_E : Env := [(91, f91_e)]
def f148_A : Anns := { loops := [], own := [] }
theorem f148_run (a0 : Int × Int) (K : Bool → Prop) : runF Tryz.prog f148_E f148_A 6 Tryz.f148 f148_e.doms f148_e.cods a0 K =
    (br (f91 (a0.1, ((-1000000000), 1000000000)))
    (K (f91 (a0.2, (1, 1000000000))))
    (K false)) := by kernel_rfl
theorem f148_t (a0 : Int × Int) (K : Bool → Prop) (hK : ∀ y : Bool, y = f148 a0 → K y) : RunF Tryz.prog f148_E f148_A 6 Tryz.f148 f148_e.doms f148_e.cods a0 K := by
  refine ⟨?_⟩
  rw [f148_run a0 K]
  have e0 : f148 a0 = decide ((-1000000000 ≤ a0.1 ∧ a0.1 ≤ 1000000000) ∧ 1 ≤ a0.2 ∧ a0.2 ≤ 1000000000) := rfl
  have e35 : ∀ n a b, f91 (n, a, b) = (decide (a ≤ n) && decide (n ≤ b)) := fun _ _ _ => rfl
  rw [e35, e35]
  refine br_two (fun h => hK _ ?_) fun h => hK _ ?_
  · rw [e0]
    simp only [Bool.and_eq_true, decide_eq_true_eq] at h
    rw [Bool.eq_iff_iff]
    simp only [Bool.and_eq_true, decide_eq_true_eq]
    exact ⟨fun hh => ⟨h, hh⟩, fun hh => hh.2⟩
  · rw [e0]
    refine (decide_eq_false fun hh => ?_).symm
    rw [decide_eq_true hh.1.1, decide_eq_true hh.1.2] at h
    cases h
theorem f148_fn : f148_e.fn = f148 := rfl
theorem f148_ok : EntryOK Tryz.prog 148 f148_e := by
  refine entryF progOK (EnvOK.cons f91_ok (EnvOK.nil)) (A := f148_A) (d := 6) Tryz.func148 rfl rfl rfl rfl (fun _ _ => trivial) fun x hpre => ?_
  exact f148_t x _ fun _ h => h.trans (congrFun f148_fn.symm _)
end Go.Proofs.YtglijnhkdnhofaaGreat
end

section
namespace Go.Proofs.YtglijnhkdnhofaaGreat
open Go Go.Pi Go.RowKit
set_option maxRecDepth 100000
set_option linter.unusedVariables false
set_option linter.unusedSimpArgs false

def f115 (x : (Int × List Int) × Int × List Int) : (Int × Int) × Bool := if (-1000000000 ≤ wv x.1 ∧ wv x.1 ≤ 1000000000) ∧ 1 ≤ wv x.2 ∧ wv x.2 ≤ 1000000000 then ((wv x.1, wv x.2), true) else ((0, 0), false)
def f115_pre (x : (Int × List Int) × Int × List Int) : Prop := WC x.1 ∧ WC x.2
def f115_e : Entry := { doms := [(true, (.pair (.pair (.int .i64) (.sl (.int .i64))) (.pair (.int .i64) (.sl (.int .i64)))))], cods := [(true, (.pair (.int .i64) (.int .i64))), (false, .bool)], pre := f115_pre, fn := f115, uq := false, total := false }
def f115_E : Env := [(147, f147_e), (148, f148_e)]
def f115_A : Anns := { loops := [], own := [] }
theorem f115_run (a0 : (Int × List Int) × Int × List Int) (K : ((Int × Int) × Bool) → Prop) : runF Tryz.prog f115_E f115_A 6 Tryz.f115 f115_e.doms f115_e.cods a0 K =
    (f147_pre a0.1 ∧
    f147_pre a0.2 ∧
    br (!(f147 a0.1).2)
    (K ((0, 0), false))
    (br (!(f147 a0.2).2)
    (K ((0, 0), false))
    (br (!(f148 ((f147 a0.1).1, (f147 a0.2).1)))
    (K ((0, 0), false))
    (K (((f147 a0.1).1, (f147 a0.2).1), true))))) := by kernel_rfl
theorem f115_t (a0 : (Int × List Int) × Int × List Int) (hpre : f115_pre a0) (K : ((Int × Int) × Bool) → Prop) (hK : ∀ y : (Int × Int) × Bool, y = f115 a0 → K y) : RunF Tryz.prog f115_E f115_A 6 Tryz.f115 f115_e.doms f115_e.cods a0 K := by
  refine ⟨?_⟩
  rw [f115_run a0 K]
  obtain ⟨h1, h2⟩ := hpre
  have e147 : ∀ a, f147 a = if -1000000000000000000 < wv a ∧ wv a < 1000000000000000000 then (wv a, true) else (0, false) := fun _ => rfl
  have e0 : f115 a0 = if (-1000000000 ≤ wv a0.1 ∧ wv a0.1 ≤ 1000000000) ∧ 1 ≤ wv a0.2 ∧ wv a0.2 ≤ 1000000000 then ((wv a0.1, wv a0.2), true) else ((0, 0), false) := rfl
  refine ⟨h1, h2, ?_⟩
  have e148 : ∀ a b : Int, f148 (a, b) = decide ((-1000000000 ≤ a ∧ a ≤ 1000000000) ∧ 1 ≤ b ∧ b ≤ 1000000000) := fun _ _ => rfl
  have no : ¬ ((-1000000000 ≤ wv a0.1 ∧ wv a0.1 ≤ 1000000000) ∧ 1 ≤ wv a0.2 ∧ wv a0.2 ≤ 1000000000) → K ((0, 0), false) := fun h => hK _ (by rw [e0, if_neg h])
  by_cases c0 : -1000000000000000000 < wv a0.1 ∧ wv a0.1 < 1000000000000000000
  · have q0 : f147 a0.1 = (wv a0.1, true) := by rw [e147, if_pos c0]
    rw [q0]
    refine br_two (fun q => by cases q) fun _ => ?_
    by_cases c1 : -1000000000000000000 < wv a0.2 ∧ wv a0.2 < 1000000000000000000
    · have q1 : f147 a0.2 = (wv a0.2, true) := by rw [e147, if_pos c1]
      rw [q1, e148]
      refine br_two (fun q => by cases q) fun _ => br_two (fun q => no (nd_t.1 q)) fun q => hK _ (by rw [e0, if_pos (nd_f.1 q)])
    · have q1 : f147 a0.2 = (0, false) := by rw [e147, if_neg c1]
      rw [q1]
      exact br_two (fun _ => no (by omega)) fun q => by cases q
  · have q0 : f147 a0.1 = (0, false) := by rw [e147, if_neg c0]
    rw [q0]
    exact br_two (fun _ => no (by omega)) fun q => by cases q
theorem f115_fn : f115_e.fn = f115 := rfl
theorem f115_ok : EntryOK Tryz.prog 115 f115_e := by
  refine entryF progOK (EnvOK.cons f147_ok (EnvOK.cons f148_ok (EnvOK.nil))) (A := f115_A) (d := 6) Tryz.func115 rfl rfl rfl rfl (fun h => by cases h) fun x hpre => ?_
  exact f115_t x hpre _ fun _ h => h.trans (congrFun f115_fn.symm _)
end Go.Proofs.YtglijnhkdnhofaaGreat
end
