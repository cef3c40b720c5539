/- What functions of the program compute, each proved once, part 7. -/
import Derived.Test.YtglokajinehbmaaPiD
import Derived.Test.YtglokajinehbmaaFnA
import Derived.Test.YtglokajinehbmaaFnF
import Derived.Test.YtglokajinehbmaaFnB
import Derived.Test.YtglokajinehbmaaFnD
import Derived.Test.YtglokajinehbmaaFnE

section
namespace Go.Proofs.Ytglokajinehbmaa
open Go Go.Pi Go.RowKit
set_option maxRecDepth 100000
set_option linter.unusedVariables false
set_option linter.unusedSimpArgs false

def f38 (x : ((List (List Int) × List (List Int)) × List (ByteArray × Int × Int × Int × Int) × List Int) × List (Int × Int)) : Int × Int :=
  if planE x.1 x.2 ≠ 0 then (0, planE x.1 x.2) else if x.2.length ≠ x.1.2.1.length then (0, 10) else (costF x.1 x.2, 0)
def f38_pre (x : ((List (List Int) × List (List Int)) × List (ByteArray × Int × Int × Int × Int) × List Int) × List (Int × Int)) : Prop := f22_pre x.1.2.1 ∧ x.2.length ≤ 1000
theorem planE_zero {p : Prob} {l : List (Int × Int)} (h : planE p l = 0) : okP p ∧ slotsErr p l = 0 := by
  unfold planE at h
  split at h
  · rename_i h1; exact ⟨h1, h⟩
  · rename_i h1; exact absurd h h1
theorem slotsErr_valid {p : Prob} (hp : okP p) {l : List (Int × Int)} (h : slotsErr p l = 0) : ∀ s ∈ l, slotV p s := fun s hs => by
  have := slots_valid hp.v (Nat.le_refl l.length) (fun j hj => eachE_zero h j hj) s
  rw [List.take_length] at this
  exact this hs
def f38_e : Entry := { doms := [(true, (.pair (.pair (.sl (.sl (.int .i64))) (.sl (.sl (.int .i64)))) (.pair (.sl (.pair .str (.pair (.int .i64) (.pair (.int .i64) (.pair (.int .i64) (.int .i64)))))) (.sl (.int .i64))))), (false, (.sl (.pair (.int .i64) (.int .i64))))], cods := [(false, (.int .i64)), (false, (.int .i64))], pre := f38_pre, fn := f38, uq := false, total := false }
def f38_E : Env := [(66, f66_e), (68, f68_e), (89, f89_e), (90, f90_e), (49, f49_e)]
def f38_A : Anns := { loops := [], own := [] }
theorem f38_run (a0 : (List (List Int) × List (List Int)) × List (ByteArray × Int × Int × Int × Int) × List Int) (a1 : List (Int × Int)) (K : (Int × Int) → Prop) : runF Try.prog f38_E f38_A 6 Try.f38 f38_e.doms f38_e.cods (a0, a1) K =
    (f89_pre (a0, a1) ∧
    br (lenOk (a1.length))
    (br (lenOk (a0.2.1.length))
    (br ((f66 ([(f89 (a0, a1)).2, (f68 ((((a1.length) : Int) == ((a0.2.1.length) : Int)), 10))] : List Int)) != 0)
    (K (0, (f66 ([(f89 (a0, a1)).2, (f68 ((((a1.length) : Int) == ((a0.2.1.length) : Int)), 10))] : List Int))))
    (f90_pre (((((f89 (a0, a1)).1).1), (((f89 (a0, a1)).1).2)), a1) ∧
    K ((f90 (((((f89 (a0, a1)).1).1), (((f89 (a0, a1)).1).2)), a1)), 0)))
    True)
    True) := by kernel_rfl
theorem f38_t (a0 : (List (List Int) × List (List Int)) × List (ByteArray × Int × Int × Int × Int) × List Int) (a1 : List (Int × Int)) (hpre : f38_pre (a0, a1)) (K : (Int × Int) → Prop) (hK : ∀ y : Int × Int, y = f38 (a0, a1) → K y) : RunF Try.prog f38_E f38_A 6 Try.f38 f38_e.doms f38_e.cods (a0, a1) K := by
  refine ⟨?_⟩
  rw [f38_run a0 a1 K]
  obtain ⟨h22, hl⟩ := hpre
  simp only at h22 hl
  have e89 : f89 (a0, a1) = (a0, planE a0 a1) := rfl
  have two : ∀ (a : Int) (b : Bool), f66 [a, f68 (b, 10)] = if a ≠ 0 then a else if b = false then 10 else 0 := fun a b => by
    rw [f66_cons]
    by_cases h : a = 0
    · rw [if_pos h, if_neg (fun hh => hh h)]
      cases b <;> rfl
    · rw [if_neg h, if_pos h]
  refine ⟨h22, ?_⟩
  rw [br_true_]
  intro _
  rw [br_true_]
  intro _
  rw [e89]
  simp only [two]
  by_cases h1 : planE a0 a1 = 0
  · rw [if_neg (fun hh => hh h1)]
    obtain ⟨hok, hsl⟩ := planE_zero h1
    by_cases h2 : a1.length = a0.2.1.length
    · rw [cast_eq.2 h2, if_neg (show ¬ (true = false) by decide)]
      refine ⟨⟨hok, slotsErr_valid hok hsl, hl⟩, hK _ ?_⟩
      rw [f38, if_neg (fun hh => hh h1), if_neg (fun hh => hh h2)]
      rfl
    · rw [cast_eq_f.2 h2, if_pos rfl]
      refine hK _ ?_
      rw [f38, if_neg (fun hh => hh h1), if_pos h2]
  · rw [if_pos h1, bne_iff_ne.2 h1]
    refine hK _ ?_
    rw [f38, if_pos h1]
theorem f38_fn : f38_e.fn = f38 := rfl
theorem f38_ok : EntryOK Try.prog 38 f38_e := by
  refine entryF progOK (EnvOK.cons f66_ok (EnvOK.cons f68_ok (EnvOK.cons f89_ok (EnvOK.cons f90_ok (EnvOK.cons f49_ok (EnvOK.nil)))))) (A := f38_A) (d := 6) Try.func38 rfl rfl rfl (fun h => by cases h) fun x hpre => ?_
  obtain ⟨a0, a1⟩ := x
  exact f38_t a0 a1 hpre _ fun _ h => h.trans (congrFun f38_fn.symm _)
end Go.Proofs.Ytglokajinehbmaa
end

section
namespace Go.Proofs.Ytglokajinehbmaa
open Go Go.Pi Go.RowKit
set_option maxRecDepth 100000
set_option linter.unusedVariables false
set_option linter.unusedSimpArgs false

def replF (p : Prob) (fixed : List (Int × Int)) : List (Int × Int) × Int × Int := if planE p fixed ≠ 0 then ([], 0, planE p fixed) else ((bestF p fixed).1, (bestF p fixed).2.1, if (bestF p fixed).2.2 = true then 0 else 12)
def f51 (x : ((List (List Int) × List (List Int)) × List (ByteArray × Int × Int × Int × Int) × List Int) × List (Int × Int)) : List (Int × Int) × Int × Int := replF x.1 x.2
def f51_pre (x : ((List (List Int) × List (List Int)) × List (ByteArray × Int × Int × Int × Int) × List Int) × List (Int × Int)) : Prop := f22_pre x.1.2.1 ∧ x.2.length ≤ 900
def f51_e : Entry := { doms := [(true, (.pair (.pair (.sl (.sl (.int .i64))) (.sl (.sl (.int .i64)))) (.pair (.sl (.pair .str (.pair (.int .i64) (.pair (.int .i64) (.pair (.int .i64) (.int .i64)))))) (.sl (.int .i64))))), (false, (.sl (.pair (.int .i64) (.int .i64))))], cods := [(false, (.sl (.pair (.int .i64) (.int .i64)))), (false, (.int .i64)), (false, (.int .i64))], pre := f51_pre, fn := f51, uq := false, total := false }
def f51_E : Env := [(68, f68_e), (89, f89_e), (94, f94_e), (109, f109_e), (38, f38_e)]
def f51_A : Anns := { loops := [], own := [] }
theorem f51_run (a0 : (List (List Int) × List (List Int)) × List (ByteArray × Int × Int × Int × Int) × List Int) (a1 : List (Int × Int)) (K : (List (Int × Int) × Int × Int) → Prop) : runF Try.prog f51_E f51_A 6 Try.f51 f51_e.doms f51_e.cods (a0, a1) K =
    (f89_pre (a0, a1) ∧
    br ((f89 (a0, a1)).2 != 0)
    (K (([] : List (Int × Int)), (0, (f89 (a0, a1)).2)))
    (f94_pre (((((f89 (a0, a1)).1).1), (((f89 (a0, a1)).1).2)), a1) ∧
    K ((f94 (((((f89 (a0, a1)).1).1), (((f89 (a0, a1)).1).2)), a1)).1, (((f94 (((((f89 (a0, a1)).1).1), (((f89 (a0, a1)).1).2)), a1)).2).1, (f68 (((f94 (((((f89 (a0, a1)).1).1), (((f89 (a0, a1)).1).2)), a1)).2).2, 12)))))) := by kernel_rfl
theorem f51_t (a0 : (List (List Int) × List (List Int)) × List (ByteArray × Int × Int × Int × Int) × List Int) (a1 : List (Int × Int)) (hpre : f51_pre (a0, a1)) (K : (List (Int × Int) × Int × Int) → Prop) (hK : ∀ y : List (Int × Int) × Int × Int, y = f51 (a0, a1) → K y) : RunF Try.prog f51_E f51_A 6 Try.f51 f51_e.doms f51_e.cods (a0, a1) K := by
  refine ⟨?_⟩
  rw [f51_run a0 a1 K]
  obtain ⟨h22, hl⟩ := hpre
  simp only at h22 hl
  refine ⟨h22, ?_⟩
  have e89 : f89 (a0, a1) = (a0, planE a0 a1) := rfl
  rw [e89]
  have hr : f51 (a0, a1) = replF a0 a1 := rfl
  rw [hr, replF] at hK
  simp only
  rw [br_both]
  refine ⟨fun h => ?_, fun h => ?_⟩
  · have h : planE a0 a1 ≠ 0 := by simpa using h
    rw [if_pos h] at hK
    exact hK _ rfl
  · have h : planE a0 a1 = 0 := by simpa using h
    rw [if_neg (fun hh => hh h)] at hK
    obtain ⟨hok, hsl⟩ := planE_zero h
    refine ⟨⟨hok, slotsErr_valid hok hsl, hl⟩, hK _ ?_⟩
    have e94 : f94 (a0, a1) = bestF a0 a1 := rfl
    simp only [e94]
    rfl
theorem f51_fn : f51_e.fn = f51 := rfl
theorem f51_ok : EntryOK Try.prog 51 f51_e := by
  refine entryF progOK (EnvOK.cons f68_ok (EnvOK.cons f89_ok (EnvOK.cons f94_ok (EnvOK.cons f109_ok (EnvOK.cons f38_ok (EnvOK.nil)))))) (A := f51_A) (d := 6) Try.func51 rfl rfl rfl (fun h => by cases h) fun x hpre => ?_
  obtain ⟨a0, a1⟩ := x
  exact f51_t a0 a1 hpre _ fun _ h => h.trans (congrFun f51_fn.symm _)
end Go.Proofs.Ytglokajinehbmaa
end

section
namespace Go.Proofs.Ytglokajinehbmaa
open Go Go.Pi Go.RowKit
set_option maxRecDepth 100000
set_option linter.unusedVariables false
set_option linter.unusedSimpArgs false

def f34 (p : (List (List Int) × List (List Int)) × List (ByteArray × Int × Int × Int × Int) × List Int) : List (Int × Int) × Int × Int := replF p []
def f34_pre (p : (List (List Int) × List (List Int)) × List (ByteArray × Int × Int × Int × Int) × List Int) : Prop := f22_pre p.2.1
def f34_e : Entry := { doms := [(true, (.pair (.pair (.sl (.sl (.int .i64))) (.sl (.sl (.int .i64)))) (.pair (.sl (.pair .str (.pair (.int .i64) (.pair (.int .i64) (.pair (.int .i64) (.int .i64)))))) (.sl (.int .i64)))))], cods := [(false, (.sl (.pair (.int .i64) (.int .i64)))), (false, (.int .i64)), (false, (.int .i64))], pre := f34_pre, fn := f34, uq := false, total := false }
def f34_E : Env := [(51, f51_e)]
def f34_A : Anns := { loops := [], own := [] }
theorem f34_run (a0 : (List (List Int) × List (List Int)) × List (ByteArray × Int × Int × Int × Int) × List Int) (K : (List (Int × Int) × Int × Int) → Prop) : runF Try.prog f34_E f34_A 6 Try.f34 f34_e.doms f34_e.cods a0 K =
    (f51_pre (a0, ([] : List (Int × Int))) ∧
    K ((f51 (a0, ([] : List (Int × Int)))).1, ((f51 (a0, ([] : List (Int × Int)))).2))) := by kernel_rfl
theorem f34_t (a0 : (List (List Int) × List (List Int)) × List (ByteArray × Int × Int × Int × Int) × List Int) (hpre : f34_pre a0) (K : (List (Int × Int) × Int × Int) → Prop) (hK : ∀ y : List (Int × Int) × Int × Int, y = f34 a0 → K y) : RunF Try.prog f34_E f34_A 6 Try.f34 f34_e.doms f34_e.cods a0 K := by
  refine ⟨?_⟩
  rw [f34_run a0 K]
  exact ⟨⟨hpre, by simp⟩, hK _ rfl⟩
theorem f34_fn : f34_e.fn = f34 := rfl
theorem f34_ok : EntryOK Try.prog 34 f34_e := by
  refine entryF progOK (EnvOK.cons f51_ok (EnvOK.nil)) (A := f34_A) (d := 6) Try.func34 rfl rfl rfl (fun h => by cases h) fun x hpre => ?_
  exact f34_t x hpre _ fun _ h => h.trans (congrFun f34_fn.symm _)
end Go.Proofs.Ytglokajinehbmaa
end

section
namespace Go.Proofs.Ytglokajinehbmaa
open Go Go.Pi Go.RowKit
set_option maxRecDepth 100000
set_option linter.unusedVariables false
set_option linter.unusedSimpArgs false

def f35 (p : (List (List Int) × List (List Int)) × List (ByteArray × Int × Int × Int × Int) × List Int) : Int := (probOf p).2
def f35_e : Entry := { doms := [(true, (.pair (.pair (.sl (.sl (.int .i64))) (.sl (.sl (.int .i64)))) (.pair (.sl (.pair .str (.pair (.int .i64) (.pair (.int .i64) (.pair (.int .i64) (.int .i64)))))) (.sl (.int .i64)))))], cods := [(false, (.int .i64))], pre := fun _ => True, fn := f35, uq := false, total := true }
def f35_E : Env := [(27, f27_e)]
def f35_A : Anns := { loops := [], own := [] }
theorem f35_run (a0 : (List (List Int) × List (List Int)) × List (ByteArray × Int × Int × Int × Int) × List Int) (K : Int → Prop) : runF Try.prog f35_E f35_A 6 Try.f35 f35_e.doms f35_e.cods a0 K =
    (K ((f27 a0).2)) := by kernel_rfl
theorem f35_t (a0 : (List (List Int) × List (List Int)) × List (ByteArray × Int × Int × Int × Int) × List Int) (K : Int → Prop) (hK : ∀ y : Int, y = f35 a0 → K y) : RunF Try.prog f35_E f35_A 6 Try.f35 f35_e.doms f35_e.cods a0 K := by
  refine ⟨?_⟩
  rw [f35_run a0 K]
  exact hK _ rfl
theorem f35_fn : f35_e.fn = f35 := rfl
theorem f35_ok : EntryOK Try.prog 35 f35_e := by
  refine entryF progOK (EnvOK.cons f27_ok (EnvOK.nil)) (A := f35_A) (d := 6) Try.func35 rfl rfl rfl (fun _ _ => trivial) fun x hpre => ?_
  exact f35_t x _ fun _ h => h.trans (congrFun f35_fn.symm _)
end Go.Proofs.Ytglokajinehbmaa
end

section
namespace Go.Proofs.Ytglokajinehbmaa
open Go Go.Pi Go.RowKit
set_option maxRecDepth 100000
set_option linter.unusedVariables false
set_option linter.unusedSimpArgs false

def f46 (x : ((List (List Int) × List (List Int)) × List (ByteArray × Int × Int × Int × Int) × List Int) × List (Int × Int)) : Int := costF x.1 x.2
def f46_pre (x : ((List (List Int) × List (List Int)) × List (ByteArray × Int × Int × Int × Int) × List Int) × List (Int × Int)) : Prop := okP x.1 ∧ (∀ s ∈ x.2, slotV x.1 s) ∧ x.2.length ≤ 1000
def f46_e : Entry := { doms := [(true, (.pair (.pair (.sl (.sl (.int .i64))) (.sl (.sl (.int .i64)))) (.pair (.sl (.pair .str (.pair (.int .i64) (.pair (.int .i64) (.pair (.int .i64) (.int .i64)))))) (.sl (.int .i64))))), (false, (.sl (.pair (.int .i64) (.int .i64))))], cods := [(false, (.int .i64))], pre := f46_pre, fn := f46, uq := false, total := false }
def f46_E : Env := [(90, f90_e)]
def f46_A : Anns := { loops := [(1048576, { tms := [(1, .keep), (2, .keep), (5, .data false (.int .i64)), (6, .data false (.int .i64))], obs := [(1048576, .keep)], fz := [] })], own := [] }
theorem f46_run (a0 : (List (List Int) × List (List Int)) × List (ByteArray × Int × Int × Int × Int) × List Int) (a1 : List (Int × Int)) (K : Int → Prop) : runF Try.prog f46_E f46_A 6 Try.f46 f46_e.doms f46_e.cods (a0, a1) K =
    (LoopP (V := Int × Int × Unit) (fun again v => (fun (again1 : Int → Int → Prop) (v1_0 : Int) (v1_1 : Int) =>
    br (lenOk (a1.length))
    (br (decide (v1_1 < ((a1.length) : Int)))
    (br (decide (0 ≤ v1_1) && decide (v1_1 < ((a1.length) : Int)))
    (br (decide (0 ≤ (a1.getD v1_1.toNat (0, 0)).1) && decide ((a1.getD v1_1.toNat (0, 0)).1 < ((a0.2.1.length) : Int)))
    (br (decide (0 ≤ v1_1) && decide (v1_1 < ((a1.length) : Int)))
    (again1 (IntKind.i64.wrap (v1_0 + (IntKind.i64.wrap (((((a0.2.1.getD (((a1.getD v1_1.toNat (0, 0)).1).toNat) ((⟨#[]⟩ : ByteArray), (0, (0, (0, 0))))).2).2).2).2 * (IntKind.i64.wrap ((a1.getD v1_1.toNat (0, 0)).2 - (((a0.2.1.getD (((a1.getD v1_1.toNat (0, 0)).1).toNat) ((⟨#[]⟩ : ByteArray), (0, (0, (0, 0))))).2).2).1)))))) (IntKind.i64.wrap (v1_1 + 1)))
    False)
    False)
    False)
    (K v1_0))
    True)
    (fun v1_0 v1_1 => again (v1_0, v1_1, ())) v.1 v.2.1) (0, 0, ())) := by kernel_rfl
theorem f46_t (a0 : (List (List Int) × List (List Int)) × List (ByteArray × Int × Int × Int × Int) × List Int) (a1 : List (Int × Int)) (hpre : f46_pre (a0, a1)) (K : Int → Prop) (hK : ∀ y : Int, y = f46 (a0, a1) → K y) : RunF Try.prog f46_E f46_A 6 Try.f46 f46_e.doms f46_e.cods (a0, a1) K := by
  refine ⟨?_⟩
  rw [f46_run a0 a1 K]
  obtain ⟨h, hs, h3⟩ := hpre
  simp only at h hs h3
  have hv := h.v
  have hd : ((⟨#[]⟩ : ByteArray), ((0 : Int), ((0 : Int), ((0 : Int), (0 : Int))))) = arrD := rfl
  simp only [hd]
  refine LoopP.of (fun q : Int × Int × Unit => ∃ i : Nat, i ≤ a1.length ∧ q.2.1 = (i : Int) ∧ q.1 = costF a0 (a1.take i)) (fun q => ((a1.length : Int) - q.2.1).toNat) (fun again q hq hag => ?_) ⟨0, by omega, rfl, rfl⟩
  obtain ⟨t, j, u⟩ := q
  obtain ⟨i, hi, e1, e2⟩ := hq
  simp only at e1 e2
  subst e1 e2
  dsimp only
  rw [br_true_, lenOk_iff]
  intro _
  rw [br_dec]
  refine ⟨fun hlt => ?_, fun hlt => hK _ ?_⟩
  · have hlt : i < a1.length := by omega
    have b0 : (decide (0 ≤ (i : Int)) && decide ((i : Int) < (a1.length : Int))) = true := inb (by omega) (by omega)
    rw [b0]
    simp only [Int.toNat_natCast, br_t]
    have hm := hs (a1.getD i (0, 0)) (by rw [getD_lt hlt]; exact List.getElem_mem _)
    have hc1 := cost1_in hv hm
    have hc := costF_in hv hs i hi
    have hst := costF_take a0 a1 hlt
    obtain ⟨⟨s1, s2⟩, s3, s4⟩ := hm
    obtain ⟨⟨_, b, _⟩, _⟩ := hv.arr (a1.getD i (0, 0)).1.toNat (by omega)
    have be := b.2.1
    rw [br_false_]
    refine ⟨inb s1 s2, ?_⟩
    generalize (a1.getD i (0, 0)) = s at *
    rw [wr (n := s.2 - (a0.2.1.getD s.1.toNat arrD).2.2.1) (by omega) (by omega)]
    rw [wr (n := (a0.2.1.getD s.1.toNat arrD).2.2.2.2 * (s.2 - (a0.2.1.getD s.1.toNat arrD).2.2.1)) (by omega) (by omega), wr (n := costF a0 (a1.take i) + _) (by omega) (by omega), wr (n := (i : Int) + 1) (by omega) (by omega)]
    exact hag (_, _, ()) ⟨i + 1, by omega, by simp only; omega, hst.symm⟩ (by simp only; omega)
  · rw [f46, List.take_of_length_le (by omega)]
theorem f46_fn : f46_e.fn = f46 := rfl
theorem f46_ok : EntryOK Try.prog 46 f46_e := by
  refine entryF progOK (EnvOK.cons f90_ok (EnvOK.nil)) (A := f46_A) (d := 6) Try.func46 rfl rfl rfl (fun h => by cases h) fun x hpre => ?_
  obtain ⟨a0, a1⟩ := x
  exact f46_t a0 a1 hpre _ fun _ h => h.trans (congrFun f46_fn.symm _)
end Go.Proofs.Ytglokajinehbmaa
end

section
namespace Go.Proofs.Ytglokajinehbmaa
open Go Go.Pi Go.RowKit
set_option maxRecDepth 100000
set_option linter.unusedVariables false
set_option linter.unusedSimpArgs false

def f88 (l : List Int) : List (List Int) := perms l.length l
def f88_preN (n : Nat) (l : List Int) : Prop := l.length < n ∧ n ≤ 9
theorem f88_no {l : List Int} (h : f88_preN 0 l) : False := by
  have := h.1
  omega
def f88_eN (n : Nat) : Entry := { doms := [(false, (.sl (.int .i64)))], cods := [(false, (.sl (.sl (.int .i64))))], pre := f88_preN n, fn := f88, uq := false, total := false }
def f88_E (n : Nat) : Env := [(88, f88_eN n), (20, f20_e)]
def f88_A : Anns := { loops := [(1048576, { tms := [(0, .keep), (3, .ref 1060876), (4, .data false (.int .i64))], obs := [(1060876, .arr (.uniq) (.sl (.int .i64)))], fz := [] }),
  (1048578, { tms := [(0, .keep), (3, .ref 1060876), (4, .keep), (6, .keep), (7, .data false (.int .i64))], obs := [(1055747, .keep), (1060876, .arr (.uniq) (.sl (.int .i64)))], fz := [] })], own := [1055747, 1056264] }
theorem f88_run (n : Nat) (a0 : List Int) (K : (List (List Int)) → Prop) : runF Try.prog (f88_E n) f88_A 6 Try.f88 (f88_eN n).doms (f88_eN n).cods a0 K =
    (br (lenOk (a0.length))
    (br (((a0.length) : Int) == 0)
    (K ([([] : List Int)] : List (List Int)))
    (LoopP (V := Int × List (List Int) × Unit) (fun again v => (fun (again1 : Int → List (List Int) → Prop) (v1_0 : Int) (v1_1 : List (List Int)) =>
    br (lenOk (a0.length))
    (br (decide (v1_0 < ((a0.length) : Int)))
    (br (decide ((0 : Int) ≤ 0 ∧ 0 ≤ v1_0 ∧ v1_0 ≤ ((a0.length) : Int)))
    (f20_pre ((a0.take v1_0.toNat).drop 0) ∧
    br (decide ((0 : Int) ≤ (IntKind.i64.wrap (v1_0 + 1)) ∧ (IntKind.i64.wrap (v1_0 + 1)) ≤ ((a0.length) : Int) ∧ ((a0.length) : Int) ≤ ((a0.length) : Int)))
    (br (roomOk (((f20 ((a0.take v1_0.toNat).drop 0)).length) + (((a0.take (((a0.length) : Int).toNat)).drop ((IntKind.i64.wrap (v1_0 + 1)).toNat)).length)) 8)
    (f88_preN n ((f20 ((a0.take v1_0.toNat).drop 0)) ++ ((a0.take (((a0.length) : Int).toNat)).drop ((IntKind.i64.wrap (v1_0 + 1)).toNat))) ∧
    LoopP (V := Int × List (List Int) × Unit) (fun again v => (fun (again2 : Int → List (List Int) → Prop) (v2_0 : Int) (v2_1 : List (List Int)) =>
    br (lenOk ((f88 ((f20 ((a0.take v1_0.toNat).drop 0)) ++ ((a0.take (((a0.length) : Int).toNat)).drop ((IntKind.i64.wrap (v1_0 + 1)).toNat)))).length))
    (br (decide (v2_0 < (((f88 ((f20 ((a0.take v1_0.toNat).drop 0)) ++ ((a0.take (((a0.length) : Int).toNat)).drop ((IntKind.i64.wrap (v1_0 + 1)).toNat)))).length) : Int)))
    (br (decide (0 ≤ v1_0) && decide (v1_0 < ((a0.length) : Int)))
    (br (decide (0 ≤ v2_0) && decide (v2_0 < (((f88 ((f20 ((a0.take v1_0.toNat).drop 0)) ++ ((a0.take (((a0.length) : Int).toNat)).drop ((IntKind.i64.wrap (v1_0 + 1)).toNat)))).length) : Int)))
    (br (roomOk (1 + (((f88 ((f20 ((a0.take v1_0.toNat).drop 0)) ++ ((a0.take (((a0.length) : Int).toNat)).drop ((IntKind.i64.wrap (v1_0 + 1)).toNat)))).getD v2_0.toNat []).length)) 8)
    (br (roomOk ((v2_1.length) + 1) 24)
    (again2 (IntKind.i64.wrap (v2_0 + 1)) (v2_1 ++ ([(([(a0.getD v1_0.toNat 0)] : List Int) ++ ((f88 ((f20 ((a0.take v1_0.toNat).drop 0)) ++ ((a0.take (((a0.length) : Int).toNat)).drop ((IntKind.i64.wrap (v1_0 + 1)).toNat)))).getD v2_0.toNat []))] : List (List Int))))
    False)
    False)
    False)
    False)
    (again1 (IntKind.i64.wrap (v1_0 + 1)) v2_1))
    True)
    (fun v2_0 v2_1 => again (v2_0, v2_1, ())) v.1 v.2.1) (0, v1_1, ()))
    False)
    False)
    False)
    (K v1_1))
    True)
    (fun v1_0 v1_1 => again (v1_0, v1_1, ())) v.1 v.2.1) (0, ([] : List (List Int)), ())))
    True) := by kernel_rfl
theorem f88_t (n : Nat) (a0 : List Int) (hpre : f88_preN (n + 1) a0) (K : (List (List Int)) → Prop) (hK : ∀ y : List (List Int), y = f88 a0 → K y) : RunF Try.prog (f88_E n) f88_A 6 Try.f88 (f88_eN n).doms (f88_eN n).cods a0 K := by
  refine ⟨?_⟩
  rw [f88_run n a0 K]
  obtain ⟨h1, h2⟩ := hpre
  rw [br_true_]
  intro _
  rw [br_both]
  refine ⟨fun h => hK _ ?_, fun h => ?_⟩
  · have h0 : ((a0.length : Nat) : Int) = 0 := by simpa using h
    have : a0 = [] := List.length_eq_zero_iff.1 (by omega)
    subst this
    rfl
  have hne : a0.length ≠ 0 := fun hh => by simp [hh] at h
  obtain ⟨m, hm⟩ : ∃ m, a0.length = m + 1 := ⟨a0.length - 1, by omega⟩
  have hfin : f88 a0 = permsTo m a0 a0.length := by
    rw [f88, hm, perms_to hne, ← hm]
  have h9 : factN m ≤ 5040 := by
    have : m ≤ 7 := by omega
    have : m = 0 ∨ m = 1 ∨ m = 2 ∨ m = 3 ∨ m = 4 ∨ m = 5 ∨ m = 6 ∨ m = 7 := by omega
    rcases this with e | e | e | e | e | e | e | e <;> subst e <;> decide
  refine LoopP.of (fun q : Int × List (List Int) × Unit => ∃ i : Nat, i ≤ a0.length ∧ q.1 = (i : Int) ∧ q.2.1 = permsTo m a0 i) (fun q => ((a0.length : Int) - q.1).toNat) (fun again q hq hag => ?_) ⟨0, by omega, rfl, rfl⟩
  obtain ⟨ii, out, u⟩ := q
  obtain ⟨i, hi, e1, e2⟩ := hq
  simp only at e1 e2
  subst e1 e2
  dsimp only
  rw [br_true_]
  intro _
  rw [br_dec]
  refine ⟨fun hlt => ?_, fun hlt => hK _ (by rw [hfin, show i = a0.length by omega])⟩
  have hlt : i < a0.length := by omega
  have w1 : IntKind.i64.wrap ((i : Int) + 1) = (i : Int) + 1 := wr (by omega) (by omega)
  have n1 : ((i : Int) + 1).toNat = i + 1 := by omega
  have e20 : f20 ((a0.take i).drop 0) ++ (a0.take a0.length).drop (i + 1) = outAt a0 i := by simp [f20, outAt]
  have hol := outAt_len hlt
  have l20 : (f20 ((a0.take i).drop 0)).length + ((a0.take a0.length).drop (i + 1)).length = m := by rw [← List.length_append, e20, hol]; omega
  have e88 : f88 (outAt a0 i) = perms m (outAt a0 i) := by rw [f88, hol, hm]; rfl
  simp only [w1, n1, Int.toNat_natCast, e20, l20, e88]
  rw [br_false_]
  refine ⟨decide_eq_true (by omega), show ((a0.take i).drop 0).length ≤ 1048576 by simp; omega, ?_⟩
  rw [br_false_]
  refine ⟨decide_eq_true (by omega), ?_⟩
  rw [br_false_, roomOk_iff]
  refine ⟨by omega, ⟨by rw [hol]; omega, by omega⟩, ?_⟩
  have hcnt := perms_count m (outAt a0 i) (by rw [hol]; omega)
  have hto := permsTo_count (perms_count m) (by omega : a0.length ≤ m + 1) i (by omega)
  have hto2 : i * factN m ≤ 8 * 5040 := Nat.mul_le_mul (by omega) h9
  have hs := permsTo_succ m a0 i
  have hlen := perms_len m (outAt a0 i) (by rw [hol]; omega)
  generalize hP : perms m (outAt a0 i) = Q at *
  refine LoopP.of (fun q : Int × List (List Int) × Unit => ∃ j : Nat, j ≤ Q.length ∧ q.1 = (j : Int) ∧ q.2.1 = permsTo m a0 i ++ (Q.take j).map (a0.getD i 0 :: ·)) (fun q => ((Q.length : Int) - q.1).toNat) (fun again2 q hq hag2 => ?_) ⟨0, by omega, rfl, by simp⟩
  obtain ⟨jj, out, u⟩ := q
  obtain ⟨j, hj, e1, e2⟩ := hq
  simp only at e1 e2
  subst e1 e2
  dsimp only
  rw [br_true_]
  intro _
  rw [br_dec]
  refine ⟨fun hlt2 => ?_, fun hlt2 => ?_⟩
  · have hlt2 : j < Q.length := by omega
    simp only [Int.toNat_natCast]
    rw [br_false_]
    refine ⟨inb (by omega) (by omega), ?_⟩
    rw [br_false_]
    refine ⟨inb (by omega) (by omega), ?_⟩
    have hQ : (Q.getD j []).length = m := by
      rw [getD_lt hlt2, hlen _ (List.getElem_mem _), hol]
      omega
    rw [br_false_, br_false_, roomOk_iff, roomOk_iff, hQ, List.length_append, List.length_map, List.length_take, wr (n := (j : Int) + 1) (by omega) (by omega)]
    refine ⟨by omega, by omega, hag2 (_, _, ()) ⟨j + 1, by omega, by simp only; omega, ?_⟩ (by simp only; omega)⟩
    simp only
    rw [List.take_add_one, List.getElem?_eq_getElem hlt2, getD_lt hlt2, List.map_append, List.append_assoc]
    rfl
  · have : j = Q.length := by omega
    subst this
    refine hag (_, _, ()) ⟨i + 1, by omega, by simp only; omega, ?_⟩ (by simp only; omega)
    simp only
    rw [hs, List.take_length]
theorem f88_okN : ∀ n, EntryOK Try.prog 88 (f88_eN n)
  | 0 => ⟨⟨_, Try.func88, rfl⟩, fun h => (by cases h), fun _ _ _ _ _ _ h => (f88_no h).elim⟩
  | n + 1 => by
    refine entryF progOK (EnvOK.cons (f88_okN n) (EnvOK.cons f20_ok (EnvOK.nil))) (A := f88_A) (d := 6) Try.func88 rfl rfl rfl (fun h => by cases h) fun x hpre => ?_
    exact f88_t n x hpre _ fun _ h => h
def f88_pre := f88_preN 9
def f88_e : Entry := f88_eN 9
theorem f88_ok : EntryOK Try.prog 88 f88_e := f88_okN 9
end Go.Proofs.Ytglokajinehbmaa
end

section
namespace Go.Proofs.Ytglokajinehbmaa
open Go Go.Pi Go.RowKit
set_option maxRecDepth 100000
set_option linter.unusedVariables false
set_option linter.unusedSimpArgs false

def f36 (x : ((List (List Int) × List (List Int)) × List (ByteArray × Int × Int × Int × Int) × List Int) × List (Int × Int)) : List (Int × Int) × Int × Bool := bestF x.1 x.2
def f36_pre (x : ((List (List Int) × List (List Int)) × List (ByteArray × Int × Int × Int × Int) × List Int) × List (Int × Int)) : Prop := FixV x.1 x.2
theorem best_take {p : Prob} {fixed : List (Int × Int)} {L : List (List Int)} {s0 : List (Int × Int) × Int × Bool} {i : Nat} (hi : i < L.length) : (L.take (i + 1)).foldl (bestStep p fixed) s0 = bestStep p fixed ((L.take i).foldl (bestStep p fixed) s0) (L.getD i []) := by
  rw [List.take_add_one, List.getElem?_eq_getElem hi, List.foldl_append, getD_lt hi]
  rfl
def f36_e : Entry := { doms := [(true, (.pair (.pair (.sl (.sl (.int .i64))) (.sl (.sl (.int .i64)))) (.pair (.sl (.pair .str (.pair (.int .i64) (.pair (.int .i64) (.pair (.int .i64) (.int .i64)))))) (.sl (.int .i64))))), (false, (.sl (.pair (.int .i64) (.int .i64))))], cods := [(false, (.sl (.pair (.int .i64) (.int .i64)))), (false, (.int .i64)), (false, .bool)], pre := f36_pre, fn := f36, uq := false, total := false }
def f36_E : Env := [(43, f43_e), (46, f46_e), (87, f87_e), (88, f88_e), (94, f94_e)]
def f36_A : Anns := { loops := [(1048576, { tms := [(1, .keep), (2, .keep), (7, .ref 1054723), (8, .data false (.int .i64))], obs := [(1048576, .keep), (1054723, .arr (.uniq) (.int .i64))], fz := [] }),
  (1048578, { tms := [(1, .keep), (2, .keep), (9, .data false (.sl (.pair (.int .i64) (.int .i64)))), (10, .data false (.int .i64)), (11, .data false .bool), (12, .keep), (13, .data false (.int .i64))], obs := [(1048576, .keep), (1054723, .keep)], fz := [] })], own := [] }
theorem f36_run (a0 : (List (List Int) × List (List Int)) × List (ByteArray × Int × Int × Int × Int) × List Int) (a1 : List (Int × Int)) (K : (List (Int × Int) × Int × Bool) → Prop) : runF Try.prog f36_E f36_A 6 Try.f36 f36_e.doms f36_e.cods (a0, a1) K =
    (LoopP (V := Int × List Int × Unit) (fun again v => (fun (again1 : Int → List Int → Prop) (v1_0 : Int) (v1_1 : List Int) =>
    br (lenOk (a0.2.1.length))
    (br (decide (v1_0 < ((a0.2.1.length) : Int)))
    (br (!(f87 (a1, v1_0)))
    (br (roomOk ((v1_1.length) + 1) 8)
    (again1 (IntKind.i64.wrap (v1_0 + 1)) (v1_1 ++ ([v1_0] : List Int)))
    False)
    (again1 (IntKind.i64.wrap (v1_0 + 1)) v1_1))
    (f88_pre v1_1 ∧
    LoopP (V := List (Int × Int) × Int × Bool × Int × Unit) (fun again v => (fun (again2 : List (Int × Int) → Int → Bool → Int → Prop) (v2_0 : List (Int × Int)) (v2_1 : Int) (v2_2 : Bool) (v2_3 : Int) =>
    br (lenOk ((f88 v1_1).length))
    (br (decide (v2_3 < (((f88 v1_1).length) : Int)))
    (br (decide (0 ≤ v2_3) && decide (v2_3 < (((f88 v1_1).length) : Int)))
    (f43_pre (a0, (a1, ((f88 v1_1).getD v2_3.toNat []))) ∧
    br (!(f43 (a0, (a1, ((f88 v1_1).getD v2_3.toNat [])))).2)
    (again2 v2_0 v2_1 v2_2 (IntKind.i64.wrap (v2_3 + 1)))
    (f46_pre (a0, (f43 (a0, (a1, ((f88 v1_1).getD v2_3.toNat [])))).1) ∧
    br (!v2_2)
    (again2 ((f43 (a0, (a1, ((f88 v1_1).getD v2_3.toNat [])))).1) (f46 (a0, (f43 (a0, (a1, ((f88 v1_1).getD v2_3.toNat [])))).1)) true (IntKind.i64.wrap (v2_3 + 1)))
    (br (decide ((f46 (a0, (f43 (a0, (a1, ((f88 v1_1).getD v2_3.toNat [])))).1)) < v2_1))
    (again2 ((f43 (a0, (a1, ((f88 v1_1).getD v2_3.toNat [])))).1) (f46 (a0, (f43 (a0, (a1, ((f88 v1_1).getD v2_3.toNat [])))).1)) true (IntKind.i64.wrap (v2_3 + 1)))
    (again2 v2_0 v2_1 v2_2 (IntKind.i64.wrap (v2_3 + 1))))))
    False)
    (K (v2_0, (v2_1, v2_2))))
    True)
    (fun v2_0 v2_1 v2_2 v2_3 => again (v2_0, v2_1, v2_2, v2_3, ())) v.1 v.2.1 v.2.2.1 v.2.2.2.1) (([] : List (Int × Int)), 0, false, 0, ())))
    True)
    (fun v1_0 v1_1 => again (v1_0, v1_1, ())) v.1 v.2.1) (0, ([] : List Int), ())) := by kernel_rfl
theorem f36_t (a0 : (List (List Int) × List (List Int)) × List (ByteArray × Int × Int × Int × Int) × List Int) (a1 : List (Int × Int)) (hpre : f36_pre (a0, a1)) (K : (List (Int × Int) × Int × Bool) → Prop) (hK : ∀ y : List (Int × Int) × Int × Bool, y = f36 (a0, a1) → K y) : RunF Try.prog f36_E f36_A 6 Try.f36 f36_e.doms f36_e.cods (a0, a1) K := by
  refine ⟨?_⟩
  rw [f36_run a0 a1 K]
  have hf : FixV a0 a1 := hpre
  have h6 := hf.ok.v.six
  refine LoopP.of (fun q : Int × List Int × Unit => ∃ i : Nat, i ≤ a0.2.1.length ∧ q.1 = (i : Int) ∧ q.2.1 = leftF a0 a1 i) (fun q => ((a0.2.1.length : Int) - q.1).toNat) (fun again q hq hag => ?_) ⟨0, by omega, rfl, rfl⟩
  obtain ⟨ii, l, u⟩ := q
  obtain ⟨i, hi, e1, e2⟩ := hq
  simp only at e1 e2
  subst e1 e2
  dsimp only
  have hll := leftF_len a0 a1 i
  rw [br_true_]
  intro _
  rw [br_dec]
  refine ⟨fun hlt => ?_, fun hlt => ?_⟩
  · have hlt : i < a0.2.1.length := by omega
    have e87 : f87 (a1, (i : Int)) = hasS a1 i := rfl
    rw [e87, wr (n := (i : Int) + 1) (by omega) (by omega)]
    have hs := leftF_succ a0 a1 i
    rw [br_both]
    refine ⟨fun h => ?_, fun h => ?_⟩
    · rw [if_neg (by rw [not_true.1 h]; simp)] at hs
      rw [br_false_, roomOk_iff]
      exact ⟨by omega, hag (_, _, ()) ⟨i + 1, by omega, by simp only; omega, hs.symm⟩ (by simp only; omega)⟩
    · rw [if_pos (not_false_.1 h)] at hs
      exact hag (_, _, ()) ⟨i + 1, by omega, by simp only; omega, hs.symm⟩ (by simp only; omega)
  · have hi : i = a0.2.1.length := by omega
    subst hi
    have hrl : (restF a0 a1).length ≤ 6 := by unfold restF; omega
    have e88 : f88 (leftF a0 a1 a0.2.1.length) = perms 8 (restF a0 a1) := perms_fuel _ _ _ (Nat.le_refl _) (by show (restF a0 a1).length ≤ 8; omega)
    rw [e88]
    refine ⟨⟨by omega, by omega⟩, ?_⟩
    have hlen := perms_len 8 (restF a0 a1) (by omega)
    have hmem := perms_mem 8 (restF a0 a1)
    have hcnt := perms_count 8 (restF a0 a1) (by omega)
    rw [show factN 8 = 40320 from rfl] at hcnt
    have hb : f36 (a0, a1) = (perms 8 (restF a0 a1)).foldl (bestStep a0 a1) ([], 0, false) := rfl
    rw [hb] at hK
    generalize hL : perms 8 (restF a0 a1) = L at *
    refine LoopP.of (fun q : List (Int × Int) × Int × Bool × Int × Unit => ∃ i : Nat, i ≤ L.length ∧ q.2.2.2.1 = (i : Int) ∧ (q.1, q.2.1, q.2.2.1) = (L.take i).foldl (bestStep a0 a1) ([], 0, false)) (fun q => ((L.length : Int) - q.2.2.2.1).toNat) (fun again q hq hag => ?_) ⟨0, by omega, rfl, rfl⟩
    obtain ⟨pl, le, fo, jj, u⟩ := q
    obtain ⟨j, hj, e1, e2⟩ := hq
    simp only at e1 e2
    subst e1
    dsimp only
    rw [br_true_]
    intro _
    rw [br_dec]
    refine ⟨fun hlt2 => ?_, fun hlt2 => hK _ ?_⟩
    · have hlt2 : j < L.length := by omega
      rw [br_false_]
      refine ⟨inb (by omega) (by omega), ?_⟩
      generalize hoj : L.getD ((j : Int)).toNat [] = o
      rw [Int.toNat_natCast] at hoj
      have hoL : L.getD j [] ∈ L := by rw [getD_lt hlt2]; exact List.getElem_mem _
      rw [hoj] at hoL
      have ho1 := hlen _ hoL
      have ho2 : ∀ a ∈ o, inA a0 a := fun a ha => leftF_in a0 a1 a (hmem _ hoL a ha)
      have hst := best_take (p := a0) (fixed := a1) (s0 := ([], 0, false)) hlt2
      rw [← e2] at hst
      rw [hoj] at hst
      have e43 : f43 (a0, (a1, o)) = contF a0 a1 o := rfl
      rw [e43, wr (n := (j : Int) + 1) (by omega) (by omega)]
      refine ⟨⟨hf.ok, ⟨hf.slots, show a1.length ≤ 900 from hf.len⟩, ho2, by simp only; omega⟩, ?_⟩
      rw [bestStep] at hst
      have go : ∀ pl' le' fo', (pl', le', fo') = (L.take (j + 1)).foldl (bestStep a0 a1) ([], 0, false) → again (pl', le', fo', (j : Int) + 1, ()) := fun pl' le' fo' e => hag (_, _, _, _, ()) ⟨j + 1, by omega, by simp only; omega, e⟩ (by simp only; omega)
      rw [br_both]
      refine ⟨fun h => go _ _ _ ?_, fun h => ?_⟩
      · rw [hst, if_neg (by rw [not_true.1 h]; simp)]
      · have h := not_false_.1 h
        rw [if_pos h] at hst
        have hvl : (∀ s ∈ (contF a0 a1 o).1, slotV a0 s) ∧ (contF a0 a1 o).1.length ≤ 1000 := by
          unfold contF at h ⊢
          cases e : contL a0 a1 o with
          | none => rw [e] at h; cases h
          | some l =>
            obtain ⟨v1, v2⟩ := contL_ok hf.ok.v o a1 hf.slots ho2 l e
            exact ⟨v1, show l.length ≤ 1000 by have := hf.len; omega⟩
        refine ⟨⟨hf.ok, hvl.1, hvl.2⟩, ?_⟩
        have e46 : f46 (a0, (contF a0 a1 o).1) = costF a0 (contF a0 a1 o).1 := rfl
        rw [e46]
        simp only at hst
        cases fo with
        | false => exact go _ _ _ (by rw [hst, if_pos (.inl rfl)])
        | true =>
          rw [Bool.not_true, br_f, br_dec]
          refine ⟨fun hlt => go _ _ _ (by rw [hst, if_pos (.inr hlt)]), fun hlt => go _ _ _ ?_⟩
          rw [hst, if_neg]
          rintro (h1 | h1)
          · cases h1
          · exact hlt h1
    · have : j = L.length := by omega
      subst this
      rw [List.take_length] at e2
      exact e2
theorem f36_fn : f36_e.fn = f36 := rfl
theorem f36_ok : EntryOK Try.prog 36 f36_e := by
  refine entryF progOK (EnvOK.cons f43_ok (EnvOK.cons f46_ok (EnvOK.cons f87_ok (EnvOK.cons f88_ok (EnvOK.cons f94_ok (EnvOK.nil)))))) (A := f36_A) (d := 6) Try.func36 rfl rfl rfl (fun h => by cases h) fun x hpre => ?_
  obtain ⟨a0, a1⟩ := x
  exact f36_t a0 a1 hpre _ fun _ h => h.trans (congrFun f36_fn.symm _)
end Go.Proofs.Ytglokajinehbmaa
end

section
namespace Go.Proofs.Ytglokajinehbmaa
set_option linter.unusedVariables false
set_option linter.unusedSimpArgs false
open Go Go.Pi
/-- Two lists are compared item by item. -/
theorem sameW {α : Type} [DecidableEq α] {a b : List α} {d : α} {K : Bool → Prop} (hK : K (decide (a = b))) (hl : a.length = b.length) {step : ((Int × Unit) → Prop) → (Int × Unit) → Prop}
    (h : ∀ (again : (Int × Unit) → Prop) (i : Nat), i ≤ a.length → (i < a.length → a.getD i d = b.getD i d → again ((i : Int) + 1, ())) → (i < a.length → a.getD i d ≠ b.getD i d → K false) → (i = a.length → K true) → step again ((i : Int), ())) :
    LoopP step (0, ()) := by
  refine LoopP.of (fun q : Int × Unit => ∃ i : Nat, i ≤ a.length ∧ q.1 = (i : Int) ∧ a.take i = b.take i) (fun q => ((a.length : Int) - q.1).toNat) (fun again q hq hag => ?_) ⟨0, by omega, rfl, rfl⟩
  obtain ⟨ii, u⟩ := q
  obtain ⟨i, hi, e, ht⟩ := hq
  simp only at e
  subst e
  refine h again i hi (fun hlt heq => hag (_, ()) ⟨i + 1, by omega, by simp only; omega, ?_⟩ (by simp only; omega)) (fun hlt hne => ?_) (fun he => ?_)
  · rw [getD_lt hlt, getD_lt (by omega)] at heq
    rw [List.take_add_one, List.take_add_one, ht, List.getElem?_eq_getElem hlt, List.getElem?_eq_getElem (by omega), heq]
  · have : a ≠ b := fun hh => hne (by rw [hh])
    rw [decide_eq_false this] at hK
    exact hK
  · subst he
    rw [List.take_of_length_le (by omega), List.take_of_length_le (by omega)] at ht
    rw [decide_eq_true ht] at hK
    exact hK
theorem same_len {α : Type} [DecidableEq α] {a b : List α} {K : Bool → Prop} (hK : K (decide (a = b))) (h : a.length ≠ b.length) : K false := by
  have : a ≠ b := fun e => h (by rw [e])
  rw [decide_eq_false this] at hK
  exact hK
end Go.Proofs.Ytglokajinehbmaa
end

section
namespace Go.Proofs.Ytglokajinehbmaa
open Go Go.Pi Go.RowKit
set_option maxRecDepth 100000
set_option linter.unusedVariables false
set_option linter.unusedSimpArgs false

def f37 (x : List (Int × Int) × List (Int × Int)) : Bool := decide (x.1 = x.2)
def f37_e : Entry := { doms := [(false, (.sl (.pair (.int .i64) (.int .i64)))), (false, (.sl (.pair (.int .i64) (.int .i64))))], cods := [(false, .bool)], pre := fun _ => True, fn := f37, uq := false, total := true }
def f37_E : Env := []
def f37_A : Anns := { loops := [(1048576, { tms := [(0, .keep), (1, .keep), (5, .data false (.int .i64))], obs := [], fz := [] })], own := [] }
theorem f37_run (a0 : List (Int × Int)) (a1 : List (Int × Int)) (K : Bool → Prop) : runF Try.prog f37_E f37_A 6 Try.f37 f37_e.doms f37_e.cods (a0, a1) K =
    (br (lenOk (a0.length))
    (br (lenOk (a1.length))
    (br (((a0.length) : Int) != ((a1.length) : Int))
    (K false)
    (LoopP (V := Int × Unit) (fun again v => (fun (again1 : Int → Prop) (v1_0 : Int) =>
    br (lenOk (a0.length))
    (br (decide (v1_0 < ((a0.length) : Int)))
    (br (decide (0 ≤ v1_0) && decide (v1_0 < ((a0.length) : Int)))
    (br (decide (0 ≤ v1_0) && decide (v1_0 < ((a1.length) : Int)))
    (br (!(((a0.getD v1_0.toNat (0, 0)).1 == (a1.getD v1_0.toNat (0, 0)).1) && (((a0.getD v1_0.toNat (0, 0)).2 == (a1.getD v1_0.toNat (0, 0)).2) && true)))
    (K false)
    (again1 (IntKind.i64.wrap (v1_0 + 1))))
    False)
    False)
    (K true))
    True)
    (fun v1_0 => again (v1_0, ())) v.1) (0, ())))
    True)
    True) := by kernel_rfl
theorem f37_t (a0 : List (Int × Int)) (a1 : List (Int × Int)) (K : Bool → Prop) (hK : ∀ y : Bool, y = f37 (a0, a1) → K y) : RunF Try.prog f37_E f37_A 6 Try.f37 f37_e.doms f37_e.cods (a0, a1) K := by
  refine ⟨?_⟩
  rw [f37_run a0 a1 K]
  have hK : K (decide (a0 = a1)) := hK _ rfl
  rw [br_true_, br_true_]
  intro _ _
  rw [br_both]
  refine ⟨fun h => same_len hK (cast_ne.1 h), fun h => ?_⟩
  have hl := cast_ne_f.1 h
  refine sameW (d := (0, 0)) hK hl (fun again i hi hag hno hend => ?_)
  dsimp only
  rw [br_true_]
  intro hlen
  have hlen := lenOk_iff.1 hlen
  rw [br_dec]
  refine ⟨fun hlt => ?_, fun hlt => hend (by omega)⟩
  have hlt : i < a0.length := by omega
  rw [br_false_]
  refine ⟨inb (by omega) (by omega), ?_⟩
  rw [br_false_]
  refine ⟨inb (by omega) (by omega), ?_⟩
  simp only [Int.toNat_natCast]
  rw [br_both, wr (n := (i : Int) + 1) (by omega) (by omega)]
  refine ⟨fun hne => hno hlt fun he => ?_, fun heq => hag hlt ?_⟩
  · rw [he] at hne
    simp at hne
  · simp only [Bool.not_eq_false', Bool.and_eq_true, beq_iff_eq] at heq
    exact Prod.ext heq.1 heq.2.1
theorem f37_fn : f37_e.fn = f37 := rfl
theorem f37_ok : EntryOK Try.prog 37 f37_e := by
  refine entryF progOK (EnvOK.nil) (A := f37_A) (d := 6) Try.func37 rfl rfl rfl (fun _ _ => trivial) fun x hpre => ?_
  obtain ⟨a0, a1⟩ := x
  exact f37_t a0 a1 _ fun _ h => h.trans (congrFun f37_fn.symm _)
end Go.Proofs.Ytglokajinehbmaa
end

section
namespace Go.Proofs.Ytglokajinehbmaa
set_option linter.unusedVariables false
set_option linter.unusedSimpArgs false
open Go Go.Pi
/-! ### orders -/
theorem outAt_perm {l : List Int} {i : Nat} (h : i < l.length) : (l.getD i 0 :: outAt l i).Perm l := by
  have e := split_at (d := (0 : Int)) h
  have : (outAt l i) = l.take i ++ l.drop (i + 1) := rfl
  rw [this]
  conv => rhs; rw [e]
  exact List.perm_middle.symm
theorem perms_perm : ∀ (n : Nat) (l : List Int), l.length ≤ n → ∀ o ∈ perms n l, o.Perm l
  | 0, l, h, o, ho => by
    have : l = [] := List.length_eq_zero_iff.1 (by omega)
    subst this
    simp only [perms, List.mem_singleton] at ho
    rw [ho]
  | n + 1, l, h, o, ho => by
    simp only [perms] at ho
    split at ho
    · rename_i h0
      have : l = [] := List.length_eq_zero_iff.1 h0
      subst this
      simp only [List.mem_singleton] at ho
      rw [ho]
    · obtain ⟨i, hi, ho⟩ := List.mem_flatMap.1 ho
      have hi := List.mem_range.1 hi
      obtain ⟨r, hr, rfl⟩ := List.mem_map.1 ho
      exact ((perms_perm n _ (by rw [outAt_len hi]; omega) r hr).cons _).trans (outAt_perm hi)
theorem perms_all : ∀ (n : Nat) (l o : List Int), l.length ≤ n → o.Perm l → o ∈ perms n l
  | 0, l, o, h, ho => by
    have : l = [] := List.length_eq_zero_iff.1 (by omega)
    subst this
    rw [List.perm_nil.1 ho]
    exact List.mem_singleton.2 rfl
  | n + 1, l, o, h, ho => by
    simp only [perms]
    split
    · rename_i h0
      have : l = [] := List.length_eq_zero_iff.1 h0
      subst this
      rw [List.perm_nil.1 ho]
      exact List.mem_singleton.2 rfl
    · rename_i h0
      cases o with
      | nil => exact absurd (List.nil_perm.1 ho) (fun e => h0 (by rw [e]; rfl))
      | cons a r =>
        have ha : a ∈ l := ho.subset (.head _)
        obtain ⟨i, hi, e⟩ := List.getElem_of_mem ha
        have hg : l.getD i 0 = a := by rw [getD_lt hi, e]
        refine List.mem_flatMap.2 ⟨i, List.mem_range.2 hi, List.mem_map.2 ⟨r, ?_, by rw [hg]⟩⟩
        refine perms_all n _ r (by rw [outAt_len hi]; omega) ?_
        have h2 : (a :: r).Perm (a :: outAt l i) := ho.trans (by rw [← hg]; exact (outAt_perm hi).symm)
        exact List.Perm.cons_inv h2
/-! ### the arrivals that are left -/
theorem rest_mem {p : Prob} {fixed : List (Int × Int)} {a : Int} : a ∈ restF p fixed ↔ inA p a ∧ hasS fixed a = false := by
  constructor
  · intro h
    refine ⟨leftF_in p fixed a h, ?_⟩
    obtain ⟨j, hj, rfl⟩ := List.mem_map.1 h
    have := (List.mem_filter.1 hj).2
    simpa using this
  · rintro ⟨⟨h1, h2⟩, h3⟩
    refine List.mem_map.2 ⟨a.toNat, List.mem_filter.2 ⟨List.mem_range.2 (by omega), ?_⟩, by omega⟩
    rw [show ((a.toNat : Nat) : Int) = a by omega, h3]
    rfl
theorem nodup_cast {l : List Nat} (h : l.Nodup) : (l.map fun (j : Nat) => (j : Int)).Nodup :=
  List.Pairwise.map _ (fun a b hab e => hab (by omega)) h
theorem rest_nodup (p : Prob) (fixed : List (Int × Int)) : (restF p fixed).Nodup := by
  unfold restF leftF
  exact nodup_cast (List.Pairwise.filter _ List.nodup_range)
/-! ### slots that are placed one behind the other -/
theorem contL_at {p : Prob} : ∀ (o : List Int) (out l : List (Int × Int)), contL p out o = some l → l.take out.length = out ∧ ∀ j, j < o.length →
    l.getD (out.length + j) (0, 0) = (o.getD j 0, soonF p (l.take (out.length + j)) (o.getD j 0)) ∧ soonF p (l.take (out.length + j)) (o.getD j 0) ≤ (p.2.1.getD (o.getD j 0).toNat arrD).2.2.2.1
  | [], out, l, e => by
    simp only [contL, Option.some.injEq] at e
    subst e
    exact ⟨List.take_length, fun j hj => by simp at hj⟩
  | a :: r, out, l, e => by
    simp only [contL] at e
    split at e
    · cases e
    · rename_i ht
      obtain ⟨h1, h2⟩ := contL_at r _ l e
      have hlen : (out ++ [(a, soonF p out a)]).length = out.length + 1 := by simp
      rw [hlen] at h1 h2
      have ht0 : l.take out.length = out := by
        have := congrArg (List.take out.length) h1
        rw [List.take_take, List.take_append_of_le_length (Nat.le_refl _), List.take_length] at this
        rwa [show min out.length (out.length + 1) = out.length by omega] at this
      refine ⟨ht0, fun j hj => ?_⟩
      cases j with
      | zero =>
        simp only [Nat.add_zero, List.getD_cons_zero]
        rw [ht0]
        refine ⟨?_, by omega⟩
        have hlt : out.length < l.length := by
          have := congrArg List.length h1
          rw [List.length_take, hlen] at this
          omega
        have : (l.take (out.length + 1)).getD out.length (0, 0) = (a, soonF p out a) := by
          rw [h1]
          simp [List.getD_eq_getElem?_getD]
        rw [getD_lt (by rw [List.length_take]; omega), List.getElem_take] at this
        rw [getD_lt hlt]
        exact this
      | succ j =>
        have := h2 j (by simpa using hj)
        rw [show out.length + 1 + j = out.length + (j + 1) by omega] at this
        exact this
theorem hasS_false {l : List (Int × Int)} {a : Int} : hasS l a = false ↔ ∀ s ∈ l, s.1 ≠ a := by
  unfold hasS
  rw [List.any_eq_false]
  constructor
  · intro h s hs e
    exact h s hs (by simpa using e)
  · intro h s hs e
    exact h s hs (by simpa using e)
theorem slot1_ok {p : Prob} {b : List (Int × Int)} {s : Int × Int} : slot1 p b s = 0 ↔ inA p s.1 ∧ hasS b s.1 = false := by
  refine ⟨slot1_zero, fun ⟨⟨h1, h2⟩, h3⟩ => ?_⟩
  rw [slot1, if_neg (fun hh => hh ⟨h1, by omega⟩), if_neg (by rw [h3]; simp)]
theorem slE_ok {p : Prob} {l : List (Int × Int)} {i : Nat} : slE p l i = 0 ↔ (inA p (l.getD i (0, 0)).1 ∧ hasS (l.take i) (l.getD i (0, 0)).1 = false) ∧
    ((p.2.1.getD (l.getD i (0, 0)).1.toNat arrD).2.2.1 ≤ (l.getD i (0, 0)).2 ∧ (l.getD i (0, 0)).2 ≤ (p.2.1.getD (l.getD i (0, 0)).1.toNat arrD).2.2.2.1) ∧ soonF p (l.take i) (l.getD i (0, 0)).1 ≤ (l.getD i (0, 0)).2 := by
  unfold slE
  constructor
  · intro h
    split at h
    · rename_i h1; exact absurd h h1
    · rename_i h1
      split at h
      · simp at h
      · rename_i h2
        split at h
        · simp at h
        · rename_i h3
          exact ⟨slot1_ok.1 (Classical.byContradiction h1), Classical.byContradiction h2, by omega⟩
  · rintro ⟨h1, h2, h3⟩
    rw [if_neg (fun hh => hh (slot1_ok.2 h1)), if_neg (fun hh => hh h2), if_neg (by omega)]
theorem slots_ok {p : Prob} {l : List (Int × Int)} : slotsErr p l = 0 ↔ ∀ i, i < l.length → slE p l i = 0 :=
  ⟨fun h i hi => eachE_zero h i hi, fun h => by rw [slotsErr, eachE_none h]⟩
/-- Slots that keep the rules, and all of whose beginnings do. -/
theorem slots_take {p : Prob} {l : List (Int × Int)} (h : slotsErr p l = 0) (n : Nat) : slotsErr p (l.take n) = 0 := by
  rw [slots_ok] at h ⊢
  intro i hi
  rw [List.length_take] at hi
  have := h i (by omega)
  rw [slE_ok] at this ⊢
  have e1 : (l.take n).getD i (0, 0) = l.getD i (0, 0) := by rw [getD_lt (by rw [List.length_take]; omega), List.getElem_take, getD_lt (by omega)]
  have e2 : (l.take n).take i = l.take i := by rw [List.take_take, show min i n = i by omega]
  rw [e1, e2]
  exact this
/-- What is placed behind slots that keep the rules keeps them. -/
theorem cont_slots {p : Prob} {fixed S : List (Int × Int)} {o : List Int} (hfix : slotsErr p fixed = 0) (ho : o.Nodup) (hin : ∀ a ∈ o, inA p a ∧ hasS fixed a = false) (e : contL p fixed o = some S) (hlen : S.length = fixed.length + o.length) :
    slotsErr p S = 0 ∧ S.take fixed.length = fixed ∧ S.map (·.1) = fixed.map (·.1) ++ o := by
  obtain ⟨h1, h2⟩ := contL_at o fixed S e
  have harr : S.map (·.1) = fixed.map (·.1) ++ o := by
    apply List.ext_getElem
    · simp [hlen]
    · intro i hi1 hi2
      simp only [List.length_map] at hi1
      rw [List.getElem_map]
      rcases Nat.lt_or_ge i fixed.length with hi | hi
      · rw [List.getElem_append_left (by simpa using hi), List.getElem_map]
        have : S[i] = fixed[i] := by
          have := List.getElem_take (xs := S) (j := fixed.length) (i := i) (h := by rw [List.length_take]; omega)
          rw [← this]
          congr 1
        rw [this]
      · rw [List.getElem_append_right (by simpa using hi)]
        obtain ⟨g1, _⟩ := h2 (i - fixed.length) (by omega)
        rw [show fixed.length + (i - fixed.length) = i by omega, getD_lt hi1] at g1
        rw [g1]
        simp only [List.length_map]
        rw [getD_lt]
  refine ⟨?_, h1, harr⟩
  rw [slots_ok] at hfix ⊢
  intro i hi
  rcases Nat.lt_or_ge i fixed.length with hlt | hge
  · have := hfix i hlt
    rw [slE_ok] at this ⊢
    have e1 : S.getD i (0, 0) = fixed.getD i (0, 0) := by
      rw [getD_lt hi, getD_lt hlt]
      have := List.getElem_take (xs := S) (j := fixed.length) (i := i) (h := by rw [List.length_take]; omega)
      rw [← this]
      congr 1
    have e2 : S.take i = fixed.take i := by
      conv => rhs; rw [← h1]
      rw [List.take_take, show min i fixed.length = i by omega]
    rw [e1, e2]
    exact this
  · obtain ⟨g1, g2⟩ := h2 (i - fixed.length) (by omega)
    rw [show fixed.length + (i - fixed.length) = i by omega] at g1 g2
    have hj : i - fixed.length < o.length := by omega
    obtain ⟨b1, b2⟩ := hin (o.getD (i - fixed.length) 0) (by rw [getD_lt hj]; exact List.getElem_mem _)
    have hge2 := (soonF_le (p := p) (a := o.getD (i - fixed.length) 0) (t := soonF p (S.take i) (o.getD (i - fixed.length) 0)) (l := S.take i)).1 (Int.le_refl _)
    rw [slE_ok, g1]
    refine ⟨⟨b1, hasS_false.2 fun s hs he => ?_⟩, ⟨hge2.1, g2⟩, Int.le_refl _⟩
    obtain ⟨j, hj2, rfl⟩ := List.getElem_of_mem hs
    rw [List.length_take] at hj2
    rw [List.getElem_take] at he
    simp only at he
    have hm : (S.map (·.1))[j]'(by simp; omega) = (fixed.map (·.1) ++ o)[j]'(by rw [← harr]; simp; omega) := by
      congr 1
    rw [List.getElem_map, he] at hm
    rcases Nat.lt_or_ge j fixed.length with hjf | hjf
    · rw [List.getElem_append_left (by simpa using hjf), List.getElem_map] at hm
      exact hasS_false.1 b2 _ (List.getElem_mem hjf) hm.symm
    · rw [List.getElem_append_right (by simpa using hjf)] at hm
      simp only [List.length_map] at hm
      rw [getD_lt hj] at hm
      have := (List.getElem_inj ho).1 hm
      omega
/-! ### the best of them -/
theorem bestStep_spec (p : Prob) (fixed : List (Int × Int)) : ∀ (L : List (List Int)) (s : List (Int × Int) × Int × Bool),
    let r := L.foldl (bestStep p fixed) s
    (r.2.2 = true ↔ s.2.2 = true ∨ ∃ o ∈ L, (contF p fixed o).2 = true) ∧ (r = s ∨ ∃ o ∈ L, contF p fixed o = (r.1, true) ∧ r.2.1 = costF p r.1) ∧
    (s.2.2 = true → r.2.1 ≤ s.2.1) ∧ ∀ o ∈ L, (contF p fixed o).2 = true → r.2.1 ≤ costF p (contF p fixed o).1
  | [], s => ⟨by simp, .inl rfl, fun _ => Int.le_refl _, fun o ho => by cases ho⟩
  | a :: L, s => by
    obtain ⟨h1, h2, h3, h4⟩ := bestStep_spec p fixed L (bestStep p fixed s a)
    simp only [List.foldl_cons]
    by_cases ha : (contF p fixed a).2 = true
    · have hea : contF p fixed a = ((contF p fixed a).1, true) := Prod.ext rfl ha
      by_cases hc : s.2.2 = false ∨ costF p (contF p fixed a).1 < s.2.1
      · have e : bestStep p fixed s a = ((contF p fixed a).1, costF p (contF p fixed a).1, true) := by rw [bestStep, if_pos ha, if_pos hc]
        rw [e] at h1 h2 h3 h4 ⊢
        refine ⟨?_, ?_, ?_, ?_⟩
        · rw [h1]
          exact ⟨fun _ => .inr ⟨a, .head _, ha⟩, fun _ => .inl rfl⟩
        · rcases h2 with h2 | ⟨o, ho, h2⟩
          · rw [h2]
            exact .inr ⟨a, .head _, hea, rfl⟩
          · exact .inr ⟨o, .tail _ ho, h2⟩
        · intro hs
          have := h3 rfl
          simp only at this
          rcases hc with hc | hc
          · rw [hs] at hc; cases hc
          · omega
        · intro o ho hok
          rcases List.mem_cons.1 ho with rfl | ho
          · exact h3 rfl
          · exact h4 o ho hok
      · have e : bestStep p fixed s a = s := by rw [bestStep, if_pos ha, if_neg hc]
        rw [e] at h1 h2 h3 h4 ⊢
        have hs : s.2.2 = true := by
          cases hh : s.2.2 with
          | true => rfl
          | false => exact absurd (.inl hh) hc
        refine ⟨by rw [h1]; exact ⟨fun _ => .inl hs, fun _ => .inl hs⟩, ?_, h3, ?_⟩
        · rcases h2 with h2 | ⟨o, ho, h2⟩
          · exact .inl h2
          · exact .inr ⟨o, .tail _ ho, h2⟩
        · intro o ho hok
          rcases List.mem_cons.1 ho with rfl | ho
          · have := h3 hs
            have : ¬ costF p (contF p fixed o).1 < s.2.1 := fun hh => hc (.inr hh)
            omega
          · exact h4 o ho hok
    · have e : bestStep p fixed s a = s := by rw [bestStep, if_neg ha]
      rw [e] at h1 h2 h3 h4 ⊢
      refine ⟨?_, ?_, h3, ?_⟩
      · rw [h1]
        constructor
        · rintro (h | ⟨o, ho, h⟩)
          · exact .inl h
          · exact .inr ⟨o, .tail _ ho, h⟩
        · rintro (h | ⟨o, ho, h⟩)
          · exact .inl h
          · rcases List.mem_cons.1 ho with rfl | ho
            · exact absurd h ha
            · exact .inr ⟨o, ho, h⟩
      · rcases h2 with h2 | ⟨o, ho, h2⟩
        · exact .inl h2
        · exact .inr ⟨o, .tail _ ho, h2⟩
      · intro o ho hok
        rcases List.mem_cons.1 ho with rfl | ho
        · exact absurd hok ha
        · exact h4 o ho hok
theorem rest_len {p : Prob} (hv : ProbV p) (fixed : List (Int × Int)) : (restF p fixed).length ≤ 6 := by
  have := leftF_len p fixed p.2.1.length
  have := hv.six
  unfold restF
  omega
theorem best_none {p : Prob} {fixed : List (Int × Int)} (h : (bestF p fixed).2.2 = false) : bestF p fixed = ([], 0, false) ∧ ∀ o ∈ perms 8 (restF p fixed), (contF p fixed o).2 = false := by
  obtain ⟨h1, h2, _, h4⟩ := bestStep_spec p fixed (perms 8 (restF p fixed)) ([], 0, false)
  have hno : ∀ o ∈ perms 8 (restF p fixed), (contF p fixed o).2 = false := fun o ho => by
    cases hc : (contF p fixed o).2 with
    | false => rfl
    | true =>
      have := h1.2 (.inr ⟨o, ho, hc⟩)
      have e : bestF p fixed = (perms 8 (restF p fixed)).foldl (bestStep p fixed) ([], 0, false) := rfl
      rw [← e, h] at this
      cases this
  refine ⟨?_, hno⟩
  rcases h2 with h2 | ⟨o, ho, h2, _⟩
  · exact h2
  · have := hno o ho
    rw [h2] at this
    cases this
/-- The best plan is one of those that can be placed, and none of them costs less. -/
theorem best_some {p : Prob} {fixed : List (Int × Int)} (h : (bestF p fixed).2.2 = true) : (∃ o ∈ perms 8 (restF p fixed), contF p fixed o = ((bestF p fixed).1, true)) ∧ (bestF p fixed).2.1 = costF p (bestF p fixed).1 ∧
    ∀ o ∈ perms 8 (restF p fixed), (contF p fixed o).2 = true → (bestF p fixed).2.1 ≤ costF p (contF p fixed o).1 := by
  obtain ⟨_, h2, _, h4⟩ := bestStep_spec p fixed (perms 8 (restF p fixed)) ([], 0, false)
  have e : bestF p fixed = (perms 8 (restF p fixed)).foldl (bestStep p fixed) ([], 0, false) := rfl
  rw [← e] at h2 h4
  rcases h2 with h2 | ⟨o, ho, h2, h3⟩
  · rw [h2] at h; cases h
  · exact ⟨⟨o, ho, h2⟩, h3, h4⟩
theorem best_found {p : Prob} {fixed : List (Int × Int)} {o : List Int} (ho : o ∈ perms 8 (restF p fixed)) (h : (contF p fixed o).2 = true) : (bestF p fixed).2.2 = true := by
  cases hb : (bestF p fixed).2.2 with
  | true => rfl
  | false =>
    have := (best_none hb).2 o ho
    rw [h] at this
    cases this
/-- The arrivals of slots that keep the rules. -/
theorem slots_nodup {p : Prob} {l : List (Int × Int)} (h : slotsErr p l = 0) : (l.map (·.1)).Nodup ∧ ∀ a ∈ l.map (·.1), inA p a := by
  rw [slots_ok] at h
  constructor
  · refine List.pairwise_iff_getElem.2 fun i j hi hj hij e => ?_
    simp only [List.length_map] at hi hj
    rw [List.getElem_map, List.getElem_map] at e
    have h1 := (slE_ok.1 (h j hj)).1.2
    rw [getD_lt hj] at h1
    exact hasS_false.1 h1 l[i] (List.mem_take_iff_getElem.2 ⟨i, by omega, rfl⟩) e
  · intro a ha
    obtain ⟨s, hs, rfl⟩ := List.mem_map.1 ha
    obtain ⟨i, hi, rfl⟩ := List.getElem_of_mem hs
    have := (slE_ok.1 (h i hi)).1.1
    rwa [getD_lt hi] at this
theorem hasS_iff {l : List (Int × Int)} {a : Int} : hasS l a = true ↔ a ∈ l.map (·.1) := by
  unfold hasS
  simp only [List.any_eq_true, List.mem_map, beq_iff_eq]
/-- How many arrivals are left. -/
theorem rest_count {p : Prob} {fixed : List (Int × Int)} (h : slotsErr p fixed = 0) : fixed.length + (restF p fixed).length = p.2.1.length := by
  obtain ⟨h1, h2⟩ := slots_nodup h
  have hall : (fixed.map (·.1) ++ restF p fixed).Perm ((List.range p.2.1.length).map fun (j : Nat) => (j : Int)) := by
    refine (List.perm_ext_iff_of_nodup ?_ ?_).2 fun a => ?_
    · refine List.nodup_append.2 ⟨h1, rest_nodup p fixed, fun a ha b hb e => ?_⟩
      subst e
      have := (rest_mem.1 hb).2
      rw [hasS_iff.2 ha] at this
      cases this
    · exact nodup_cast List.nodup_range
    · constructor
      · intro ha
        have : inA p a := by
          rcases List.mem_append.1 ha with ha | ha
          · exact h2 a ha
          · exact (rest_mem.1 ha).1
        obtain ⟨g1, g2⟩ := this
        exact List.mem_map.2 ⟨a.toNat, List.mem_range.2 (by omega), by omega⟩
      · intro ha
        obtain ⟨j, hj, rfl⟩ := List.mem_map.1 ha
        have hj := List.mem_range.1 hj
        cases hh : hasS fixed (j : Int) with
        | true => exact List.mem_append_left _ (hasS_iff.1 hh)
        | false => exact List.mem_append_right _ (rest_mem.2 ⟨⟨by omega, by omega⟩, hh⟩)
  have := hall.length_eq
  simpa using this
/-- The best plan after fixed slots keeps the rules, begins with them, and is whole. -/
theorem best_slots {p : Prob} {fixed : List (Int × Int)} (hf : FixV p fixed) (hs : slotsErr p fixed = 0) (h : (bestF p fixed).2.2 = true) :
    slotsErr p (bestF p fixed).1 = 0 ∧ (bestF p fixed).1.take fixed.length = fixed ∧ (bestF p fixed).1.length = p.2.1.length := by
  obtain ⟨⟨o, ho, e⟩, _, _⟩ := best_some h
  have hv := hf.ok.v
  have h6 := rest_len hv fixed
  have hp := perms_perm 8 _ (by omega) o ho
  have hn : o.Nodup := hp.nodup_iff.2 (rest_nodup p fixed)
  have hin : ∀ a ∈ o, inA p a ∧ hasS fixed a = false := fun a ha => rest_mem.1 (hp.subset ha)
  have hc := rest_count hs
  have hl := hp.length_eq
  have ec : contL p fixed o = some (bestF p fixed).1 := by
    unfold contF at e
    cases h' : contL p fixed o with
    | none => rw [h'] at e; exact absurd (congrArg Prod.snd e) (by simp)
    | some l => rw [h'] at e; exact congrArg some (congrArg Prod.fst e)
  obtain ⟨_, v2⟩ := contL_ok hv o fixed hf.slots (fun a ha => (hin a ha).1) _ ec
  obtain ⟨s1, s2, _⟩ := cont_slots hs hn hin ec v2
  exact ⟨s1, s2, by omega⟩
end Go.Proofs.Ytglokajinehbmaa
end
