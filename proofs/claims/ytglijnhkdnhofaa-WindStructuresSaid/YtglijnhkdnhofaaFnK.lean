/- What functions of the program compute, each proved once, part 11. -/
import Derived.Test.YtglijnhkdnhofaaPiD
import Derived.Test.YtglijnhkdnhofaaFnA
import Derived.Test.YtglijnhkdnhofaaFnJ
import Derived.Test.YtglijnhkdnhofaaFnF

namespace Go.Proofs.Ytglijnhkdnhofaa
open Go Go.Pi Go.RowKit
set_option maxRecDepth 100000
set_option linter.unusedVariables false
set_option linter.unusedSimpArgs false

def f16 (x : List Int × Int) : Int × Int := (strV (x.1.map fun n => (n, n)) x.2.toNat).1
def f16_pre (x : List Int × Int) : Prop := strE (x.1.map fun n => (n, n)) x.2 = 0
def f16_e : Entry := { doms := [(false, (.sl (.int .i64))), (false, (.int .i64))], cods := [(true, (.pair (.int .i64) (.int .i64)))], pre := f16_pre, fn := f16, uq := false, total := false }
def f16_E : Env := [(65, f65_e)]
def f16_A : Anns := { loops := [(1048576, { tms := [(0, .keep), (1, .keep), (4, .keep), (5, .data false (.int .i64)), (6, .data false (.int .i64))], obs := [(1048576, .keep)], fz := [] })], own := [] }
theorem f16_run (a0 : List Int) (a1 : Int) (K : (Int × Int) → Prop) : runF Try.prog f16_E f16_A 6 Try.f16 f16_e.doms f16_e.cods (a0, a1) K =
    (LoopP (V := Int × Int × Unit) (fun again v => (fun (again1 : Int → Int → Prop) (v1_0 : Int) (v1_1 : Int) =>
    br (lenOk (a0.length))
    (br (decide (v1_1 < ((a0.length) : Int)))
    (br (decide (0 ≤ v1_1) && decide (v1_1 < ((a0.length) : Int)))
    (br (decide (0 ≤ (IntKind.i64.wrap (v1_1 - a1))) && decide ((IntKind.i64.wrap (v1_1 - a1)) < ((a0.length) : Int)))
    (br (decide (0 ≤ v1_1) && decide (v1_1 < ((a0.length) : Int)))
    (br (decide (0 ≤ (IntKind.i64.wrap (v1_1 - a1))) && decide ((IntKind.i64.wrap (v1_1 - a1)) < ((a0.length) : Int)))
    (again1 (IntKind.i64.wrap (v1_0 + (IntKind.i64.wrap ((IntKind.i64.wrap ((a0.getD v1_1.toNat 0) - (a0.getD ((IntKind.i64.wrap (v1_1 - a1)).toNat) 0))) * (IntKind.i64.wrap ((a0.getD v1_1.toNat 0) - (a0.getD ((IntKind.i64.wrap (v1_1 - a1)).toNat) 0))))))) (IntKind.i64.wrap (v1_1 + 1)))
    False)
    False)
    False)
    False)
    (br (lenOk (a0.length))
    (f65_pre (v1_0, (IntKind.i64.wrap (((a0.length) : Int) - a1))) ∧
    K (f65 (v1_0, (IntKind.i64.wrap (((a0.length) : Int) - a1)))))
    True))
    True)
    (fun v1_0 v1_1 => again (v1_0, v1_1, ())) v.1 v.2.1) (0, a1, ())) := by kernel_rfl
theorem f16_t (a0 : List Int) (a1 : Int) (hpre : f16_pre (a0, a1)) (K : (Int × Int) → Prop) (hK : ∀ y : Int × Int, y = f16 (a0, a1) → K y) : RunF Try.prog f16_E f16_A 6 Try.f16 f16_e.doms f16_e.cods (a0, a1) K := by
  refine ⟨?_⟩
  rw [f16_run a0 a1 K]
  have h : strE (a0.map fun n => (n, n)) a1 = 0 := hpre
  have e0 : f16 (a0, a1) = (strV (a0.map fun n => (n, n)) a1.toNat).1 := rfl
  have el : (a0.map fun n => (n, n)).length = a0.length := by simp
  obtain ⟨ok, _⟩ := strE_zero h
  obtain ⟨lag, rfl⟩ := Int.eq_ofNat_of_zero_le (show 0 ≤ a1 by have := ok.lag; omega)
  have hlag := ok.lag
  have hlen := ok.len
  rw [el] at hlag hlen
  have hcn : IntKind.i64.wrap ((a0.length : Int) - (lag : Int)) = ((a0.length - lag : Nat) : Int) := by rw [wr (by omega) (by omega)]; omega
  rw [hcn]
  have eg : ∀ i, i < a0.length → (a0.map fun n => (n, n)).getD i (0, 0) = (a0.getD i 0, a0.getD i 0) := fun i hi => by rw [getD_lt (by simpa using hi), getD_lt hi, List.getElem_map]
  have ed : ∀ i, i < a0.length - lag → nearF (lagD (a0.map fun n => (n, n)) lag i) = (a0.getD (lag + i) 0 - a0.getD i 0) * (a0.getD (lag + i) 0 - a0.getD i 0) ∧ lagD (a0.map fun n => (n, n)) lag i = (a0.getD (lag + i) 0 - a0.getD i 0, a0.getD (lag + i) 0 - a0.getD i 0) := fun i hi => by
    have e : lagD (a0.map fun n => (n, n)) lag i = (a0.getD (lag + i) 0 - a0.getD i 0, a0.getD (lag + i) 0 - a0.getD i 0) := by
      rw [lagD, eg _ (by omega), eg _ (by omega), Nat.add_comm i lag]; rfl
    refine ⟨?_, e⟩
    rw [e, nearF]
    generalize a0.getD (lag + i) 0 - a0.getD i 0 = n
    simp only [minmax]
    split
    · have : n = 0 := by omega
      rw [this]; rfl
    · split <;> rfl
  refine LoopP.of (fun q : Int × Int × Unit => ∃ i : Nat, i ≤ a0.length - lag ∧ q = (sumN (fun i => nearF (lagD (a0.map fun n => (n, n)) lag i)) i, ((lag + i : Nat) : Int), ())) (fun q => ((a0.length : Int) - q.2.1).toNat) (fun again q hq hag => ?_) ⟨0, by omega, rfl⟩
  obtain ⟨i, hi, rfl⟩ := hq
  dsimp only
  have hs := strS ok (n := i) (by rw [el]; exact hi)
  refine br_weak (br_if (fun hlt => ?_) fun hlt => ?_)
  · have hlt : i < a0.length - lag := by omega
    have hd := lagD_le ok (i := i) (by rw [el]; exact hlt)
    have hn := nearF_b ok (i := i) (by rw [el]; exact hlt)
    obtain ⟨e1, e2⟩ := ed i hlt
    rw [e2] at hd
    rw [wr (n := ((lag + i : Nat) : Int) - (lag : Int)) (by omega) (by omega), wr (n := ((lag + i : Nat) : Int) + 1) (by omega) (by omega)]
    have ei : (((lag + i : Nat) : Int) - (lag : Int)).toNat = i := by omega
    rw [ei, Int.toNat_natCast, wr (n := a0.getD (lag + i) 0 - a0.getD i 0) (by omega) (by omega), ← e1, wr (n := nearF _) (by omega) (by omega), wr (n := _ + nearF _) (by omega) (by omega), ← sumN_succ (fun i => nearF (lagD (a0.map fun n => (n, n)) lag i))]
    have b1 : (decide (0 ≤ ((lag + i : Nat) : Int)) && decide (((lag + i : Nat) : Int) < (a0.length : Int))) = true := inb (by omega) (by omega)
    have b2 : (decide (0 ≤ ((lag + i : Nat) : Int) - (lag : Int)) && decide (((lag + i : Nat) : Int) - (lag : Int) < (a0.length : Int))) = true := inb (by omega) (by omega)
    refine br_must b1 (br_must b2 (br_must b1 (br_must b2 (hag _ ⟨i + 1, by omega, by simp; omega⟩ (by dsimp only; omega)))))
  · have : i = a0.length - lag := by omega
    subst this
    refine br_weak ⟨⟨⟨by dsimp only; omega, by dsimp only; omega⟩, ⟨by dsimp only; omega, by dsimp only; omega⟩, by dsimp only; omega⟩, hK _ ?_⟩
    rw [e0]
    simp only [strV, f65, Int.toNat_natCast, el]
    rw [show ((a0.length - lag : Nat) : Int) = (a0.length : Int) - lag by omega]
theorem f16_fn : f16_e.fn = f16 := rfl
theorem f16_ok : EntryOK Try.prog 16 f16_e := by
  refine entryF progOK (EnvOK.cons f65_ok (EnvOK.nil)) (A := f16_A) (d := 6) Try.func16 rfl rfl rfl rfl (fun h => by cases h) fun x hpre => ?_
  obtain ⟨a0, a1⟩ := x
  exact f16_t a0 a1 hpre _ fun _ h => h.trans (congrFun f16_fn.symm _)
end Go.Proofs.Ytglijnhkdnhofaa
