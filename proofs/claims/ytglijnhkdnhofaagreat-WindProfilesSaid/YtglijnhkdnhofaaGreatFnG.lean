/- What functions of the program compute, each proved once, part 7. -/
import Derived.Test.YtglijnhkdnhofaaGreatPiD
import Derived.Test.YtglijnhkdnhofaaGreatFnA
import Derived.Test.YtglijnhkdnhofaaGreatFnF
import Derived.Test.YtglijnhkdnhofaaGreatFnC
import Derived.Test.YtglijnhkdnhofaaGreatFnE

section
namespace Go.Proofs.YtglijnhkdnhofaaGreat
open Go Go.Pi Go.RowKit
set_option maxRecDepth 100000
set_option linter.unusedVariables false
set_option linter.unusedSimpArgs false

def f80 (l : List Int) : List Int := l
def f80_pre (l : List Int) : Prop := 0 < l.length ∧ l.length ≤ 1073741824
def f80_e : Entry := { doms := [(false, (.sl (.int .i64)))], cods := [(false, (.sl (.int .i64)))], pre := f80_pre, fn := f80, uq := true, total := false }
def f80_E : Env := []
def f80_A : Anns := { loops := [], own := [1051648] }
theorem f80_run (a0 : List Int) (K : (List Int) → Prop) : runU Tryz.prog f80_E f80_A 6 Tryz.f80 f80_e.doms f80_e.cods a0 K =
    (br (decide (0 < (a0.length)))
    (br (roomOk (0 + (a0.length)) 8)
    (K (([] : List Int) ++ a0))
    False)
    False) := by kernel_rfl
theorem f80_t (a0 : List Int) (hpre : f80_pre a0) (K : (List Int) → Prop) (hK : ∀ y : List Int, y = f80 a0 → K y) : RunU Tryz.prog f80_E f80_A 6 Tryz.f80 f80_e.doms f80_e.cods a0 K := by
  refine ⟨?_⟩
  rw [f80_run a0 K]
  simp only [br_false_, decide_eq_true_eq, roomOk_iff]
  exact ⟨hpre.1, by have := hpre.2; omega, hK _ (by simp [f80])⟩
theorem f80_fn : f80_e.fn = f80 := rfl
theorem f80_ok : EntryOK Tryz.prog 80 f80_e := by
  refine entryFU progOK (EnvOK.nil) (A := f80_A) (d := 6) Tryz.func80 rfl rfl rfl (fun h => by cases h) fun x hpre => ?_
  exact f80_t x hpre _ fun _ h => h.trans (congrFun f80_fn.symm _)
end Go.Proofs.YtglijnhkdnhofaaGreat
end

section
namespace Go.Proofs.YtglijnhkdnhofaaGreat
open Go Go.Pi Go.RowKit
set_option maxRecDepth 100000
set_option linter.unusedVariables false
set_option linter.unusedSimpArgs false

def f81 (x : Int × Int) : Bool := !(decide (x.1 ≤ 0 ∧ 0 ≤ x.2))
def f81_e : Entry := { doms := [(true, (.pair (.int .i64) (.int .i64)))], cods := [(false, .bool)], pre := fun _ => True, fn := f81, uq := false, total := true }
def f81_E : Env := [(84, f84_e)]
def f81_A : Anns := { loops := [], own := [] }
theorem f81_run (a0 : Int × Int) (K : Bool → Prop) : runF Tryz.prog f81_E f81_A 6 Tryz.f81 f81_e.doms f81_e.cods a0 K =
    (K (!(f84 (0, a0)))) := by kernel_rfl
theorem f81_t (a0 : Int × Int) (K : Bool → Prop) (hK : ∀ y : Bool, y = f81 a0 → K y) : RunF Tryz.prog f81_E f81_A 6 Tryz.f81 f81_e.doms f81_e.cods a0 K := by
  refine ⟨?_⟩
  rw [f81_run a0 K]
  exact hK _ (by rw [f81, ← f84_eq])
theorem f81_fn : f81_e.fn = f81 := rfl
theorem f81_ok : EntryOK Tryz.prog 81 f81_e := by
  refine entryF progOK (EnvOK.cons f84_ok (EnvOK.nil)) (A := f81_A) (d := 6) Tryz.func81 rfl rfl rfl rfl (fun _ _ => trivial) fun x hpre => ?_
  exact f81_t x _ fun _ h => h.trans (congrFun f81_fn.symm _)
end Go.Proofs.YtglijnhkdnhofaaGreat
end

section
namespace Go.Proofs.YtglijnhkdnhofaaGreat
open Go Go.Pi Go.RowKit
set_option maxRecDepth 100000
set_option linter.unusedVariables false
set_option linter.unusedSimpArgs false

def f104 (x : (Int × Int) × Int × Int) : Int × Int := (w64 (x.1.1 - x.2.2), w64 (x.1.2 - x.2.1))
def f104_e : Entry := { doms := [(true, (.pair (.int .i64) (.int .i64))), (true, (.pair (.int .i64) (.int .i64)))], cods := [(true, (.pair (.int .i64) (.int .i64)))], pre := fun _ => True, fn := f104, uq := false, total := true }
def f104_E : Env := []
def f104_A : Anns := { loops := [], own := [] }
theorem f104_run (a0 : Int × Int) (a1 : Int × Int) (K : (Int × Int) → Prop) : runF Tryz.prog f104_E f104_A 6 Tryz.f104 f104_e.doms f104_e.cods (a0, a1) K =
    (K ((IntKind.i64.wrap (a0.1 - a1.2)), (IntKind.i64.wrap (a0.2 - a1.1)))) := by kernel_rfl
theorem f104_t (a0 : Int × Int) (a1 : Int × Int) (K : (Int × Int) → Prop) (hK : ∀ y : Int × Int, y = f104 (a0, a1) → K y) : RunF Tryz.prog f104_E f104_A 6 Tryz.f104 f104_e.doms f104_e.cods (a0, a1) K := by
  refine ⟨?_⟩
  rw [f104_run a0 a1 K]
  exact hK _ rfl
theorem f104_fn : f104_e.fn = f104 := rfl
theorem f104_ok : EntryOK Tryz.prog 104 f104_e := by
  refine entryF progOK (EnvOK.nil) (A := f104_A) (d := 6) Tryz.func104 rfl rfl rfl rfl (fun _ _ => trivial) fun x hpre => ?_
  obtain ⟨a0, a1⟩ := x
  exact f104_t a0 a1 _ fun _ h => h.trans (congrFun f104_fn.symm _)
end Go.Proofs.YtglijnhkdnhofaaGreat
end

section
namespace Go.Proofs.YtglijnhkdnhofaaGreat
open Go Go.Pi Go.RowKit
set_option maxRecDepth 100000
set_option linter.unusedVariables false
set_option linter.unusedSimpArgs false

def f153 (l : List Int) : List Int := l
def f153_e : Entry := { doms := [(false, (.sl (.int .i64)))], cods := [(false, (.sl (.int .i64)))], pre := fun _ => True, fn := f153, uq := false, total := true, ex := true }
def f153_E : Env := []
def f153_A : Anns := { loops := [], own := [] }
theorem f153_run (a0 : List Int) (K : (List Int) → Prop) : runX Tryz.prog f153_E f153_A 6 Tryz.f153 f153_e.doms f153_e.cods a0 K =
    (br (lenOk (a0.length))
    (br (lenOk (a0.length))
    (br (decide (((a0.length) : Int) = ((a0.length) : Int) ∧ ((a0.length) : Int) = ((a0.length) : Int)))
    (K a0)
    False)
    True)
    True) := by kernel_rfl
theorem f153_t (a0 : List Int) (K : (List Int) → Prop) (hK : ∀ y : List Int, y = f153 a0 → K y) : RunX Tryz.prog f153_E f153_A 6 Tryz.f153 f153_e.doms f153_e.cods a0 K := by
  refine ⟨?_⟩
  rw [f153_run a0 K]
  simp only [br_true_, br_false_, decide_eq_true_eq, and_self, true_and]
  exact fun _ _ => hK _ rfl
theorem f153_fn : f153_e.fn = f153 := rfl
theorem f153_ok : EntryOK Tryz.prog 153 f153_e := by
  refine entryFX progOK (EnvOK.nil) (A := f153_A) (d := 6) Tryz.func153 rfl rfl rfl (fun _ _ => trivial) fun x hpre => ?_
  exact f153_t x _ fun _ h => h.trans (congrFun f153_fn.symm _)
end Go.Proofs.YtglijnhkdnhofaaGreat
end

section
namespace Go.Proofs.YtglijnhkdnhofaaGreat
open Go Go.Pi Go.RowKit
set_option maxRecDepth 100000
set_option linter.unusedVariables false
set_option linter.unusedSimpArgs false

def f8 (x : Unit) : Bool := true
def f8_e : Entry := { doms := [], cods := [(false, .bool)], pre := fun _ => True, fn := f8, uq := false, total := true }
def f8_E : Env := [(13, f13_e), (61, f61_e), (62, f62_e), (66, f66_e), (80, f80_e), (81, f81_e), (83, f83_e), (84, f84_e), (85, f85_e), (102, f102_e), (104, f104_e), (109, f109_e), (120, f120_e), (126, f126_e), (131, f131_e), (153, f153_e)]
def f8_A : Anns := { loops := [], own := [1103811846147, 1213653950705090575744901, 1213653950705090576793477, 1270133738586390175700409653250, 1270133738586390175700410701826, 1270133738586390175700411750402, 1272608405014541055552417431552, 1272608405014541056651929059328, 1858111783062446996555748519763778508954189687778601277533845279379720316665857, 1858111783062446996555748519763778508954189687778601277533846432301224923512833, 1858111783062446996555748519763778508954189687778601277533847585222729530359809, 1858111783062446996555748519763778508954191017006597062449718183186780597010433, 1858111783062446996555748519763778508954191017006597062449719336108285203857409, 1858111783062446996555748519763778508954192346234592847365591086993840877355009, 2142257032656067635663423810069026774678602824566640864121790407837164626347716227256486379667457, 2142257032656067635663423810069026774678602824566640864121790407837164626347717380177990986514433, 2142257032656067635663423810069026774678602824566640864121791737065160411263589131063546660012033, 2246319310274368777133410285066939819285390635372790010737371892484837643401129236694089502567703784470, 2469854201344432815316866509648011185825511134594763229284480287542273498695055431954062737926450107300185659948044, 3133957766247915106377363406856614870626474784746138539168580983768389974020093491150369295328272893278143962127312016309104898684621663414271878, 3133957766247915109085048655021473131933519886448368718305726565190085848210014956594335416232204165778118968088385823044838503139117339029553030], unroll := 100 }
theorem f8_run (K : Bool → Prop) : runF Tryz.prog f8_E f8_A 60 Tryz.f8 f8_e.doms f8_e.cods () K =
    (f126_pre ([4, 20, 0, 4] : List Int) ∧
    f80_pre ([0, 1] : List Int) ∧
    f80_pre ([0, 2] : List Int) ∧
    f80_pre ([0, 3] : List Int) ∧
    f80_pre ([1, 2] : List Int) ∧
    f80_pre ([1, 3] : List Int) ∧
    f80_pre ([2, 3] : List Int) ∧
    f80_pre ([0, 1, 2] : List Int) ∧
    f80_pre ([0, 1, 3] : List Int) ∧
    f126_pre ([1, 1, (-1)] : List Int) ∧
    f80_pre ([0, 2, 3] : List Int) ∧
    f126_pre ([(-1), 1, 0] : List Int) ∧
    f126_pre ([0, 0, 1] : List Int) ∧
    f126_pre ([13, 2] : List Int) ∧
    f126_pre ([13, 2] : List Int) ∧
    K true) := by kernel_rfl
theorem f8_t (K : Bool → Prop) (hK : ∀ y : Bool, y = f8 () → K y) : RunF Tryz.prog f8_E f8_A 60 Tryz.f8 f8_e.doms f8_e.cods () K := by
  refine ⟨?_⟩
  rw [f8_run K]
  refine ⟨(by delta f126_pre; decide +kernel), (by delta f80_pre; decide +kernel), (by delta f80_pre; decide +kernel), (by delta f80_pre; decide +kernel), (by delta f80_pre; decide +kernel), (by delta f80_pre; decide +kernel), (by delta f80_pre; decide +kernel), (by delta f80_pre; decide +kernel), (by delta f80_pre; decide +kernel), (by delta f126_pre; decide +kernel), (by delta f80_pre; decide +kernel), (by delta f126_pre; decide +kernel), (by delta f126_pre; decide +kernel), (by delta f126_pre; decide +kernel), (by delta f126_pre; decide +kernel), hK _ rfl⟩
theorem f8_fn : f8_e.fn = f8 := rfl
theorem f8_ok : EntryOK Tryz.prog 8 f8_e := by
  refine entryF progOK (EnvOK.cons f13_ok (EnvOK.cons f61_ok (EnvOK.cons f62_ok (EnvOK.cons f66_ok (EnvOK.cons f80_ok (EnvOK.cons f81_ok (EnvOK.cons f83_ok (EnvOK.cons f84_ok (EnvOK.cons f85_ok (EnvOK.cons f102_ok (EnvOK.cons f104_ok (EnvOK.cons f109_ok (EnvOK.cons f120_ok (EnvOK.cons f126_ok (EnvOK.cons f131_ok (EnvOK.cons f153_ok (EnvOK.nil))))))))))))))))) (A := f8_A) (d := 60) Tryz.func8 rfl rfl rfl rfl (fun _ _ => trivial) fun x hpre => ?_
  exact f8_t _ fun _ h => h.trans (congrFun f8_fn.symm _)
end Go.Proofs.YtglijnhkdnhofaaGreat
end

section
namespace Go.Proofs.YtglijnhkdnhofaaGreat
open Go Go.Pi Go.RowKit
set_option maxRecDepth 100000
set_option linter.unusedVariables false
set_option linter.unusedSimpArgs false

def f101 (n : Int) : Int := if 0 ≤ n ∧ n ≤ 20000 then 0 else 2
def f101_e : Entry := { doms := [(false, (.int .i64))], cods := [(false, (.int .i64))], pre := fun _ => True, fn := f101, uq := false, total := true }
def f101_E : Env := [(83, f83_e), (84, f84_e)]
def f101_A : Anns := { loops := [], own := [] }
theorem f101_run (a0 : Int) (K : Int → Prop) : runF Tryz.prog f101_E f101_A 6 Tryz.f101 f101_e.doms f101_e.cods a0 K =
    (K (f83 ((f84 (a0, (0, 20000))), 2))) := by kernel_rfl
theorem f101_t (a0 : Int) (K : Int → Prop) (hK : ∀ y : Int, y = f101 a0 → K y) : RunF Tryz.prog f101_E f101_A 6 Tryz.f101 f101_e.doms f101_e.cods a0 K := by
  refine ⟨?_⟩
  rw [f101_run a0 K]
  refine hK _ ?_
  rw [f84_eq, f101, f83]
  by_cases h : 0 ≤ a0 ∧ a0 ≤ 20000 <;> simp [h]
theorem f101_fn : f101_e.fn = f101 := rfl
theorem f101_ok : EntryOK Tryz.prog 101 f101_e := by
  refine entryF progOK (EnvOK.cons f83_ok (EnvOK.cons f84_ok (EnvOK.nil))) (A := f101_A) (d := 6) Tryz.func101 rfl rfl rfl rfl (fun _ _ => trivial) fun x hpre => ?_
  exact f101_t x _ fun _ h => h.trans (congrFun f101_fn.symm _)
end Go.Proofs.YtglijnhkdnhofaaGreat
end

section
namespace Go.Pi
set_option linter.unusedVariables false
def sgn (n : Int) : Int := if n < 0 then -1 else if n > 0 then 1 else 0
def cmpQ (x : Int × Int × Int × Int) : Int := sgn (x.1 * x.2.2.2 - x.2.2.1 * x.2.1)
abbrev R2 := Int × Int
def mns (a b : R2) : R2 := (a.1 - b.2, a.2 - b.1)
def nearF (d : R2) : Int := if d.1 ≤ 0 ∧ 0 ≤ d.2 then 0 else minmax false (d.1 * d.1) (d.2 * d.2)
def farF (d : R2) : Int := minmax true (d.1 * d.1) (d.2 * d.2)
def lagD (l : List R2) (lag i : Nat) : R2 := mns (l.getD (i + lag) (0, 0)) (l.getD i (0, 0))
def sumN (f : Nat → Int) (n : Nat) : Int := ((List.range n).map f).sum
theorem sumN_succ (f : Nat → Int) (n : Nat) : sumN f (n + 1) = sumN f n + f n := by simp [sumN, List.range_succ]
theorem sumN_le {f g : Nat → Int} : ∀ {n : Nat}, (∀ i, i < n → f i ≤ g i) → sumN f n ≤ sumN g n
  | 0, _ => by simp [sumN]
  | n + 1, h => by
    rw [sumN_succ, sumN_succ]
    have := sumN_le (n := n) fun i hi => h i (by omega)
    have := h n (by omega)
    omega
theorem sumN_congr {f g : Nat → Int} {n : Nat} (h : ∀ i, i < n → f i = g i) : sumN f n = sumN g n :=
  Int.le_antisymm (sumN_le fun i hi => by rw [h i hi]; exact Int.le_refl _) (sumN_le fun i hi => by rw [h i hi]; exact Int.le_refl _)
theorem sumN_bound {f : Nat → Int} {M : Int} : ∀ {n : Nat}, (∀ i, i < n → 0 ≤ f i ∧ f i ≤ M) → 0 ≤ sumN f n ∧ sumN f n ≤ n * M
  | 0, _ => by simp [sumN]
  | n + 1, h => by
    have h1 := sumN_bound (n := n) fun i hi => h i (by omega)
    have h2 := h n (by omega)
    rw [sumN_succ, show ((n + 1 : Nat) : Int) * M = n * M + M by rw [Int.natCast_add, Int.add_mul]; simp]
    omega
/-- The error of ranges and a lag. -/
def rgsE (l : List R2) : Int := if l.length = 0 then 10 else if l.length > 30 then 8 else (eachE l.length fun i => rngE (l.getD i (0, 0)) 10000).2
def lagE (n : Nat) (lag : Int) : Int := if 1 ≤ lag ∧ lag ≤ (n : Int) - 1 then 0 else 2
def strE (l : List R2) (lag : Int) : Int := if rgsE l ≠ 0 then rgsE l else lagE l.length lag
def strV (l : List R2) (lag : Nat) : R2 × R2 := (low (sumN (fun i => nearF (lagD l lag i)) (l.length - lag)) ((l.length : Int) - lag), low (sumN (fun i => farF (lagD l lag i)) (l.length - lag)) ((l.length : Int) - lag))
def strIn (l : List R2) (lag : Int) : (R2 × R2) × Int := if strE l lag ≠ 0 then (no4, strE l lag) else (strV l lag.toNat, 0)
theorem rngE_zero {r : R2} {m : Int} (h : rngE r m = 0) : -m ≤ r.1 ∧ r.1 ≤ r.2 ∧ r.2 ≤ m := by
  unfold rngE at h
  split at h
  · simp at h
  · rename_i h4
    split at h
    · rename_i h5
      have h4 := Classical.byContradiction h4
      exact ⟨by omega, h5, by omega⟩
    · simp at h
/-- Valid ranges and a lag. -/
structure RgOK (l : List R2) (lag : Int) : Prop where
  len : l.length ≤ 30
  lag : 1 ≤ lag ∧ lag ≤ (l.length : Int) - 1
  el : ∀ r ∈ l, -10000 ≤ r.1 ∧ r.1 ≤ r.2 ∧ r.2 ≤ 10000
theorem strE_zero {l : List R2} {lag : Int} (h : strE l lag = 0) : RgOK l lag ∧ rgsE l = 0 := by
  unfold strE at h
  split at h
  · rename_i h1; exact absurd h h1
  · rename_i h1
    have h1 := Classical.byContradiction h1
    have h0 := h1
    unfold rgsE at h1
    unfold lagE at h
    split at h1
    · simp at h1
    · split at h1
      · simp at h1
      · rename_i h2 h3
        split at h
        · rename_i h4
          have hz := eachE_zero h1
          refine ⟨⟨by omega, h4, fun r hr => ?_⟩, h0⟩
          obtain ⟨i, hi, e⟩ := List.getElem_of_mem hr
          have := rngE_zero (hz i hi)
          rwa [getD_lt hi, e] at this
        · simp at h
theorem sq_le {n m : Int} (h : -m ≤ n ∧ n ≤ m) : 0 ≤ n * n ∧ n * n ≤ m * m := by
  have h1 := mul_le h h
  refine ⟨?_, h1.2⟩
  rcases Int.le_total 0 n with h2 | h2
  · exact Int.mul_nonneg h2 h2
  · exact Int.mul_nonneg_of_nonpos_of_nonpos h2 h2
theorem lagD_le {l : List R2} {lag : Nat} (h : RgOK l lag) {i : Nat} (hi : i < l.length - lag) : (-20000 ≤ (lagD l lag i).1 ∧ (lagD l lag i).1 ≤ 20000) ∧ -20000 ≤ (lagD l lag i).2 ∧ (lagD l lag i).2 ≤ 20000 := by
  have h1 := h.el _ (getD_mem (d := (0, 0)) (show i + lag < l.length by omega))
  have h2 := h.el _ (getD_mem (d := (0, 0)) (show i < l.length by omega))
  simp only [lagD, mns]
  omega
theorem nearF_b {l : List R2} {lag : Nat} (h : RgOK l lag) {i : Nat} (hi : i < l.length - lag) : 0 ≤ nearF (lagD l lag i) ∧ nearF (lagD l lag i) ≤ 400000000 := by
  have hd := lagD_le h hi
  have h1 := sq_le hd.1
  have h2 := sq_le hd.2
  unfold nearF minmax
  split
  · omega
  · simp only; split <;> omega
theorem farF_b {l : List R2} {lag : Nat} (h : RgOK l lag) {i : Nat} (hi : i < l.length - lag) : 0 ≤ farF (lagD l lag i) ∧ farF (lagD l lag i) ≤ 400000000 := by
  have hd := lagD_le h hi
  have h1 := sq_le hd.1
  have h2 := sq_le hd.2
  unfold farF minmax
  simp only; split <;> omega
theorem strS {l : List R2} {lag : Nat} (h : RgOK l lag) {n : Nat} (hn : n ≤ l.length - lag) : (0 ≤ sumN (fun i => nearF (lagD l lag i)) n ∧ sumN (fun i => nearF (lagD l lag i)) n ≤ 12000000000) ∧ 0 ≤ sumN (fun i => farF (lagD l lag i)) n ∧ sumN (fun i => farF (lagD l lag i)) n ≤ 12000000000 := by
  have h1 := sumN_bound (n := n) fun i hi => nearF_b h (show i < l.length - lag by omega)
  have h2 := sumN_bound (n := n) fun i hi => farF_b h (show i < l.length - lag by omega)
  have := h.len
  omega
end Go.Pi
end

section
namespace Go.Pi
set_option linter.unusedVariables false
abbrev Bx := R2 × R2 × R2
abbrev Ly := Int × Bx
def b0 : Bx := ((0, 0), (0, 0), (0, 0))
def ly0 : Ly := (0, (0, 0), (0, 0), (0, 0))
def frst (l : List Int) : Int := match l.find? (· != 0) with
  | some n => n
  | none => 0
theorem frst_cons (a : Int) (l : List Int) : frst (a :: l) = if a = 0 then frst l else a := by
  by_cases h : a = 0 <;> simp [frst, h]
theorem frst_nil : frst [] = 0 := rfl
def hE (n : Int) : Int := if 0 ≤ n ∧ n ≤ 20000 then 0 else 2
def ordE (l : List Ly) (i : Nat) : Int := if i = 0 ∨ (l.getD (i - 1) ly0).1 < (l.getD i ly0).1 then 0 else 9
def lyE (l : List Ly) (i : Nat) : Int := frst [hE (l.getD i ly0).1, rngE (l.getD i ly0).2.1 100000, rngE (l.getD i ly0).2.2.1 100000, rngE (l.getD i ly0).2.2.2 100000, ordE l i]
def pfOf (l : List Ly) : Int × Int := if l.length = 0 then (0, 10) else if l.length > 12 then (0, 8) else eachE l.length (lyE l)
def rOK (r : R2) : Prop := -100000 ≤ r.1 ∧ r.1 ≤ r.2 ∧ r.2 ≤ 100000
def bOK (b : Bx) : Prop := rOK b.1 ∧ rOK b.2.1 ∧ rOK b.2.2
structure PfOK (l : List Ly) : Prop where
  pos : 0 < l.length
  len : l.length ≤ 12
  h : ∀ i, i < l.length → 0 ≤ (l.getD i ly0).1 ∧ (l.getD i ly0).1 ≤ 20000
  w : ∀ i, i < l.length → bOK (l.getD i ly0).2
  up : ∀ i, i + 1 < l.length → (l.getD i ly0).1 < (l.getD (i + 1) ly0).1
theorem hE_zero {n : Int} (h : hE n = 0) : 0 ≤ n ∧ n ≤ 20000 := by
  unfold hE at h
  split at h
  · assumption
  · cases h
theorem lyE_zero {l : List Ly} {i : Nat} (h : lyE l i = 0) : (0 ≤ (l.getD i ly0).1 ∧ (l.getD i ly0).1 ≤ 20000) ∧ bOK (l.getD i ly0).2 ∧ (i = 0 ∨ (l.getD (i - 1) ly0).1 < (l.getD i ly0).1) := by
  unfold lyE at h
  have key : ∀ (a : Int) (r : List Int), frst (a :: r) = 0 → a = 0 ∧ frst r = 0 := fun a r h => by
    rw [frst_cons] at h
    by_cases h1 : a = 0
    · rw [if_pos h1] at h; exact ⟨h1, h⟩
    · rw [if_neg h1] at h; exact absurd h h1
  obtain ⟨h1, h⟩ := key _ _ h
  obtain ⟨h2, h⟩ := key _ _ h
  obtain ⟨h3, h⟩ := key _ _ h
  obtain ⟨h4, h⟩ := key _ _ h
  obtain ⟨h5, _⟩ := key _ _ h
  refine ⟨hE_zero h1, ⟨rngE_zero h2, rngE_zero h3, rngE_zero h4⟩, ?_⟩
  unfold ordE at h5
  split at h5
  · assumption
  · cases h5
theorem pfOf_ok {l : List Ly} (h : (pfOf l).2 = 0) : PfOK l := by
  unfold pfOf at h
  split at h
  · cases h
  · rename_i h1
    split at h
    · cases h
    · rename_i h2
      have hz := eachE_zero h
      refine ⟨by omega, by omega, fun i hi => (lyE_zero (hz i hi)).1, fun i hi => (lyE_zero (hz i hi)).2.1, fun i hi => ?_⟩
      have := (lyE_zero (hz (i + 1) hi)).2.2
      rw [Nat.add_sub_cancel] at this
      omega
theorem PfOK.mono {l : List Ly} (h : PfOK l) {i : Nat} : ∀ {j : Nat}, i < j → j < l.length → (l.getD i ly0).1 < (l.getD j ly0).1
  | 0, hij, _ => by omega
  | j + 1, hij, hj => by
    have h1 := h.up j hj
    rcases Nat.lt_or_ge i j with h2 | h2
    · have := h.mono h2 (show j < l.length by omega); omega
    · have : i = j := by omega
      subst this; exact h1
/-- Between two ranges, at a part of the way, rounded outwards. -/
def btw (a b : R2) (n of : Int) : R2 := (a.1 + (b.1 - a.1) * n / of, a.2 + -(-((b.2 - a.2) * n) / of))
def btB (a b : Bx) (n of : Int) : Bx := (btw a.1 b.1 n of, btw a.2.1 b.2.1 n of, btw a.2.2 b.2.2 n of)
def fstI (l : List Ly) (h : Int) : Option Nat := l.findIdx? (fun x => decide (h ≤ x.1))
def atP (l : List Ly) (h : Int) : Bx × Bool := match fstI l h with
  | none => (b0, false)
  | some i => if i = 0 ∧ (l.getD 0 ly0).1 > h then (b0, false) else if (l.getD i ly0).1 = h then ((l.getD i ly0).2, true) else
    (btB (l.getD (i - 1) ly0).2 (l.getD i ly0).2 (h - (l.getD (i - 1) ly0).1) ((l.getD i ly0).1 - (l.getD (i - 1) ly0).1), true)
def windAt (l : List Ly) (h : Int) : Bx × Int := if (pfOf l).2 ≠ 0 then (b0, (pfOf l).2) else if hE h ≠ 0 then (b0, hE h) else if (atP l h).2 = false then (b0, 6) else ((atP l h).1, 0)
def chg (a b : Bx) : Bx := (mns b.1 a.1, mns b.2.1 a.2.1, mns b.2.2 a.2.2)
def chgE (l : List Ly) (x : R2) : Int := frst [(pfOf l).2, hE x.1, hE x.2, if x.1 ≤ x.2 then 0 else 9]
def chgIn (l : List Ly) (x : R2) : Bx × Int := if chgE l x ≠ 0 then (b0, chgE l x) else if (atP l x.1).2 = false then (b0, 6) else if (atP l x.2).2 = false then (b0, 6) else (chg (atP l x.1).1 (atP l x.2).1, 0)
/-! ### what lies between -/
theorem btw_ok {a b : R2} (ha : rOK a) (hb : rOK b) {n of : Int} (h0 : 0 ≤ n) (h1 : n ≤ of) (hof : 0 < of) : (min a.1 b.1 ≤ (btw a b n of).1 ∧ (btw a b n of).1 ≤ (btw a b n of).2 ∧ (btw a b n of).2 ≤ max a.2 b.2) ∧ rOK (btw a b n of) := by
  obtain ⟨a1, a2, a3⟩ := ha
  obtain ⟨b1, b2, b3⟩ := hb
  -- the lower end
  have l1 : min a.1 b.1 ≤ a.1 + (b.1 - a.1) * n / of := by
    have : (min a.1 b.1 - a.1) ≤ (b.1 - a.1) * n / of := by
      refine Int.le_ediv_of_mul_le hof ?_
      rcases Int.le_total a.1 b.1 with h | h
      · rw [Int.min_eq_left h, Int.sub_self, Int.zero_mul]; exact Int.mul_nonneg (by omega) h0
      · rw [Int.min_eq_right h]; exact Int.mul_le_mul_of_nonpos_left (by omega) h1
    omega
  have l2 : -((b.2 - a.2) * n) / of ≥ -(max a.2 b.2 - a.2) := by
    refine Int.le_ediv_of_mul_le hof ?_
    rw [Int.neg_mul]
    have : (b.2 - a.2) * n ≤ (max a.2 b.2 - a.2) * of := by
      rcases Int.le_total a.2 b.2 with h | h
      · rw [Int.max_eq_right h]; exact Int.mul_le_mul_of_nonneg_left h1 (by omega)
      · rw [Int.max_eq_left h, Int.sub_self, Int.zero_mul]
        exact Int.mul_nonpos_of_nonpos_of_nonneg (by omega) h0
    omega
  have q1 := Int.ediv_mul_le ((b.1 - a.1) * n) (show of ≠ 0 by omega)
  have q2 := Int.ediv_mul_le (-((b.2 - a.2) * n)) (show of ≠ 0 by omega)
  have l3 : (btw a b n of).1 ≤ (btw a b n of).2 := by
    show a.1 + (b.1 - a.1) * n / of ≤ a.2 + -(-((b.2 - a.2) * n) / of)
    generalize (b.1 - a.1) * n / of = x at *
    generalize -((b.2 - a.2) * n) / of = y at *
    refine Int.le_of_mul_le_mul_right (a := of) ?_ hof
    have e1 : (a.1 + x) * of = a.1 * of + x * of := by grind
    have e2 : (a.2 + -y) * of = a.2 * of - y * of := by grind
    have e3 : (b.1 - a.1) * n = b.1 * n - a.1 * n := by grind
    have e4 : (b.2 - a.2) * n = b.2 * n - a.2 * n := by grind
    have e5 : a.1 * (of - n) ≤ a.2 * (of - n) := Int.mul_le_mul_of_nonneg_right a2 (by omega)
    have e6 : b.1 * n ≤ b.2 * n := Int.mul_le_mul_of_nonneg_right b2 h0
    have e7 : a.1 * (of - n) = a.1 * of - a.1 * n := by grind
    have e8 : a.2 * (of - n) = a.2 * of - a.2 * n := by grind
    omega
  have l4 : (btw a b n of).1 = a.1 + (b.1 - a.1) * n / of := rfl
  have l5 : (btw a b n of).2 = a.2 + -(-((b.2 - a.2) * n) / of) := rfl
  refine ⟨⟨by rw [l4]; exact l1, l3, by rw [l5]; omega⟩, ⟨by rw [l4]; omega, l3, by rw [l5]; omega⟩⟩
end Go.Pi
end

section
namespace Go.Pi
set_option linter.unusedVariables false
theorem fstI_some {l : List Ly} {h : Int} {i : Nat} (hi : i < l.length) (h1 : h ≤ (l.getD i ly0).1) (h2 : ∀ j, j < i → (l.getD j ly0).1 < h) : fstI l h = some i := by
  unfold fstI
  rw [List.findIdx?_eq_some_iff_getElem]
  refine ⟨hi, by rw [getD_lt hi] at h1; exact decide_eq_true h1, fun j hj => ?_⟩
  have := h2 j hj
  rw [getD_lt (by omega)] at this
  simpa using this
theorem fstI_none {l : List Ly} {h : Int} (h2 : ∀ j, j < l.length → (l.getD j ly0).1 < h) : fstI l h = none := by
  unfold fstI
  rw [List.findIdx?_eq_none_iff]
  intro x hx
  obtain ⟨j, hj, e⟩ := List.getElem_of_mem hx
  have := h2 j hj
  rw [getD_lt hj, e] at this
  simpa using this
theorem fstI_inv {l : List Ly} {h : Int} {i : Nat} (e : fstI l h = some i) : i < l.length ∧ h ≤ (l.getD i ly0).1 ∧ ∀ j, j < i → (l.getD j ly0).1 < h := by
  unfold fstI at e
  rw [List.findIdx?_eq_some_iff_getElem] at e
  obtain ⟨hi, h1, h2⟩ := e
  refine ⟨hi, by rw [getD_lt hi]; exact of_decide_eq_true h1, fun j hj => ?_⟩
  have := h2 j hj
  rw [getD_lt (by omega)]
  simpa using this
theorem at_layer {l : List Ly} (ok : PfOK l) {i : Nat} (hi : i < l.length) : atP l (l.getD i ly0).1 = ((l.getD i ly0).2, true) := by
  have e := fstI_some hi (Int.le_refl _) fun j hj => ok.mono hj hi
  unfold atP
  rw [e]
  simp only
  rw [if_neg (fun hh => by obtain ⟨rfl, h2⟩ := hh; omega), if_pos trivial]
/-- The layers around a height. -/
theorem at_mid {l : List Ly} (ok : PfOK l) {h : Int} (h0 : (l.getD 0 ly0).1 ≤ h) (h1 : h ≤ (l.getD (l.length - 1) ly0).1) :
    (∃ i, i < l.length ∧ (l.getD i ly0).1 = h ∧ atP l h = ((l.getD i ly0).2, true)) ∨
    ∃ i, i + 1 < l.length ∧ (l.getD i ly0).1 < h ∧ h < (l.getD (i + 1) ly0).1 ∧ atP l h = (btB (l.getD i ly0).2 (l.getD (i + 1) ly0).2 (h - (l.getD i ly0).1) ((l.getD (i + 1) ly0).1 - (l.getD i ly0).1), true) := by
  have hp := ok.pos
  cases e : fstI l h with
  | none =>
    exfalso
    unfold fstI at e
    rw [List.findIdx?_eq_none_iff] at e
    have h9 := e (l.getD (l.length - 1) ly0) (getD_mem (show l.length - 1 < l.length by omega))
    rw [decide_eq_false_iff_not] at h9
    exact h9 h1
  | some i =>
    obtain ⟨hi, a1, a2⟩ := fstI_inv e
    by_cases he : (l.getD i ly0).1 = h
    · exact .inl ⟨i, hi, he, by rw [← he]; exact at_layer ok hi⟩
    · cases i with
      | zero => omega
      | succ i =>
        refine .inr ⟨i, hi, a2 i (by omega), by omega, ?_⟩
        unfold atP
        rw [e]
        simp only
        rw [if_neg (fun hh => by cases hh.1), if_neg he, Nat.add_sub_cancel]
theorem btB_ok {a b : Bx} (ha : bOK a) (hb : bOK b) {n of : Int} (h0 : 0 ≤ n) (h1 : n ≤ of) (hof : 0 < of) : bOK (btB a b n of) :=
  ⟨(btw_ok ha.1 hb.1 h0 h1 hof).2, (btw_ok ha.2.1 hb.2.1 h0 h1 hof).2, (btw_ok ha.2.2 hb.2.2 h0 h1 hof).2⟩
theorem at_ok {l : List Ly} (ok : PfOK l) {h : Int} (h0 : (l.getD 0 ly0).1 ≤ h) (h1 : h ≤ (l.getD (l.length - 1) ly0).1) : bOK (atP l h).1 ∧ (atP l h).2 = true := by
  rcases at_mid ok h0 h1 with ⟨i, hi, _, e⟩ | ⟨i, hi, a1, a2, e⟩
  · rw [e]; exact ⟨ok.w i hi, rfl⟩
  · rw [e]; exact ⟨btB_ok (ok.w i (by omega)) (ok.w (i + 1) hi) (by omega) (by omega) (by omega), rfl⟩
/-- A range that lies in the smallest one that contains two others. -/
def lies (r a b : R2) : Prop := min a.1 b.1 ≤ r.1 ∧ r.1 ≤ r.2 ∧ r.2 ≤ max a.2 b.2
theorem lies_l {a b : R2} (ha : rOK a) : lies a a b := ⟨Int.min_le_left _ _, ha.2.1, Int.le_max_left _ _⟩
theorem lies_r {a b : R2} (hb : rOK b) : lies b a b := ⟨Int.min_le_right _ _, hb.2.1, Int.le_max_right _ _⟩
def liesB (r a b : Bx) : Prop := lies r.1 a.1 b.1 ∧ lies r.2.1 a.2.1 b.2.1 ∧ lies r.2.2 a.2.2 b.2.2
theorem at_between {l : List Ly} (ok : PfOK l) {h : Int} {i : Nat} (hi : i + 1 < l.length) (h0 : (l.getD i ly0).1 ≤ h) (h1 : h ≤ (l.getD (i + 1) ly0).1) : liesB (atP l h).1 (l.getD i ly0).2 (l.getD (i + 1) ly0).2 := by
  have w0 := ok.w i (by omega)
  have w1 := ok.w (i + 1) hi
  rcases Int.lt_or_eq_of_le h0 with h2 | h2
  · rcases Int.lt_or_eq_of_le h1 with h3 | h3
    · have e : fstI l h = some (i + 1) := fstI_some hi (by omega) fun j hj => by
        rcases Nat.lt_or_ge j i with h4 | h4
        · have := ok.mono h4 (show i < l.length by omega); omega
        · have : j = i := by omega
          subst this; exact h2
      unfold atP
      rw [e]
      simp only
      rw [if_neg (fun hh => by cases hh.1), if_neg (by omega), Nat.add_sub_cancel]
      exact ⟨(btw_ok w0.1 w1.1 (by omega) (by omega) (by omega)).1, (btw_ok w0.2.1 w1.2.1 (by omega) (by omega) (by omega)).1, (btw_ok w0.2.2 w1.2.2 (by omega) (by omega) (by omega)).1⟩
    · rw [h3, at_layer ok hi]
      exact ⟨lies_r w1.1, lies_r w1.2.1, lies_r w1.2.2⟩
  · rw [← h2, at_layer ok (by omega)]
    exact ⟨lies_l w0.1, lies_l w0.2.1, lies_l w0.2.2⟩
theorem pf_range {l : List Ly} (ok : PfOK l) : 0 ≤ (l.getD 0 ly0).1 ∧ (l.getD 0 ly0).1 ≤ (l.getD (l.length - 1) ly0).1 ∧ (l.getD (l.length - 1) ly0).1 ≤ 20000 := by
  have hp := ok.pos
  refine ⟨(ok.h 0 hp).1, ?_, (ok.h _ (by omega)).2⟩
  rcases Nat.eq_zero_or_pos (l.length - 1) with h | h
  · rw [h]; exact Int.le_refl _
  · have := ok.mono h (show l.length - 1 < l.length by omega); omega
theorem at_out {l : List Ly} (ok : PfOK l) {h : Int} (ho : h < (l.getD 0 ly0).1 ∨ h > (l.getD (l.length - 1) ly0).1) : atP l h = (b0, false) := by
  have hp := ok.pos
  rcases ho with ho | ho
  · have e : fstI l h = some 0 := fstI_some hp (by omega) fun j hj => by omega
    unfold atP
    rw [e]
    simp only
    rw [if_pos ⟨trivial, ho⟩]
  · have e : fstI l h = none := fstI_none fun j hj => by
      rcases Nat.lt_or_ge j (l.length - 1) with h2 | h2
      · have := ok.mono h2 (by omega); omega
      · have : j = l.length - 1 := by omega
        subst this; omega
    unfold atP
    rw [e]
def atE (l : List Ly) (h : Int) : Int := if h < (l.getD 0 ly0).1 then 6 else if h > (l.getD (l.length - 1) ly0).1 then 6 else 0
theorem atE_iff {l : List Ly} (ok : PfOK l) (h : Int) : ((atP l h).2 = false ↔ atE l h ≠ 0) ∧ (atE l h ≠ 0 → atE l h = 6) ∧ (atE l h = 0 → (l.getD 0 ly0).1 ≤ h ∧ h ≤ (l.getD (l.length - 1) ly0).1) := by
  unfold atE
  by_cases h1 : h < (l.getD 0 ly0).1
  · rw [if_pos h1, at_out ok (.inl h1)]
    exact ⟨by simp, fun _ => rfl, fun hh => by cases hh⟩
  · rw [if_neg h1]
    by_cases h2 : h > (l.getD (l.length - 1) ly0).1
    · rw [if_pos h2, at_out ok (.inr h2)]
      exact ⟨by simp, fun _ => rfl, fun hh => by cases hh⟩
    · rw [if_neg h2, (at_ok ok (by omega) (by omega)).2]
      exact ⟨by simp, fun hh => absurd rfl hh, fun _ => ⟨by omega, by omega⟩⟩
theorem btw_other (a b : R2) {p w : Int} (hw : 0 < w) : btw a b p w = ((a.1 * (w - p) + b.1 * p) / w, -((-(a.2 * (w - p) + b.2 * p)) / w)) := by
  have e1 : a.1 * (w - p) + b.1 * p = (b.1 - a.1) * p + a.1 * w := by grind
  have e2 : -(a.2 * (w - p) + b.2 * p) = -((b.2 - a.2) * p) + (-a.2) * w := by grind
  rw [e1, e2, Int.add_mul_ediv_right _ _ (by omega), Int.add_mul_ediv_right _ _ (by omega), btw]
  refine Prod.ext ?_ ?_
  · dsimp only; omega
  · dsimp only; omega
theorem chgIn_ok {l : List Ly} (h : (pfOf l).2 = 0) {p q : Int} (h0 : (l.getD 0 ly0).1 ≤ p) (hpq : p ≤ q) (h1 : q ≤ (l.getD (l.length - 1) ly0).1) : chgIn l (p, q) = (chg (atP l p).1 (atP l q).1, 0) := by
  have ok := pfOf_ok h
  have hr := pf_range ok
  have e : chgE l (p, q) = 0 := by
    rw [chgE, h, frst_cons, if_pos rfl, show hE p = 0 from if_pos ⟨by omega, by omega⟩, frst_cons, if_pos rfl, show hE q = 0 from if_pos ⟨by omega, by omega⟩, frst_cons, if_pos rfl, if_pos hpq]; rfl
  rw [chgIn, if_neg (fun hh => hh e), if_neg (by rw [(at_ok ok h0 (by omega)).2]; simp), if_neg (by rw [(at_ok ok (by omega) h1).2]; simp)]
theorem windAt_ok {l : List Ly} (h : (pfOf l).2 = 0) {p : Int} (h0 : (l.getD 0 ly0).1 ≤ p) (h1 : p ≤ (l.getD (l.length - 1) ly0).1) : windAt l p = ((atP l p).1, 0) := by
  have ok := pfOf_ok h
  have hr := pf_range ok
  rw [windAt, if_neg (fun hh => hh h), if_neg (fun hh => hh (if_pos ⟨by omega, by omega⟩)), if_neg (by rw [(at_ok ok h0 h1).2]; simp)]
end Go.Pi
end

section
namespace Go.Proofs.YtglijnhkdnhofaaGreat
open Go Go.Pi Go.RowKit
set_option maxRecDepth 100000
set_option linter.unusedVariables false
set_option linter.unusedSimpArgs false

def f39 (l : List (Int × (Int × Int) × (Int × Int) × Int × Int)) : Int × Int := pfOf l
theorem f102_w (r : Int × Int) : f102 (r, 100000) = rngE r 100000 := by
  unfold f102 rngE
  simp only [f85_eq (show (0 : Int) ≤ 100000 by omega) (show (100000 : Int) ≤ 9223372036854775807 by omega), decide_eq_true_eq]
def f39_e : Entry := { doms := [(false, (.sl (.pair (.int .i64) (.pair (.pair (.int .i64) (.int .i64)) (.pair (.pair (.int .i64) (.int .i64)) (.pair (.int .i64) (.int .i64)))))))], cods := [(false, (.int .i64)), (false, (.int .i64))], pre := fun _ => True, fn := f39, uq := false, total := true }
def f39_E : Env := [(61, f61_e), (83, f83_e), (101, f101_e), (102, f102_e)]
def f39_A : Anns := { loops := [(1100587466752, { tms := [(2, .keep), (26, .keep), (27, .keep), (28, .data false (.int .i64))], obs := [(1048576, .keep)], fz := [] })], own := [] }
theorem f39_run (a0 : List (Int × (Int × Int) × (Int × Int) × Int × Int)) (K : (Int × Int) → Prop) : runF Tryz.prog f39_E f39_A 6 Tryz.f39 f39_e.doms f39_e.cods a0 K =
    (br (lenOk (a0.length))
    (br (lenOk (a0.length))
    (br ((f61 ([(f83 ((decide (((a0.length) : Int) > 0)), 10)), (f83 ((decide (((a0.length) : Int) ≤ 12)), 8))] : List Int)) != 0)
    (K (0, (f61 ([(f83 ((decide (((a0.length) : Int) > 0)), 10)), (f83 ((decide (((a0.length) : Int) ≤ 12)), 8))] : List Int))))
    (br (lenOk (a0.length))
    (LoopP (V := Int × Unit) (fun again v => (fun (again1 : Int → Prop) (v1_0 : Int) =>
    br (decide (v1_0 < ((a0.length) : Int)))
    (br (decide (0 ≤ v1_0) && decide (v1_0 < ((a0.length) : Int)))
    (br (v1_0 == 0)
    (br ((f61 ([(f101 ((a0.getD v1_0.toNat (0, ((0, 0), ((0, 0), (0, 0))))).1)), (f102 ((((a0.getD v1_0.toNat (0, ((0, 0), ((0, 0), (0, 0))))).2).1), 100000)), (f102 (((((a0.getD v1_0.toNat (0, ((0, 0), ((0, 0), (0, 0))))).2).2).1), 100000)), (f102 (((((a0.getD v1_0.toNat (0, ((0, 0), ((0, 0), (0, 0))))).2).2).2), 100000)), (f83 (true, 9))] : List Int)) != 0)
    (K (v1_0, (f61 ([(f101 ((a0.getD v1_0.toNat (0, ((0, 0), ((0, 0), (0, 0))))).1)), (f102 ((((a0.getD v1_0.toNat (0, ((0, 0), ((0, 0), (0, 0))))).2).1), 100000)), (f102 (((((a0.getD v1_0.toNat (0, ((0, 0), ((0, 0), (0, 0))))).2).2).1), 100000)), (f102 (((((a0.getD v1_0.toNat (0, ((0, 0), ((0, 0), (0, 0))))).2).2).2), 100000)), (f83 (true, 9))] : List Int))))
    (again1 (IntKind.i64.wrap (v1_0 + 1))))
    (br (decide (0 ≤ (minmax true 0 (IntKind.i64.wrap (v1_0 - 1)))) && decide ((minmax true 0 (IntKind.i64.wrap (v1_0 - 1))) < ((a0.length) : Int)))
    (br ((f61 ([(f101 ((a0.getD v1_0.toNat (0, ((0, 0), ((0, 0), (0, 0))))).1)), (f102 ((((a0.getD v1_0.toNat (0, ((0, 0), ((0, 0), (0, 0))))).2).1), 100000)), (f102 (((((a0.getD v1_0.toNat (0, ((0, 0), ((0, 0), (0, 0))))).2).2).1), 100000)), (f102 (((((a0.getD v1_0.toNat (0, ((0, 0), ((0, 0), (0, 0))))).2).2).2), 100000)), (f83 ((decide ((a0.getD v1_0.toNat (0, ((0, 0), ((0, 0), (0, 0))))).1 > (a0.getD ((minmax true 0 (IntKind.i64.wrap (v1_0 - 1))).toNat) (0, ((0, 0), ((0, 0), (0, 0))))).1)), 9))] : List Int)) != 0)
    (K (v1_0, (f61 ([(f101 ((a0.getD v1_0.toNat (0, ((0, 0), ((0, 0), (0, 0))))).1)), (f102 ((((a0.getD v1_0.toNat (0, ((0, 0), ((0, 0), (0, 0))))).2).1), 100000)), (f102 (((((a0.getD v1_0.toNat (0, ((0, 0), ((0, 0), (0, 0))))).2).2).1), 100000)), (f102 (((((a0.getD v1_0.toNat (0, ((0, 0), ((0, 0), (0, 0))))).2).2).2), 100000)), (f83 ((decide ((a0.getD v1_0.toNat (0, ((0, 0), ((0, 0), (0, 0))))).1 > (a0.getD ((minmax true 0 (IntKind.i64.wrap (v1_0 - 1))).toNat) (0, ((0, 0), ((0, 0), (0, 0))))).1)), 9))] : List Int))))
    (again1 (IntKind.i64.wrap (v1_0 + 1))))
    False))
    False)
    (K (0, 0)))
    (fun v1_0 => again (v1_0, ())) v.1) (0, ()))
    True))
    True)
    True) := by kernel_rfl
theorem f39_t (a0 : List (Int × (Int × Int) × (Int × Int) × Int × Int)) (K : (Int × Int) → Prop) (hK : ∀ y : Int × Int, y = f39 a0 → K y) : RunF Tryz.prog f39_E f39_A 6 Tryz.f39 f39_e.doms f39_e.cods a0 K := by
  refine ⟨?_⟩
  rw [f39_run a0 K]
  rw [br_true_, lenOk_iff]
  intro hl
  refine br_weak ?_
  have e59 : ∀ l : List Int, f61 l = frst l := fun l => rfl
  have ec : f61 [f83 (decide ((a0.length : Int) > 0), 10), f83 (decide ((a0.length : Int) ≤ 12), 8)] = if a0.length = 0 then 10 else if a0.length > 12 then 8 else 0 := by
    rw [f61_cons, f61_cons, f61_nil]
    by_cases h0 : a0.length = 0
    · simp [f83, h0]
    · by_cases h1 : a0.length > 12
      · simp only [f83, if_neg h0, if_pos h1]
        rw [decide_eq_true (by omega), decide_eq_false (by omega)]; rfl
      · simp only [f83, if_neg h0, if_neg h1]
        rw [decide_eq_true (by omega), decide_eq_true (by omega)]; rfl
  rw [ec]
  have e0 : f39 a0 = pfOf a0 := rfl
  refine br_two (fun h => hK _ ?_) fun h => br_weak ?_
  · have h := bne_t.1 h
    rw [e0, pfOf]
    by_cases h0 : a0.length = 0
    · rw [if_pos h0, if_pos h0]
    · by_cases h1 : a0.length > 12
      · rw [if_neg h0, if_pos h1, if_neg h0, if_pos h1]
      · rw [if_neg h0, if_neg h1] at h; exact absurd rfl h
  have h := bne_f.1 h
  have h0 : ¬ a0.length = 0 := fun h0 => by rw [if_pos h0] at h; cases h
  have h1 : ¬ a0.length > 12 := fun h1 => by rw [if_neg h0, if_pos h1] at h; cases h
  refine each_loop (K := K) (n := a0.length) (e := lyE a0) (hK _ (by rw [e0, pfOf, if_neg h0, if_neg h1])) (fun again i hi hI good bad fin => ?_)
  dsimp only
  refine br_if (fun hlt => br_must (inb (by omega) hlt) ?_) fun hlt => fin (by omega)
  have hlt : i < a0.length := by omega
  rw [wr (n := (i : Int) + 1) (by omega) (by omega), wr (n := (i : Int) - 1) (by omega) (by omega), Int.toNat_natCast]
  have go : ∀ e : Int, e = lyE a0 i → br (e != 0) (K ((i : Int), e)) (again ((i : Int) + 1, ())) := fun e he => by
    subst he
    exact br_two (fun he => bad hlt (bne_t.1 he)) fun he => good hlt (bne_f.1 he)
  refine br_two (fun hz => go _ ?_) fun hz => br_must ?_ (go _ ?_)
  · have hz : i = 0 := by have := beq_iff_eq.1 hz; omega
    rw [e59, f102_w, f102_w, f102_w, lyE, ordE, if_pos (.inl hz)]
    rfl
  · have hz : i ≠ 0 := by have := beq_eq_false_iff_ne.1 hz; omega
    have e : minmax true 0 ((i : Int) - 1) = (i : Int) - 1 := by simp only [minmax]; split <;> omega
    rw [e]
    exact inb (by omega) (by omega)
  · have hz : i ≠ 0 := by have := beq_eq_false_iff_ne.1 hz; omega
    have e : minmax true 0 ((i : Int) - 1) = (i : Int) - 1 := by simp only [minmax]; split <;> omega
    rw [e, show ((i : Int) - 1).toNat = i - 1 by omega, e59, f102_w, f102_w, f102_w, lyE, ordE]
    by_cases ho : (a0.getD (i - 1) ly0).1 < (a0.getD i ly0).1
    · rw [if_pos (.inr ho), show decide ((a0.getD i (0, (0, 0), (0, 0), (0, 0))).1 > (a0.getD (i - 1) (0, (0, 0), (0, 0), (0, 0))).1) = true from decide_eq_true ho]
      rfl
    · rw [if_neg (fun hh => hh.elim hz ho), show decide ((a0.getD i (0, (0, 0), (0, 0), (0, 0))).1 > (a0.getD (i - 1) (0, (0, 0), (0, 0), (0, 0))).1) = false from decide_eq_false ho]
      rfl
theorem f39_fn : f39_e.fn = f39 := rfl
theorem f39_ok : EntryOK Tryz.prog 39 f39_e := by
  refine entryF progOK (EnvOK.cons f61_ok (EnvOK.cons f83_ok (EnvOK.cons f101_ok (EnvOK.cons f102_ok (EnvOK.nil))))) (A := f39_A) (d := 6) Tryz.func39 rfl rfl rfl rfl (fun _ _ => trivial) fun x hpre => ?_
  exact f39_t x _ fun _ h => h.trans (congrFun f39_fn.symm _)
end Go.Proofs.YtglijnhkdnhofaaGreat
end

section
namespace Go.Proofs.YtglijnhkdnhofaaGreat
open Go Go.Pi Go.RowKit
set_option maxRecDepth 100000
set_option linter.unusedVariables false
set_option linter.unusedSimpArgs false

def f40 (l : List (Int × (Int × Int) × (Int × Int) × Int × Int)) : List (Int × (Int × Int) × (Int × Int) × Int × Int) := l
def f40_pre (l : List (Int × (Int × Int) × (Int × Int) × Int × Int)) : Prop := l.length ≤ 1048576
def f40_e : Entry := { doms := [(false, (.sl (.pair (.int .i64) (.pair (.pair (.int .i64) (.int .i64)) (.pair (.pair (.int .i64) (.int .i64)) (.pair (.int .i64) (.int .i64)))))))], cods := [(false, (.sl (.pair (.int .i64) (.pair (.pair (.int .i64) (.int .i64)) (.pair (.pair (.int .i64) (.int .i64)) (.pair (.int .i64) (.int .i64)))))))], pre := f40_pre, fn := f40, uq := true, total := false }
def f40_E : Env := []
def f40_A : Anns := { loops := [], own := [1049600] }
theorem f40_run (a0 : List (Int × (Int × Int) × (Int × Int) × Int × Int)) (K : (List (Int × (Int × Int) × (Int × Int) × Int × Int)) → Prop) : runU Tryz.prog f40_E f40_A 6 Tryz.f40 f40_e.doms f40_e.cods a0 K =
    (br (roomOk (0 + (a0.length)) 56)
    (K (([] : List (Int × (Int × Int) × (Int × Int) × Int × Int)) ++ a0))
    False) := by kernel_rfl
theorem f40_t (a0 : List (Int × (Int × Int) × (Int × Int) × Int × Int)) (hpre : f40_pre a0) (K : (List (Int × (Int × Int) × (Int × Int) × Int × Int)) → Prop) (hK : ∀ y : List (Int × (Int × Int) × (Int × Int) × Int × Int), y = f40 a0 → K y) : RunU Tryz.prog f40_E f40_A 6 Tryz.f40 f40_e.doms f40_e.cods a0 K := by
  refine ⟨?_⟩
  rw [f40_run a0 K]
  simp only [br_false_, roomOk_iff]
  have : a0.length ≤ 1048576 := hpre
  exact ⟨by omega, hK _ (by simp [f40])⟩
theorem f40_fn : f40_e.fn = f40 := rfl
theorem f40_ok : EntryOK Tryz.prog 40 f40_e := by
  refine entryFU progOK (EnvOK.nil) (A := f40_A) (d := 6) Tryz.func40 rfl rfl rfl (fun h => by cases h) fun x hpre => ?_
  exact f40_t x hpre _ fun _ h => h.trans (congrFun f40_fn.symm _)
end Go.Proofs.YtglijnhkdnhofaaGreat
end

section
namespace Go.Proofs.YtglijnhkdnhofaaGreat
open Go Go.Pi Go.RowKit
set_option maxRecDepth 100000
set_option linter.unusedVariables false
set_option linter.unusedSimpArgs false

def f141 (x : (Int × Int) × (Int × Int) × Int × Int) : Int × Int := btw x.1 x.2.1 x.2.2.1 x.2.2.2
def f141_pre (x : (Int × Int) × (Int × Int) × Int × Int) : Prop := rOK x.1 ∧ rOK x.2.1 ∧ 0 ≤ x.2.2.1 ∧ x.2.2.1 ≤ x.2.2.2 ∧ 0 < x.2.2.2 ∧ x.2.2.2 ≤ 20000
def f141_e : Entry := { doms := [(true, (.pair (.int .i64) (.int .i64))), (true, (.pair (.int .i64) (.int .i64))), (false, (.int .i64)), (false, (.int .i64))], cods := [(true, (.pair (.int .i64) (.int .i64)))], pre := f141_pre, fn := f141, uq := false, total := false }
def f141_E : Env := [(70, f70_e), (71, f71_e)]
def f141_A : Anns := { loops := [], own := [] }
theorem f141_run (a0 : Int × Int) (a1 : Int × Int) (a2 : Int) (a3 : Int) (K : (Int × Int) → Prop) : runF Tryz.prog f141_E f141_A 6 Tryz.f141 f141_e.doms f141_e.cods (a0, a1, a2, a3) K =
    (f70_pre ((IntKind.i64.wrap ((IntKind.i64.wrap (a1.1 - a0.1)) * a2)), a3) ∧
    f71_pre ((IntKind.i64.wrap ((IntKind.i64.wrap (a1.2 - a0.2)) * a2)), a3) ∧
    K ((IntKind.i64.wrap (a0.1 + (f70 ((IntKind.i64.wrap ((IntKind.i64.wrap (a1.1 - a0.1)) * a2)), a3)))), (IntKind.i64.wrap (a0.2 + (f71 ((IntKind.i64.wrap ((IntKind.i64.wrap (a1.2 - a0.2)) * a2)), a3)))))) := by kernel_rfl
theorem f141_t (a0 : Int × Int) (a1 : Int × Int) (a2 : Int) (a3 : Int) (hpre : f141_pre (a0, a1, a2, a3)) (K : (Int × Int) → Prop) (hK : ∀ y : Int × Int, y = f141 (a0, a1, a2, a3) → K y) : RunF Tryz.prog f141_E f141_A 6 Tryz.f141 f141_e.doms f141_e.cods (a0, a1, a2, a3) K := by
  refine ⟨?_⟩
  rw [f141_run a0 a1 a2 a3 K]
  obtain ⟨ha, hb, h0, h1, h2, h3⟩ := hpre
  dsimp only at ha hb h0 h1 h2 h3
  obtain ⟨_, r1, r2, r3⟩ := btw_ok ha hb h0 h1 h2
  obtain ⟨p1, p2, p3⟩ := ha
  obtain ⟨q1, q2, q3⟩ := hb
  have m1 := mul_le (show -200000 ≤ a1.1 - a0.1 ∧ a1.1 - a0.1 ≤ 200000 by omega) (show -20000 ≤ a2 ∧ a2 ≤ 20000 by omega)
  have m2 := mul_le (show -200000 ≤ a1.2 - a0.2 ∧ a1.2 - a0.2 ≤ 200000 by omega) (show -20000 ≤ a2 ∧ a2 ≤ 20000 by omega)
  rw [wr (n := a1.1 - a0.1) (by omega) (by omega), wr (n := a1.2 - a0.2) (by omega) (by omega), wr (n := (a1.1 - a0.1) * a2) (by omega) (by omega), wr (n := (a1.2 - a0.2) * a2) (by omega) (by omega)]
  refine ⟨⟨⟨by dsimp only; omega, by dsimp only; omega⟩, h2⟩, ⟨⟨by dsimp only; omega, by dsimp only; omega⟩, h2⟩, hK _ ?_⟩
  have e1 : a0.1 + f70 ((a1.1 - a0.1) * a2, a3) = (btw a0 a1 a2 a3).1 := rfl
  have e2 : a0.2 + f71 ((a1.2 - a0.2) * a2, a3) = (btw a0 a1 a2 a3).2 := rfl
  rw [e1, e2, wr (by omega) (by omega), wr (by omega) (by omega)]
  rfl
theorem f141_fn : f141_e.fn = f141 := rfl
theorem f141_ok : EntryOK Tryz.prog 141 f141_e := by
  refine entryF progOK (EnvOK.cons f70_ok (EnvOK.cons f71_ok (EnvOK.nil))) (A := f141_A) (d := 6) Tryz.func141 rfl rfl rfl rfl (fun h => by cases h) fun x hpre => ?_
  obtain ⟨a0, a1, a2, a3⟩ := x
  exact f141_t a0 a1 a2 a3 hpre _ fun _ h => h.trans (congrFun f141_fn.symm _)
end Go.Proofs.YtglijnhkdnhofaaGreat
end
