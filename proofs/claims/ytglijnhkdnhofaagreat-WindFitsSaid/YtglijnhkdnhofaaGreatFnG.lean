/- What functions of the program compute, each proved once, part 7. -/
import Derived.Test.YtglijnhkdnhofaaGreatPiD
import Derived.Test.YtglijnhkdnhofaaGreatFnA
import Derived.Test.YtglijnhkdnhofaaGreatFnF
import Derived.Test.YtglijnhkdnhofaaGreatFnC

section
namespace Go.Proofs.YtglijnhkdnhofaaGreat
open Go Go.Pi Go.RowKit
set_option maxRecDepth 100000
set_option linter.unusedVariables false
set_option linter.unusedSimpArgs false

def f80 (l : List Int) : List Int := l
def f80_pre (l : List Int) : Prop := 0 < l.length ∧ l.length ≤ 1073741824
def f80_e : Entry := { doms := [(false, (.sl (.int .i64)))], cods := [(false, (.sl (.int .i64)))], pre := f80_pre, fn := f80, uq := true, total := false }
def f80_E : Env := []
def f80_A : Anns := { loops := [], own := [1051648] }
theorem f80_run (a0 : List Int) (K : (List Int) → Prop) : runU Tryz.prog f80_E f80_A 6 Tryz.f80 f80_e.doms f80_e.cods a0 K =
    (br (decide (0 < (a0.length)))
    (br (roomOk (0 + (a0.length)) 8)
    (K (([] : List Int) ++ a0))
    False)
    False) := by kernel_rfl
theorem f80_t (a0 : List Int) (hpre : f80_pre a0) (K : (List Int) → Prop) (hK : ∀ y : List Int, y = f80 a0 → K y) : RunU Tryz.prog f80_E f80_A 6 Tryz.f80 f80_e.doms f80_e.cods a0 K := by
  refine ⟨?_⟩
  rw [f80_run a0 K]
  simp only [br_false_, decide_eq_true_eq, roomOk_iff]
  exact ⟨hpre.1, by have := hpre.2; omega, hK _ (by simp [f80])⟩
theorem f80_fn : f80_e.fn = f80 := rfl
theorem f80_ok : EntryOK Tryz.prog 80 f80_e := by
  refine entryFU progOK (EnvOK.nil) (A := f80_A) (d := 6) Tryz.func80 rfl rfl rfl (fun h => by cases h) fun x hpre => ?_
  exact f80_t x hpre _ fun _ h => h.trans (congrFun f80_fn.symm _)
end Go.Proofs.YtglijnhkdnhofaaGreat
end

section
namespace Go.Proofs.YtglijnhkdnhofaaGreat
open Go Go.Pi Go.RowKit
set_option maxRecDepth 100000
set_option linter.unusedVariables false
set_option linter.unusedSimpArgs false

def f81 (x : Int × Int) : Bool := !(decide (x.1 ≤ 0 ∧ 0 ≤ x.2))
def f81_e : Entry := { doms := [(true, (.pair (.int .i64) (.int .i64)))], cods := [(false, .bool)], pre := fun _ => True, fn := f81, uq := false, total := true }
def f81_E : Env := [(84, f84_e)]
def f81_A : Anns := { loops := [], own := [] }
theorem f81_run (a0 : Int × Int) (K : Bool → Prop) : runF Tryz.prog f81_E f81_A 6 Tryz.f81 f81_e.doms f81_e.cods a0 K =
    (K (!(f84 (0, a0)))) := by kernel_rfl
theorem f81_t (a0 : Int × Int) (K : Bool → Prop) (hK : ∀ y : Bool, y = f81 a0 → K y) : RunF Tryz.prog f81_E f81_A 6 Tryz.f81 f81_e.doms f81_e.cods a0 K := by
  refine ⟨?_⟩
  rw [f81_run a0 K]
  exact hK _ (by rw [f81, ← f84_eq])
theorem f81_fn : f81_e.fn = f81 := rfl
theorem f81_ok : EntryOK Tryz.prog 81 f81_e := by
  refine entryF progOK (EnvOK.cons f84_ok (EnvOK.nil)) (A := f81_A) (d := 6) Tryz.func81 rfl rfl rfl rfl (fun _ _ => trivial) fun x hpre => ?_
  exact f81_t x _ fun _ h => h.trans (congrFun f81_fn.symm _)
end Go.Proofs.YtglijnhkdnhofaaGreat
end

section
namespace Go.Proofs.YtglijnhkdnhofaaGreat
open Go Go.Pi Go.RowKit
set_option maxRecDepth 100000
set_option linter.unusedVariables false
set_option linter.unusedSimpArgs false

def f104 (x : (Int × Int) × Int × Int) : Int × Int := (w64 (x.1.1 - x.2.2), w64 (x.1.2 - x.2.1))
def f104_e : Entry := { doms := [(true, (.pair (.int .i64) (.int .i64))), (true, (.pair (.int .i64) (.int .i64)))], cods := [(true, (.pair (.int .i64) (.int .i64)))], pre := fun _ => True, fn := f104, uq := false, total := true }
def f104_E : Env := []
def f104_A : Anns := { loops := [], own := [] }
theorem f104_run (a0 : Int × Int) (a1 : Int × Int) (K : (Int × Int) → Prop) : runF Tryz.prog f104_E f104_A 6 Tryz.f104 f104_e.doms f104_e.cods (a0, a1) K =
    (K ((IntKind.i64.wrap (a0.1 - a1.2)), (IntKind.i64.wrap (a0.2 - a1.1)))) := by kernel_rfl
theorem f104_t (a0 : Int × Int) (a1 : Int × Int) (K : (Int × Int) → Prop) (hK : ∀ y : Int × Int, y = f104 (a0, a1) → K y) : RunF Tryz.prog f104_E f104_A 6 Tryz.f104 f104_e.doms f104_e.cods (a0, a1) K := by
  refine ⟨?_⟩
  rw [f104_run a0 a1 K]
  exact hK _ rfl
theorem f104_fn : f104_e.fn = f104 := rfl
theorem f104_ok : EntryOK Tryz.prog 104 f104_e := by
  refine entryF progOK (EnvOK.nil) (A := f104_A) (d := 6) Tryz.func104 rfl rfl rfl rfl (fun _ _ => trivial) fun x hpre => ?_
  obtain ⟨a0, a1⟩ := x
  exact f104_t a0 a1 _ fun _ h => h.trans (congrFun f104_fn.symm _)
end Go.Proofs.YtglijnhkdnhofaaGreat
end

section
namespace Go.Proofs.YtglijnhkdnhofaaGreat
open Go Go.Pi Go.RowKit
set_option maxRecDepth 100000
set_option linter.unusedVariables false
set_option linter.unusedSimpArgs false

def f153 (l : List Int) : List Int := l
def f153_e : Entry := { doms := [(false, (.sl (.int .i64)))], cods := [(false, (.sl (.int .i64)))], pre := fun _ => True, fn := f153, uq := false, total := true, ex := true }
def f153_E : Env := []
def f153_A : Anns := { loops := [], own := [] }
theorem f153_run (a0 : List Int) (K : (List Int) → Prop) : runX Tryz.prog f153_E f153_A 6 Tryz.f153 f153_e.doms f153_e.cods a0 K =
    (br (lenOk (a0.length))
    (br (lenOk (a0.length))
    (br (decide (((a0.length) : Int) = ((a0.length) : Int) ∧ ((a0.length) : Int) = ((a0.length) : Int)))
    (K a0)
    False)
    True)
    True) := by kernel_rfl
theorem f153_t (a0 : List Int) (K : (List Int) → Prop) (hK : ∀ y : List Int, y = f153 a0 → K y) : RunX Tryz.prog f153_E f153_A 6 Tryz.f153 f153_e.doms f153_e.cods a0 K := by
  refine ⟨?_⟩
  rw [f153_run a0 K]
  simp only [br_true_, br_false_, decide_eq_true_eq, and_self, true_and]
  exact fun _ _ => hK _ rfl
theorem f153_fn : f153_e.fn = f153 := rfl
theorem f153_ok : EntryOK Tryz.prog 153 f153_e := by
  refine entryFX progOK (EnvOK.nil) (A := f153_A) (d := 6) Tryz.func153 rfl rfl rfl (fun _ _ => trivial) fun x hpre => ?_
  exact f153_t x _ fun _ h => h.trans (congrFun f153_fn.symm _)
end Go.Proofs.YtglijnhkdnhofaaGreat
end

section
namespace Go.Proofs.YtglijnhkdnhofaaGreat
open Go Go.Pi Go.RowKit
set_option maxRecDepth 100000
set_option linter.unusedVariables false
set_option linter.unusedSimpArgs false

def f8 (x : Unit) : Bool := true
def f8_e : Entry := { doms := [], cods := [(false, .bool)], pre := fun _ => True, fn := f8, uq := false, total := true }
def f8_E : Env := [(13, f13_e), (61, f61_e), (62, f62_e), (66, f66_e), (80, f80_e), (81, f81_e), (83, f83_e), (84, f84_e), (85, f85_e), (102, f102_e), (104, f104_e), (109, f109_e), (120, f120_e), (126, f126_e), (131, f131_e), (153, f153_e)]
def f8_A : Anns := { loops := [], own := [1103811846147, 1213653950705090575744901, 1213653950705090576793477, 1270133738586390175700409653250, 1270133738586390175700410701826, 1270133738586390175700411750402, 1272608405014541055552417431552, 1272608405014541056651929059328, 1858111783062446996555748519763778508954189687778601277533845279379720316665857, 1858111783062446996555748519763778508954189687778601277533846432301224923512833, 1858111783062446996555748519763778508954189687778601277533847585222729530359809, 1858111783062446996555748519763778508954191017006597062449718183186780597010433, 1858111783062446996555748519763778508954191017006597062449719336108285203857409, 1858111783062446996555748519763778508954192346234592847365591086993840877355009, 2142257032656067635663423810069026774678602824566640864121790407837164626347716227256486379667457, 2142257032656067635663423810069026774678602824566640864121790407837164626347717380177990986514433, 2142257032656067635663423810069026774678602824566640864121791737065160411263589131063546660012033, 2246319310274368777133410285066939819285390635372790010737371892484837643401129236694089502567703784470, 2469854201344432815316866509648011185825511134594763229284480287542273498695055431954062737926450107300185659948044, 3133957766247915106377363406856614870626474784746138539168580983768389974020093491150369295328272893278143962127312016309104898684621663414271878, 3133957766247915109085048655021473131933519886448368718305726565190085848210014956594335416232204165778118968088385823044838503139117339029553030], unroll := 100 }
theorem f8_run (K : Bool → Prop) : runF Tryz.prog f8_E f8_A 60 Tryz.f8 f8_e.doms f8_e.cods () K =
    (f126_pre ([4, 20, 0, 4] : List Int) ∧
    f80_pre ([0, 1] : List Int) ∧
    f80_pre ([0, 2] : List Int) ∧
    f80_pre ([0, 3] : List Int) ∧
    f80_pre ([1, 2] : List Int) ∧
    f80_pre ([1, 3] : List Int) ∧
    f80_pre ([2, 3] : List Int) ∧
    f80_pre ([0, 1, 2] : List Int) ∧
    f80_pre ([0, 1, 3] : List Int) ∧
    f126_pre ([1, 1, (-1)] : List Int) ∧
    f80_pre ([0, 2, 3] : List Int) ∧
    f126_pre ([(-1), 1, 0] : List Int) ∧
    f126_pre ([0, 0, 1] : List Int) ∧
    f126_pre ([13, 2] : List Int) ∧
    f126_pre ([13, 2] : List Int) ∧
    K true) := by kernel_rfl
theorem f8_t (K : Bool → Prop) (hK : ∀ y : Bool, y = f8 () → K y) : RunF Tryz.prog f8_E f8_A 60 Tryz.f8 f8_e.doms f8_e.cods () K := by
  refine ⟨?_⟩
  rw [f8_run K]
  refine ⟨(by delta f126_pre; decide +kernel), (by delta f80_pre; decide +kernel), (by delta f80_pre; decide +kernel), (by delta f80_pre; decide +kernel), (by delta f80_pre; decide +kernel), (by delta f80_pre; decide +kernel), (by delta f80_pre; decide +kernel), (by delta f80_pre; decide +kernel), (by delta f80_pre; decide +kernel), (by delta f126_pre; decide +kernel), (by delta f80_pre; decide +kernel), (by delta f126_pre; decide +kernel), (by delta f126_pre; decide +kernel), (by delta f126_pre; decide +kernel), (by delta f126_pre; decide +kernel), hK _ rfl⟩
theorem f8_fn : f8_e.fn = f8 := rfl
theorem f8_ok : EntryOK Tryz.prog 8 f8_e := by
  refine entryF progOK (EnvOK.cons f13_ok (EnvOK.cons f61_ok (EnvOK.cons f62_ok (EnvOK.cons f66_ok (EnvOK.cons f80_ok (EnvOK.cons f81_ok (EnvOK.cons f83_ok (EnvOK.cons f84_ok (EnvOK.cons f85_ok (EnvOK.cons f102_ok (EnvOK.cons f104_ok (EnvOK.cons f109_ok (EnvOK.cons f120_ok (EnvOK.cons f126_ok (EnvOK.cons f131_ok (EnvOK.cons f153_ok (EnvOK.nil))))))))))))))))) (A := f8_A) (d := 60) Tryz.func8 rfl rfl rfl rfl (fun _ _ => trivial) fun x hpre => ?_
  exact f8_t _ fun _ h => h.trans (congrFun f8_fn.symm _)
end Go.Proofs.YtglijnhkdnhofaaGreat
end

section
namespace Go.Proofs.YtglijnhkdnhofaaGreat
open Go Go.Pi Go.RowKit
set_option maxRecDepth 100000
set_option linter.unusedVariables false
set_option linter.unusedSimpArgs false

def f9 (l : List ((Int × Int × Int) × Int × Int)) : Bool := decide (l.length ≤ 8)
def f9_e : Entry := { doms := [(false, (.sl (.pair (.pair (.int .i64) (.pair (.int .i64) (.int .i64))) (.pair (.int .i64) (.int .i64)))))], cods := [(false, .bool)], pre := fun _ => True, fn := f9, uq := false, total := true }
def f9_E : Env := []
def f9_A : Anns := { loops := [], own := [] }
theorem f9_run (a0 : List ((Int × Int × Int) × Int × Int)) (K : Bool → Prop) : runF Tryz.prog f9_E f9_A 6 Tryz.f9 f9_e.doms f9_e.cods a0 K =
    (br (lenOk (a0.length))
    (K (decide (((a0.length) : Int) ≤ 8)))
    True) := by kernel_rfl
theorem f9_t (a0 : List ((Int × Int × Int) × Int × Int)) (K : Bool → Prop) (hK : ∀ y : Bool, y = f9 a0 → K y) : RunF Tryz.prog f9_E f9_A 6 Tryz.f9 f9_e.doms f9_e.cods a0 K := by
  refine ⟨?_⟩
  rw [f9_run a0 K]
  rw [br_true_]
  intro _
  refine hK _ ?_
  show _ = decide (a0.length ≤ 8)
  rw [Bool.eq_iff_iff, decide_eq_true_iff, decide_eq_true_iff]
  omega
theorem f9_fn : f9_e.fn = f9 := rfl
theorem f9_ok : EntryOK Tryz.prog 9 f9_e := by
  refine entryF progOK (EnvOK.nil) (A := f9_A) (d := 6) Tryz.func9 rfl rfl rfl rfl (fun _ _ => trivial) fun x hpre => ?_
  exact f9_t x _ fun _ h => h.trans (congrFun f9_fn.symm _)
end Go.Proofs.YtglijnhkdnhofaaGreat
end
