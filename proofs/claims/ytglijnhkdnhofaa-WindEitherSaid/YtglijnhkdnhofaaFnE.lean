/- What functions of the program compute, each proved once, part 5. -/
import Derived.Test.YtglijnhkdnhofaaFnD
import Derived.Test.YtglijnhkdnhofaaFnA

namespace Go.Proofs.Ytglijnhkdnhofaa
open Go Go.Pi Go.RowKit
set_option maxRecDepth 100000
set_option linter.unusedVariables false
set_option linter.unusedSimpArgs false

def f10 (x : Unit) : Bool := true
def f10_e : Entry := { doms := [], cods := [(false, .bool)], pre := fun _ => True, fn := f10, uq := false, total := true }
def f10_E : Env := [(53, f53_e), (58, f58_e), (59, f59_e), (60, f60_e), (61, f61_e), (62, f62_e), (69, f69_e), (70, f70_e), (76, f76_e), (92, f92_e), (93, f93_e), (97, f97_e), (103, f103_e), (104, f104_e), (109, f109_e), (133, f133_e)]
def f10_A : Anns := { loops := [], own := [1103811846147, 1213653950705090575744901, 1213653950705090576793477, 1270133738586390175700409653250, 1270133738586390175700410701826, 1270133738586390175700411750402, 1272608405014541055552417431552, 1272608405014541056651929059328, 1858111783062446996555748519763778508954189687778601277533845279379720316665857, 1858111783062446996555748519763778508954189687778601277533846432301224923512833, 1858111783062446996555748519763778508954189687778601277533847585222729530359809, 1858111783062446996555748519763778508954191017006597062449718183186780597010433, 1858111783062446996555748519763778508954191017006597062449719336108285203857409, 1858111783062446996555748519763778508954192346234592847365591086993840877355009, 2142257032656067635663423810069026774678602824566640864121790407837164626347716227256486379667457, 2142257032656067635663423810069026774678602824566640864121790407837164626347717380177990986514433, 2142257032656067635663423810069026774678602824566640864121791737065160411263589131063546660012033, 2246319310274368777133410285066939819285390635372790010737371892484837643401129236694089502567703784470, 2469854201344432815316866509648011185825511134594763229284480287542273498695055431954062737926450107300185659948044, 3133957766247915106377363406856614870626474784746138539168580983768389974020093491150369295328272893278143962127312016309104898684621663414271878, 3133957766247915109085048655021473131933519886448368718305726565190085848210014956594335416232204165778118968088385823044838503139117339029553030], unroll := 100 }
theorem f10_run (K : Bool → Prop) : runF Try.prog f10_E f10_A 60 Try.f10 f10_e.doms f10_e.cods () K =
    (f109_pre ([4, 20, 0, 4] : List Int) ∧
    f92_pre ([0, 1] : List Int) ∧
    f92_pre ([0, 2] : List Int) ∧
    f92_pre ([0, 3] : List Int) ∧
    f92_pre ([1, 2] : List Int) ∧
    f92_pre ([1, 3] : List Int) ∧
    f92_pre ([2, 3] : List Int) ∧
    f92_pre ([0, 1, 2] : List Int) ∧
    f92_pre ([0, 1, 3] : List Int) ∧
    f109_pre ([1, 1, (-1)] : List Int) ∧
    f92_pre ([0, 2, 3] : List Int) ∧
    f109_pre ([(-1), 1, 0] : List Int) ∧
    f109_pre ([0, 0, 1] : List Int) ∧
    f109_pre ([13, 2] : List Int) ∧
    f109_pre ([13, 2] : List Int) ∧
    K true) := by kernel_rfl
theorem f10_t (K : Bool → Prop) (hK : ∀ y : Bool, y = f10 () → K y) : RunF Try.prog f10_E f10_A 60 Try.f10 f10_e.doms f10_e.cods () K := by
  refine ⟨?_⟩
  rw [f10_run K]
  refine ⟨(by delta f109_pre; decide +kernel), (by delta f92_pre; decide +kernel), (by delta f92_pre; decide +kernel), (by delta f92_pre; decide +kernel), (by delta f92_pre; decide +kernel), (by delta f92_pre; decide +kernel), (by delta f92_pre; decide +kernel), (by delta f92_pre; decide +kernel), (by delta f92_pre; decide +kernel), (by delta f109_pre; decide +kernel), (by delta f92_pre; decide +kernel), (by delta f109_pre; decide +kernel), (by delta f109_pre; decide +kernel), (by delta f109_pre; decide +kernel), (by delta f109_pre; decide +kernel), hK _ rfl⟩
theorem f10_fn : f10_e.fn = f10 := rfl
theorem f10_ok : EntryOK Try.prog 10 f10_e := by
  refine entryF progOK (EnvOK.cons f53_ok (EnvOK.cons f58_ok (EnvOK.cons f59_ok (EnvOK.cons f60_ok (EnvOK.cons f61_ok (EnvOK.cons f62_ok (EnvOK.cons f69_ok (EnvOK.cons f70_ok (EnvOK.cons f76_ok (EnvOK.cons f92_ok (EnvOK.cons f93_ok (EnvOK.cons f97_ok (EnvOK.cons f103_ok (EnvOK.cons f104_ok (EnvOK.cons f109_ok (EnvOK.cons f133_ok (EnvOK.nil))))))))))))))))) (A := f10_A) (d := 60) Try.func10 rfl rfl rfl rfl (fun _ _ => trivial) fun x hpre => ?_
  exact f10_t _ fun _ h => h.trans (congrFun f10_fn.symm _)
end Go.Proofs.Ytglijnhkdnhofaa
