/-
  No cell of these rows narrows 'for every input' (looked for: loops, veiled, ifaces, maps, wideKeys, modest, calm, conditions, laid).
  DERIVED. THE GIVEN ROWS OF THIS SEAT. 5 by the template 'for every input the law returns true; each argument reads behind the call as it read before'; 0 by the template 'total and deterministic' (their statements: YtglijnhkdnhofaaGreatTotals.lean).
  GIVEN WITH THE SEED: the statements are not yours to turn. If you find one false, say at which input.
  Laid BY PROGRAM, IN A SANDBOX (cutbox-rows.mjs): the forced cells as the released guide's own fill.sh prints them over the translation f4556d0429ef840b… (all of the seat's roots in one cut). By AI agents, Wed Nov 11 2026. No macro, syntax, notation, axiom, sorry.
-/
import Derived.Test.YtglijnhkdnhofaaGreatChecked
import GoSem.Claim
import GoSem.ClaimJoined
import GoSem.ClaimMapViews
import Derived.JoinedTies
import Derived.KernelRfl
namespace Go.Proofs.YtglijnhkdnhofaaGreat
/- THE CELL 'sum', in the pinned program and in every row, IS THE sha256 OF THE DUMP (.gsa) THAT YtglijnhkdnhofaaGreatProg.lean LOADS. Nothing in Lean hashes anything: it is a label: what it is worth is what the hold of that sum in a sandbox is worth. -/
noncomputable def Tryz.pinned : Pinned := { name := "ytglijnhkdnhofaagreat", sum := "f4556d0429ef840b9ba359a3e837f8386a383e94ed787cb521624f10ddac6296", checked := Tryz.checked }
namespace Rows
def none {H : Type} : Left H := { results := [], args := [] }

/-- 'glidepathlaw04.WindVertices': WHATEVER THE INPUT: true; the input reads as it did. -/
def windVerticesSpec : ChangeSpec := { name := "windVertices", fn := fun _ => fun
  | [d1, d2] => { results := [.lit (.bool true)], args := [d1, d2] }
  | _ => none }
def windVerticesRow : OpenClaim := { program := "ytglijnhkdnhofaagreat", sum := "f4556d0429ef840b9ba359a3e837f8386a383e94ed787cb521624f10ddac6296", func := "glidepath/glidepathlaw04.WindVertices", spec := "windVertices", unfollowed := true, recurses := true, plainKeys := false, apart := false }
def WindVerticesSaid : Prop := windVerticesRow.holds Tryz.pinned (OpenSpec.ofChange windVerticesSpec)

/-- ITS FALSE NEIGHBOUR: 'it returns false'. Refute it at one input. -/
def windVerticesWrong : ChangeSpec := { name := "windVertices", fn := fun _ => fun
  | [d1, d2] => { results := [.lit (.bool false)], args := [d1, d2] }
  | _ => none }
def WindVerticesWrongFalsely : Prop := windVerticesRow.holds Tryz.pinned (OpenSpec.ofChange windVerticesWrong)

/-- 'glidepathlaw04.WindContradictions': WHATEVER THE INPUT: true; the input reads as it did. -/
def windContradictionsSpec : ChangeSpec := { name := "windContradictions", fn := fun _ => fun
  | [d1, d2] => { results := [.lit (.bool true)], args := [d1, d2] }
  | _ => none }
def windContradictionsRow : OpenClaim := { program := "ytglijnhkdnhofaagreat", sum := "f4556d0429ef840b9ba359a3e837f8386a383e94ed787cb521624f10ddac6296", func := "glidepath/glidepathlaw04.WindContradictions", spec := "windContradictions", unfollowed := true, recurses := true, plainKeys := false, apart := false }
def WindContradictionsSaid : Prop := windContradictionsRow.holds Tryz.pinned (OpenSpec.ofChange windContradictionsSpec)

/-- ITS FALSE NEIGHBOUR: 'it returns false'. Refute it at one input. -/
def windContradictionsWrong : ChangeSpec := { name := "windContradictions", fn := fun _ => fun
  | [d1, d2] => { results := [.lit (.bool false)], args := [d1, d2] }
  | _ => none }
def WindContradictionsWrongFalsely : Prop := windContradictionsRow.holds Tryz.pinned (OpenSpec.ofChange windContradictionsWrong)

/-- 'glidepathlaw04.WindEvery': WHATEVER THE INPUT: true; the input reads as it did. -/
def windEverySpec : ChangeSpec := { name := "windEvery", fn := fun _ => fun
  | [d1, d2, d3] => { results := [.lit (.bool true)], args := [d1, d2, d3] }
  | _ => none }
def windEveryRow : OpenClaim := { program := "ytglijnhkdnhofaagreat", sum := "f4556d0429ef840b9ba359a3e837f8386a383e94ed787cb521624f10ddac6296", func := "glidepath/glidepathlaw04.WindEvery", spec := "windEvery", unfollowed := true, recurses := true, plainKeys := false, apart := false }
def WindEverySaid : Prop := windEveryRow.holds Tryz.pinned (OpenSpec.ofChange windEverySpec)

/-- ITS FALSE NEIGHBOUR: 'it returns false'. Refute it at one input. -/
def windEveryWrong : ChangeSpec := { name := "windEvery", fn := fun _ => fun
  | [d1, d2, d3] => { results := [.lit (.bool false)], args := [d1, d2, d3] }
  | _ => none }
def WindEveryWrongFalsely : Prop := windEveryRow.holds Tryz.pinned (OpenSpec.ofChange windEveryWrong)

/-- 'glidepathlaw04.WindProfiles': WHATEVER THE INPUT: true; the input reads as it did. -/
def windProfilesSpec : ChangeSpec := { name := "windProfiles", fn := fun _ => fun
  | [d1, d2, d3] => { results := [.lit (.bool true)], args := [d1, d2, d3] }
  | _ => none }
def windProfilesRow : OpenClaim := { program := "ytglijnhkdnhofaagreat", sum := "f4556d0429ef840b9ba359a3e837f8386a383e94ed787cb521624f10ddac6296", func := "glidepath/glidepathlaw04.WindProfiles", spec := "windProfiles", unfollowed := true, recurses := true, plainKeys := false, apart := false }
def WindProfilesSaid : Prop := windProfilesRow.holds Tryz.pinned (OpenSpec.ofChange windProfilesSpec)

/-- ITS FALSE NEIGHBOUR: 'it returns false'. Refute it at one input. -/
def windProfilesWrong : ChangeSpec := { name := "windProfiles", fn := fun _ => fun
  | [d1, d2, d3] => { results := [.lit (.bool false)], args := [d1, d2, d3] }
  | _ => none }
def WindProfilesWrongFalsely : Prop := windProfilesRow.holds Tryz.pinned (OpenSpec.ofChange windProfilesWrong)

/-- 'glidepathlaw04.WindFits': WHATEVER THE INPUT: true; the input reads as it did. -/
def windFitsSpec : ChangeSpec := { name := "windFits", fn := fun _ => fun
  | [d1, d2] => { results := [.lit (.bool true)], args := [d1, d2] }
  | _ => none }
def windFitsRow : OpenClaim := { program := "ytglijnhkdnhofaagreat", sum := "f4556d0429ef840b9ba359a3e837f8386a383e94ed787cb521624f10ddac6296", func := "glidepath/glidepathlaw04.WindFits", spec := "windFits", unfollowed := true, recurses := true, plainKeys := false, apart := false }
def WindFitsSaid : Prop := windFitsRow.holds Tryz.pinned (OpenSpec.ofChange windFitsSpec)

/-- ITS FALSE NEIGHBOUR: 'it returns false'. Refute it at one input. -/
def windFitsWrong : ChangeSpec := { name := "windFits", fn := fun _ => fun
  | [d1, d2] => { results := [.lit (.bool false)], args := [d1, d2] }
  | _ => none }
def WindFitsWrongFalsely : Prop := windFitsRow.holds Tryz.pinned (OpenSpec.ofChange windFitsWrong)

/- THE SECOND FORM. 'bulk': how many values and letters a reading holds, each counted each time it is reached (what is shared counts as often as it is met; a slice's spare places count too). A statement '..UptoSaid' is the law's where the arguments, and the package variables that the reading takes, are together of bulk at most 1048576: NARROWER than '..Said'. Prove '..Said' where nothing that the law and all that it calls make is longer than what came in: it says more and counts as full. Else prove '..UptoSaid'. A law counts once. -/
mutual
def uptoBulk {H : Type} : DataW H → Nat
  | .lit (.string bytes) => bytes.length + 1
  | .lit _ => 1
  | .nil => 1
  | .ptr d => uptoBulk d + 1
  | .slice elems spare => uptoBulkAll elems + uptoBulkAll spare + 1
  | .agg parts => uptoBulkAll parts + 1
  | .iface _ d => uptoBulk d + 1
  | .map entries => uptoBulkEntries entries + 1
  | .held _ => 1
def uptoBulkAll {H : Type} : List (DataW H) → Nat
  | [] => 0
  | d :: r => uptoBulk d + uptoBulkAll r
def uptoBulkEntries {H : Type} : List (Lit × DataW H) → Nat
  | [] => 0
  | x :: r => uptoBulkEntry x + uptoBulkEntries r
def uptoBulkEntry {H : Type} : Lit × DataW H → Nat
  | (.string bytes, d) => bytes.length + uptoBulk d + 1
  | (_, d) => uptoBulk d + 1
 end
def uptoSmall : (H : Type) → List (DataW H) → Bool := fun _ ds => decide (uptoBulkAll ds ≤ 1048576)
def OpenSpec.upto (s : _root_.Go.ChangeSpec) : _root_.Go.OpenSpec := { _root_.Go.OpenSpec.ofChange s with cond := some uptoSmall }

/-- 'glidepathlaw04.WindVertices', WHERE WHAT IT READS IS OF BULK AT MOST 1048576: true; the input reads as it did. -/
def windVerticesUptoRow : OpenClaim := { program := "ytglijnhkdnhofaagreat", sum := "f4556d0429ef840b9ba359a3e837f8386a383e94ed787cb521624f10ddac6296", func := "glidepath/glidepathlaw04.WindVertices", spec := "windVertices", unfollowed := true, recurses := true, plainKeys := false, apart := false, narrowed := true }
def WindVerticesUptoSaid : Prop := windVerticesUptoRow.holds Tryz.pinned (OpenSpec.upto windVerticesSpec)

/-- 'glidepathlaw04.WindContradictions', WHERE WHAT IT READS IS OF BULK AT MOST 1048576: true; the input reads as it did. -/
def windContradictionsUptoRow : OpenClaim := { program := "ytglijnhkdnhofaagreat", sum := "f4556d0429ef840b9ba359a3e837f8386a383e94ed787cb521624f10ddac6296", func := "glidepath/glidepathlaw04.WindContradictions", spec := "windContradictions", unfollowed := true, recurses := true, plainKeys := false, apart := false, narrowed := true }
def WindContradictionsUptoSaid : Prop := windContradictionsUptoRow.holds Tryz.pinned (OpenSpec.upto windContradictionsSpec)

/-- 'glidepathlaw04.WindEvery', WHERE WHAT IT READS IS OF BULK AT MOST 1048576: true; the input reads as it did. -/
def windEveryUptoRow : OpenClaim := { program := "ytglijnhkdnhofaagreat", sum := "f4556d0429ef840b9ba359a3e837f8386a383e94ed787cb521624f10ddac6296", func := "glidepath/glidepathlaw04.WindEvery", spec := "windEvery", unfollowed := true, recurses := true, plainKeys := false, apart := false, narrowed := true }
def WindEveryUptoSaid : Prop := windEveryUptoRow.holds Tryz.pinned (OpenSpec.upto windEverySpec)

/-- 'glidepathlaw04.WindProfiles', WHERE WHAT IT READS IS OF BULK AT MOST 1048576: true; the input reads as it did. -/
def windProfilesUptoRow : OpenClaim := { program := "ytglijnhkdnhofaagreat", sum := "f4556d0429ef840b9ba359a3e837f8386a383e94ed787cb521624f10ddac6296", func := "glidepath/glidepathlaw04.WindProfiles", spec := "windProfiles", unfollowed := true, recurses := true, plainKeys := false, apart := false, narrowed := true }
def WindProfilesUptoSaid : Prop := windProfilesUptoRow.holds Tryz.pinned (OpenSpec.upto windProfilesSpec)

/-- 'glidepathlaw04.WindFits', WHERE WHAT IT READS IS OF BULK AT MOST 1048576: true; the input reads as it did. -/
def windFitsUptoRow : OpenClaim := { program := "ytglijnhkdnhofaagreat", sum := "f4556d0429ef840b9ba359a3e837f8386a383e94ed787cb521624f10ddac6296", func := "glidepath/glidepathlaw04.WindFits", spec := "windFits", unfollowed := true, recurses := true, plainKeys := false, apart := false, narrowed := true }
def WindFitsUptoSaid : Prop := windFitsUptoRow.holds Tryz.pinned (OpenSpec.upto windFitsSpec)

end Rows
end Go.Proofs.YtglijnhkdnhofaaGreat
