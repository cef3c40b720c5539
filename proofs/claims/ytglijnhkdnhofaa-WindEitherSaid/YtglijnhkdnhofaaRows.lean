/-
  No cell of these rows narrows 'for every input' (looked for: loops, veiled, ifaces, maps, wideKeys, modest, calm, conditions, laid).
  DERIVED. THE GIVEN ROWS OF THIS SEAT. 7 by the template 'for every input the law returns true; each argument reads behind the call as it read before'; 0 by the template 'total and deterministic' (their statements: YtglijnhkdnhofaaTotals.lean).
  GIVEN WITH THE SEED: the statements are not yours to turn. If you find one false, say at which input.
  Laid BY PROGRAM, IN A SANDBOX (cutbox-rows.mjs): the forced cells as the released guide's own fill.sh prints them over the translation 1b430a571a05e5ac… (all of the seat's roots in one cut). By AI agents, Wed Nov 11 2026. No macro, syntax, notation, axiom, sorry.
-/
import Derived.Test.YtglijnhkdnhofaaChecked
import GoSem.Claim
import GoSem.ClaimJoined
import GoSem.ClaimMapViews
import Derived.JoinedTies
import Derived.KernelRfl
namespace Go.Proofs.Ytglijnhkdnhofaa
/- THE CELL 'sum', in the pinned program and in every row, IS THE sha256 OF THE DUMP (.gsa) THAT YtglijnhkdnhofaaProg.lean LOADS. Nothing in Lean hashes anything: it is a label: what it is worth is what the hold of that sum in a sandbox is worth. -/
noncomputable def Try.pinned : Pinned := { name := "ytglijnhkdnhofaa", sum := "1b430a571a05e5ac85672837994515d008a4292b62e178126402cea64b1b98fa", checked := Try.checked }
namespace Rows
def none {H : Type} : Left H := { results := [], args := [] }

/-- 'glidepathlaw04.WindStructures': WHATEVER THE INPUT: true; the input reads as it did. -/
def windStructuresSpec : ChangeSpec := { name := "windStructures", fn := fun _ => fun
  | [d1, d2, d3] => { results := [.lit (.bool true)], args := [d1, d2, d3] }
  | _ => none }
def windStructuresRow : OpenClaim := { program := "ytglijnhkdnhofaa", sum := "1b430a571a05e5ac85672837994515d008a4292b62e178126402cea64b1b98fa", func := "glidepath/glidepathlaw04.WindStructures", spec := "windStructures", unfollowed := true, recurses := true, plainKeys := false, apart := false }
def WindStructuresSaid : Prop := windStructuresRow.holds Try.pinned (OpenSpec.ofChange windStructuresSpec)

/-- ITS FALSE NEIGHBOUR: 'it returns false'. Refute it at one input. -/
def windStructuresWrong : ChangeSpec := { name := "windStructures", fn := fun _ => fun
  | [d1, d2, d3] => { results := [.lit (.bool false)], args := [d1, d2, d3] }
  | _ => none }
def WindStructuresWrongFalsely : Prop := windStructuresRow.holds Try.pinned (OpenSpec.ofChange windStructuresWrong)

/-- 'glidepathlaw04.WindReadings': WHATEVER THE INPUT: true; the input reads as it did. -/
def windReadingsSpec : ChangeSpec := { name := "windReadings", fn := fun _ => fun
  | [d] => { results := [.lit (.bool true)], args := [d] }
  | _ => none }
def windReadingsRow : OpenClaim := { program := "ytglijnhkdnhofaa", sum := "1b430a571a05e5ac85672837994515d008a4292b62e178126402cea64b1b98fa", func := "glidepath/glidepathlaw04.WindReadings", spec := "windReadings", unfollowed := true, recurses := true, plainKeys := false, apart := false }
def WindReadingsSaid : Prop := windReadingsRow.holds Try.pinned (OpenSpec.ofChange windReadingsSpec)

/-- ITS FALSE NEIGHBOUR: 'it returns false'. Refute it at one input. -/
def windReadingsWrong : ChangeSpec := { name := "windReadings", fn := fun _ => fun
  | [d] => { results := [.lit (.bool false)], args := [d] }
  | _ => none }
def WindReadingsWrongFalsely : Prop := windReadingsRow.holds Try.pinned (OpenSpec.ofChange windReadingsWrong)

/-- 'glidepathlaw04.WindHas': WHATEVER THE INPUT: true; the input reads as it did. -/
def windHasSpec : ChangeSpec := { name := "windHas", fn := fun _ => fun
  | [d1, d2] => { results := [.lit (.bool true)], args := [d1, d2] }
  | _ => none }
def windHasRow : OpenClaim := { program := "ytglijnhkdnhofaa", sum := "1b430a571a05e5ac85672837994515d008a4292b62e178126402cea64b1b98fa", func := "glidepath/glidepathlaw04.WindHas", spec := "windHas", unfollowed := true, recurses := true, plainKeys := false, apart := false }
def WindHasSaid : Prop := windHasRow.holds Try.pinned (OpenSpec.ofChange windHasSpec)

/-- ITS FALSE NEIGHBOUR: 'it returns false'. Refute it at one input. -/
def windHasWrong : ChangeSpec := { name := "windHas", fn := fun _ => fun
  | [d1, d2] => { results := [.lit (.bool false)], args := [d1, d2] }
  | _ => none }
def WindHasWrongFalsely : Prop := windHasRow.holds Try.pinned (OpenSpec.ofChange windHasWrong)

/-- 'glidepathlaw04.WindUndecided': WHATEVER THE INPUT: true; the input reads as it did. -/
def windUndecidedSpec : ChangeSpec := { name := "windUndecided", fn := fun _ => fun
  | [d1, d2, d3] => { results := [.lit (.bool true)], args := [d1, d2, d3] }
  | _ => none }
def windUndecidedRow : OpenClaim := { program := "ytglijnhkdnhofaa", sum := "1b430a571a05e5ac85672837994515d008a4292b62e178126402cea64b1b98fa", func := "glidepath/glidepathlaw04.WindUndecided", spec := "windUndecided", unfollowed := true, recurses := true, plainKeys := false, apart := false }
def WindUndecidedSaid : Prop := windUndecidedRow.holds Try.pinned (OpenSpec.ofChange windUndecidedSpec)

/-- ITS FALSE NEIGHBOUR: 'it returns false'. Refute it at one input. -/
def windUndecidedWrong : ChangeSpec := { name := "windUndecided", fn := fun _ => fun
  | [d1, d2, d3] => { results := [.lit (.bool false)], args := [d1, d2, d3] }
  | _ => none }
def WindUndecidedWrongFalsely : Prop := windUndecidedRow.holds Try.pinned (OpenSpec.ofChange windUndecidedWrong)

/-- 'glidepathlaw04.WindBetween': WHATEVER THE INPUT: true; the input reads as it did. -/
def windBetweenSpec : ChangeSpec := { name := "windBetween", fn := fun _ => fun
  | [d1, d2] => { results := [.lit (.bool true)], args := [d1, d2] }
  | _ => none }
def windBetweenRow : OpenClaim := { program := "ytglijnhkdnhofaa", sum := "1b430a571a05e5ac85672837994515d008a4292b62e178126402cea64b1b98fa", func := "glidepath/glidepathlaw04.WindBetween", spec := "windBetween", unfollowed := true, recurses := true, plainKeys := false, apart := false }
def WindBetweenSaid : Prop := windBetweenRow.holds Try.pinned (OpenSpec.ofChange windBetweenSpec)

/-- ITS FALSE NEIGHBOUR: 'it returns false'. Refute it at one input. -/
def windBetweenWrong : ChangeSpec := { name := "windBetween", fn := fun _ => fun
  | [d1, d2] => { results := [.lit (.bool false)], args := [d1, d2] }
  | _ => none }
def WindBetweenWrongFalsely : Prop := windBetweenRow.holds Try.pinned (OpenSpec.ofChange windBetweenWrong)

/-- 'glidepathlaw04.WindEither': WHATEVER THE INPUT: true; the input reads as it did. -/
def windEitherSpec : ChangeSpec := { name := "windEither", fn := fun _ => fun
  | [d1, d2] => { results := [.lit (.bool true)], args := [d1, d2] }
  | _ => none }
def windEitherRow : OpenClaim := { program := "ytglijnhkdnhofaa", sum := "1b430a571a05e5ac85672837994515d008a4292b62e178126402cea64b1b98fa", func := "glidepath/glidepathlaw04.WindEither", spec := "windEither", unfollowed := true, recurses := true, plainKeys := false, apart := false }
def WindEitherSaid : Prop := windEitherRow.holds Try.pinned (OpenSpec.ofChange windEitherSpec)

/-- ITS FALSE NEIGHBOUR: 'it returns false'. Refute it at one input. -/
def windEitherWrong : ChangeSpec := { name := "windEither", fn := fun _ => fun
  | [d1, d2] => { results := [.lit (.bool false)], args := [d1, d2] }
  | _ => none }
def WindEitherWrongFalsely : Prop := windEitherRow.holds Try.pinned (OpenSpec.ofChange windEitherWrong)

/-- 'glidepathlaw04.WindEquations': WHATEVER THE INPUT: true; the input reads as it did. -/
def windEquationsSpec : ChangeSpec := { name := "windEquations", fn := fun _ => fun
  | [d1, d2, d3] => { results := [.lit (.bool true)], args := [d1, d2, d3] }
  | _ => none }
def windEquationsRow : OpenClaim := { program := "ytglijnhkdnhofaa", sum := "1b430a571a05e5ac85672837994515d008a4292b62e178126402cea64b1b98fa", func := "glidepath/glidepathlaw04.WindEquations", spec := "windEquations", unfollowed := true, recurses := true, plainKeys := false, apart := false }
def WindEquationsSaid : Prop := windEquationsRow.holds Try.pinned (OpenSpec.ofChange windEquationsSpec)

/-- ITS FALSE NEIGHBOUR: 'it returns false'. Refute it at one input. -/
def windEquationsWrong : ChangeSpec := { name := "windEquations", fn := fun _ => fun
  | [d1, d2, d3] => { results := [.lit (.bool false)], args := [d1, d2, d3] }
  | _ => none }
def WindEquationsWrongFalsely : Prop := windEquationsRow.holds Try.pinned (OpenSpec.ofChange windEquationsWrong)

/- THE SECOND FORM. 'bulk': how many values and letters a reading holds, each counted each time it is reached (what is shared counts as often as it is met; a slice's spare places count too). A statement '..UptoSaid' is the law's where the arguments, and the package variables that the reading takes, are together of bulk at most 1048576: NARROWER than '..Said'. Prove '..Said' where nothing that the law and all that it calls make is longer than what came in: it says more and counts as full. Else prove '..UptoSaid'. A law counts once. -/
mutual
def uptoBulk {H : Type} : DataW H → Nat
  | .lit (.string bytes) => bytes.length + 1
  | .lit _ => 1
  | .nil => 1
  | .ptr d => uptoBulk d + 1
  | .slice elems spare => uptoBulkAll elems + uptoBulkAll spare + 1
  | .agg parts => uptoBulkAll parts + 1
  | .iface _ d => uptoBulk d + 1
  | .map entries => uptoBulkEntries entries + 1
  | .held _ => 1
def uptoBulkAll {H : Type} : List (DataW H) → Nat
  | [] => 0
  | d :: r => uptoBulk d + uptoBulkAll r
def uptoBulkEntries {H : Type} : List (Lit × DataW H) → Nat
  | [] => 0
  | x :: r => uptoBulkEntry x + uptoBulkEntries r
def uptoBulkEntry {H : Type} : Lit × DataW H → Nat
  | (.string bytes, d) => bytes.length + uptoBulk d + 1
  | (_, d) => uptoBulk d + 1
 end
def uptoSmall : (H : Type) → List (DataW H) → Bool := fun _ ds => decide (uptoBulkAll ds ≤ 1048576)
def OpenSpec.upto (s : _root_.Go.ChangeSpec) : _root_.Go.OpenSpec := { _root_.Go.OpenSpec.ofChange s with cond := some uptoSmall }

/-- 'glidepathlaw04.WindStructures', WHERE WHAT IT READS IS OF BULK AT MOST 1048576: true; the input reads as it did. -/
def windStructuresUptoRow : OpenClaim := { program := "ytglijnhkdnhofaa", sum := "1b430a571a05e5ac85672837994515d008a4292b62e178126402cea64b1b98fa", func := "glidepath/glidepathlaw04.WindStructures", spec := "windStructures", unfollowed := true, recurses := true, plainKeys := false, apart := false, narrowed := true }
def WindStructuresUptoSaid : Prop := windStructuresUptoRow.holds Try.pinned (OpenSpec.upto windStructuresSpec)

/-- 'glidepathlaw04.WindReadings', WHERE WHAT IT READS IS OF BULK AT MOST 1048576: true; the input reads as it did. -/
def windReadingsUptoRow : OpenClaim := { program := "ytglijnhkdnhofaa", sum := "1b430a571a05e5ac85672837994515d008a4292b62e178126402cea64b1b98fa", func := "glidepath/glidepathlaw04.WindReadings", spec := "windReadings", unfollowed := true, recurses := true, plainKeys := false, apart := false, narrowed := true }
def WindReadingsUptoSaid : Prop := windReadingsUptoRow.holds Try.pinned (OpenSpec.upto windReadingsSpec)

/-- 'glidepathlaw04.WindHas', WHERE WHAT IT READS IS OF BULK AT MOST 1048576: true; the input reads as it did. -/
def windHasUptoRow : OpenClaim := { program := "ytglijnhkdnhofaa", sum := "1b430a571a05e5ac85672837994515d008a4292b62e178126402cea64b1b98fa", func := "glidepath/glidepathlaw04.WindHas", spec := "windHas", unfollowed := true, recurses := true, plainKeys := false, apart := false, narrowed := true }
def WindHasUptoSaid : Prop := windHasUptoRow.holds Try.pinned (OpenSpec.upto windHasSpec)

/-- 'glidepathlaw04.WindUndecided', WHERE WHAT IT READS IS OF BULK AT MOST 1048576: true; the input reads as it did. -/
def windUndecidedUptoRow : OpenClaim := { program := "ytglijnhkdnhofaa", sum := "1b430a571a05e5ac85672837994515d008a4292b62e178126402cea64b1b98fa", func := "glidepath/glidepathlaw04.WindUndecided", spec := "windUndecided", unfollowed := true, recurses := true, plainKeys := false, apart := false, narrowed := true }
def WindUndecidedUptoSaid : Prop := windUndecidedUptoRow.holds Try.pinned (OpenSpec.upto windUndecidedSpec)

/-- 'glidepathlaw04.WindBetween', WHERE WHAT IT READS IS OF BULK AT MOST 1048576: true; the input reads as it did. -/
def windBetweenUptoRow : OpenClaim := { program := "ytglijnhkdnhofaa", sum := "1b430a571a05e5ac85672837994515d008a4292b62e178126402cea64b1b98fa", func := "glidepath/glidepathlaw04.WindBetween", spec := "windBetween", unfollowed := true, recurses := true, plainKeys := false, apart := false, narrowed := true }
def WindBetweenUptoSaid : Prop := windBetweenUptoRow.holds Try.pinned (OpenSpec.upto windBetweenSpec)

/-- 'glidepathlaw04.WindEither', WHERE WHAT IT READS IS OF BULK AT MOST 1048576: true; the input reads as it did. -/
def windEitherUptoRow : OpenClaim := { program := "ytglijnhkdnhofaa", sum := "1b430a571a05e5ac85672837994515d008a4292b62e178126402cea64b1b98fa", func := "glidepath/glidepathlaw04.WindEither", spec := "windEither", unfollowed := true, recurses := true, plainKeys := false, apart := false, narrowed := true }
def WindEitherUptoSaid : Prop := windEitherUptoRow.holds Try.pinned (OpenSpec.upto windEitherSpec)

/-- 'glidepathlaw04.WindEquations', WHERE WHAT IT READS IS OF BULK AT MOST 1048576: true; the input reads as it did. -/
def windEquationsUptoRow : OpenClaim := { program := "ytglijnhkdnhofaa", sum := "1b430a571a05e5ac85672837994515d008a4292b62e178126402cea64b1b98fa", func := "glidepath/glidepathlaw04.WindEquations", spec := "windEquations", unfollowed := true, recurses := true, plainKeys := false, apart := false, narrowed := true }
def WindEquationsUptoSaid : Prop := windEquationsUptoRow.holds Try.pinned (OpenSpec.upto windEquationsSpec)

end Rows
end Go.Proofs.Ytglijnhkdnhofaa
