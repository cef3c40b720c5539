/-
  No cell of these rows narrows 'for every input' (looked for: loops, veiled, ifaces, maps, wideKeys, modest, calm, conditions, laid).
  DERIVED. THE GIVEN ROWS OF THIS SEAT. 10 by the template 'for every input the law returns true; each argument reads behind the call as it read before'; 0 by the template 'total and deterministic' (their statements: YtglokajinehbmaaTotals.lean).
  GIVEN WITH THE SEED: the statements are not yours to turn. If you find one false, say at which input.
  Laid BY PROGRAM, IN A SANDBOX (cutbox-rows.mjs): the forced cells as the released guide's own fill.sh prints them over the translation 4118b93736d7b923… (all of the seat's roots in one cut). By AI agents, Wed Nov 11 2026. No macro, syntax, notation, axiom, sorry.
-/
import Derived.Test.YtglokajinehbmaaChecked
import GoSem.Claim
import GoSem.ClaimJoined
import GoSem.ClaimMapViews
import Derived.JoinedTies
import Derived.KernelRfl
namespace Go.Proofs.Ytglokajinehbmaa
/- THE CELL 'sum', in the pinned program and in every row, IS THE sha256 OF THE DUMP (.gsa) THAT YtglokajinehbmaaProg.lean LOADS. Nothing in Lean hashes anything: it is a label: what it is worth is what the hold of that sum in a sandbox is worth. -/
noncomputable def Try.pinned : Pinned := { name := "ytglokajinehbmaa", sum := "4118b93736d7b9233da1ef049b55e619617f13f9fee544afa1b422096b56e15f", checked := Try.checked }
namespace Rows
def none {H : Type} : Left H := { results := [], args := [] }

/-- 'glidepathlaw07.SpacingCapacity': WHATEVER THE INPUT: true; the input reads as it did. -/
def spacingCapacitySpec : ChangeSpec := { name := "spacingCapacity", fn := fun _ => fun
  | [d1, d2, d3] => { results := [.lit (.bool true)], args := [d1, d2, d3] }
  | _ => none }
def spacingCapacityRow : OpenClaim := { program := "ytglokajinehbmaa", sum := "4118b93736d7b9233da1ef049b55e619617f13f9fee544afa1b422096b56e15f", func := "glidepath/glidepathlaw07.SpacingCapacity", spec := "spacingCapacity", unfollowed := true, recurses := true, plainKeys := false, apart := false }
def SpacingCapacitySaid : Prop := spacingCapacityRow.holds Try.pinned (OpenSpec.ofChange spacingCapacitySpec)

/-- ITS FALSE NEIGHBOUR: 'it returns false'. Refute it at one input. -/
def spacingCapacityWrong : ChangeSpec := { name := "spacingCapacity", fn := fun _ => fun
  | [d1, d2, d3] => { results := [.lit (.bool false)], args := [d1, d2, d3] }
  | _ => none }
def SpacingCapacityWrongFalsely : Prop := spacingCapacityRow.holds Try.pinned (OpenSpec.ofChange spacingCapacityWrong)

/-- 'glidepathlaw07.SpacingProblems': WHATEVER THE INPUT: true; the input reads as it did. -/
def spacingProblemsSpec : ChangeSpec := { name := "spacingProblems", fn := fun _ => fun
  | [d] => { results := [.lit (.bool true)], args := [d] }
  | _ => none }
def spacingProblemsRow : OpenClaim := { program := "ytglokajinehbmaa", sum := "4118b93736d7b9233da1ef049b55e619617f13f9fee544afa1b422096b56e15f", func := "glidepath/glidepathlaw07.SpacingProblems", spec := "spacingProblems", unfollowed := true, recurses := true, plainKeys := false, apart := false }
def SpacingProblemsSaid : Prop := spacingProblemsRow.holds Try.pinned (OpenSpec.ofChange spacingProblemsSpec)

/-- ITS FALSE NEIGHBOUR: 'it returns false'. Refute it at one input. -/
def spacingProblemsWrong : ChangeSpec := { name := "spacingProblems", fn := fun _ => fun
  | [d] => { results := [.lit (.bool false)], args := [d] }
  | _ => none }
def SpacingProblemsWrongFalsely : Prop := spacingProblemsRow.holds Try.pinned (OpenSpec.ofChange spacingProblemsWrong)

/-- 'glidepathlaw07.SpacingRules': WHATEVER THE INPUT: true; the input reads as it did. -/
def spacingRulesSpec : ChangeSpec := { name := "spacingRules", fn := fun _ => fun
  | [d1, d2, d3] => { results := [.lit (.bool true)], args := [d1, d2, d3] }
  | _ => none }
def spacingRulesRow : OpenClaim := { program := "ytglokajinehbmaa", sum := "4118b93736d7b9233da1ef049b55e619617f13f9fee544afa1b422096b56e15f", func := "glidepath/glidepathlaw07.SpacingRules", spec := "spacingRules", unfollowed := true, recurses := true, plainKeys := false, apart := false }
def SpacingRulesSaid : Prop := spacingRulesRow.holds Try.pinned (OpenSpec.ofChange spacingRulesSpec)

/-- ITS FALSE NEIGHBOUR: 'it returns false'. Refute it at one input. -/
def spacingRulesWrong : ChangeSpec := { name := "spacingRules", fn := fun _ => fun
  | [d1, d2, d3] => { results := [.lit (.bool false)], args := [d1, d2, d3] }
  | _ => none }
def SpacingRulesWrongFalsely : Prop := spacingRulesRow.holds Try.pinned (OpenSpec.ofChange spacingRulesWrong)

/-- 'glidepathlaw07.SpacingBest': WHATEVER THE INPUT: true; the input reads as it did. -/
def spacingBestSpec : ChangeSpec := { name := "spacingBest", fn := fun _ => fun
  | [d] => { results := [.lit (.bool true)], args := [d] }
  | _ => none }
def spacingBestRow : OpenClaim := { program := "ytglokajinehbmaa", sum := "4118b93736d7b9233da1ef049b55e619617f13f9fee544afa1b422096b56e15f", func := "glidepath/glidepathlaw07.SpacingBest", spec := "spacingBest", unfollowed := true, recurses := true, plainKeys := false, apart := false }
def SpacingBestSaid : Prop := spacingBestRow.holds Try.pinned (OpenSpec.ofChange spacingBestSpec)

/-- ITS FALSE NEIGHBOUR: 'it returns false'. Refute it at one input. -/
def spacingBestWrong : ChangeSpec := { name := "spacingBest", fn := fun _ => fun
  | [d] => { results := [.lit (.bool false)], args := [d] }
  | _ => none }
def SpacingBestWrongFalsely : Prop := spacingBestRow.holds Try.pinned (OpenSpec.ofChange spacingBestWrong)

/-- 'glidepathlaw07.SpacingOrders': WHATEVER THE INPUT: true; the input reads as it did. -/
def spacingOrdersSpec : ChangeSpec := { name := "spacingOrders", fn := fun _ => fun
  | [d1, d2] => { results := [.lit (.bool true)], args := [d1, d2] }
  | _ => none }
def spacingOrdersRow : OpenClaim := { program := "ytglokajinehbmaa", sum := "4118b93736d7b9233da1ef049b55e619617f13f9fee544afa1b422096b56e15f", func := "glidepath/glidepathlaw07.SpacingOrders", spec := "spacingOrders", unfollowed := true, recurses := true, plainKeys := false, apart := false }
def SpacingOrdersSaid : Prop := spacingOrdersRow.holds Try.pinned (OpenSpec.ofChange spacingOrdersSpec)

/-- ITS FALSE NEIGHBOUR: 'it returns false'. Refute it at one input. -/
def spacingOrdersWrong : ChangeSpec := { name := "spacingOrders", fn := fun _ => fun
  | [d1, d2] => { results := [.lit (.bool false)], args := [d1, d2] }
  | _ => none }
def SpacingOrdersWrongFalsely : Prop := spacingOrdersRow.holds Try.pinned (OpenSpec.ofChange spacingOrdersWrong)

/-- 'glidepathlaw07.SpacingFree': WHATEVER THE INPUT: true; the input reads as it did. -/
def spacingFreeSpec : ChangeSpec := { name := "spacingFree", fn := fun _ => fun
  | [d1, d2, d3] => { results := [.lit (.bool true)], args := [d1, d2, d3] }
  | _ => none }
def spacingFreeRow : OpenClaim := { program := "ytglokajinehbmaa", sum := "4118b93736d7b9233da1ef049b55e619617f13f9fee544afa1b422096b56e15f", func := "glidepath/glidepathlaw07.SpacingFree", spec := "spacingFree", unfollowed := true, recurses := true, plainKeys := false, apart := false }
def SpacingFreeSaid : Prop := spacingFreeRow.holds Try.pinned (OpenSpec.ofChange spacingFreeSpec)

/-- ITS FALSE NEIGHBOUR: 'it returns false'. Refute it at one input. -/
def spacingFreeWrong : ChangeSpec := { name := "spacingFree", fn := fun _ => fun
  | [d1, d2, d3] => { results := [.lit (.bool false)], args := [d1, d2, d3] }
  | _ => none }
def SpacingFreeWrongFalsely : Prop := spacingFreeRow.holds Try.pinned (OpenSpec.ofChange spacingFreeWrong)

/-- 'glidepathlaw07.SpacingHorizon': WHATEVER THE INPUT: true; the input reads as it did. -/
def spacingHorizonSpec : ChangeSpec := { name := "spacingHorizon", fn := fun _ => fun
  | [d1, d2, d3] => { results := [.lit (.bool true)], args := [d1, d2, d3] }
  | _ => none }
def spacingHorizonRow : OpenClaim := { program := "ytglokajinehbmaa", sum := "4118b93736d7b9233da1ef049b55e619617f13f9fee544afa1b422096b56e15f", func := "glidepath/glidepathlaw07.SpacingHorizon", spec := "spacingHorizon", unfollowed := true, recurses := true, plainKeys := false, apart := false }
def SpacingHorizonSaid : Prop := spacingHorizonRow.holds Try.pinned (OpenSpec.ofChange spacingHorizonSpec)

/-- ITS FALSE NEIGHBOUR: 'it returns false'. Refute it at one input. -/
def spacingHorizonWrong : ChangeSpec := { name := "spacingHorizon", fn := fun _ => fun
  | [d1, d2, d3] => { results := [.lit (.bool false)], args := [d1, d2, d3] }
  | _ => none }
def SpacingHorizonWrongFalsely : Prop := spacingHorizonRow.holds Try.pinned (OpenSpec.ofChange spacingHorizonWrong)

/-- 'glidepathlaw07.SpacingBounded': WHATEVER THE INPUT: true; the input reads as it did. -/
def spacingBoundedSpec : ChangeSpec := { name := "spacingBounded", fn := fun _ => fun
  | [d1, d2, d3] => { results := [.lit (.bool true)], args := [d1, d2, d3] }
  | _ => none }
def spacingBoundedRow : OpenClaim := { program := "ytglokajinehbmaa", sum := "4118b93736d7b9233da1ef049b55e619617f13f9fee544afa1b422096b56e15f", func := "glidepath/glidepathlaw07.SpacingBounded", spec := "spacingBounded", unfollowed := true, recurses := true, plainKeys := false, apart := false }
def SpacingBoundedSaid : Prop := spacingBoundedRow.holds Try.pinned (OpenSpec.ofChange spacingBoundedSpec)

/-- ITS FALSE NEIGHBOUR: 'it returns false'. Refute it at one input. -/
def spacingBoundedWrong : ChangeSpec := { name := "spacingBounded", fn := fun _ => fun
  | [d1, d2, d3] => { results := [.lit (.bool false)], args := [d1, d2, d3] }
  | _ => none }
def SpacingBoundedWrongFalsely : Prop := spacingBoundedRow.holds Try.pinned (OpenSpec.ofChange spacingBoundedWrong)

/-- 'glidepathlaw07.SpacingPlans': WHATEVER THE INPUT: true; the input reads as it did. -/
def spacingPlansSpec : ChangeSpec := { name := "spacingPlans", fn := fun _ => fun
  | [d1, d2] => { results := [.lit (.bool true)], args := [d1, d2] }
  | _ => none }
def spacingPlansRow : OpenClaim := { program := "ytglokajinehbmaa", sum := "4118b93736d7b9233da1ef049b55e619617f13f9fee544afa1b422096b56e15f", func := "glidepath/glidepathlaw07.SpacingPlans", spec := "spacingPlans", unfollowed := true, recurses := true, plainKeys := false, apart := false }
def SpacingPlansSaid : Prop := spacingPlansRow.holds Try.pinned (OpenSpec.ofChange spacingPlansSpec)

/-- ITS FALSE NEIGHBOUR: 'it returns false'. Refute it at one input. -/
def spacingPlansWrong : ChangeSpec := { name := "spacingPlans", fn := fun _ => fun
  | [d1, d2] => { results := [.lit (.bool false)], args := [d1, d2] }
  | _ => none }
def SpacingPlansWrongFalsely : Prop := spacingPlansRow.holds Try.pinned (OpenSpec.ofChange spacingPlansWrong)

/-- 'glidepathlaw07.SpacingMargins': WHATEVER THE INPUT: true; the input reads as it did. -/
def spacingMarginsSpec : ChangeSpec := { name := "spacingMargins", fn := fun _ => fun
  | [d1, d2, d3] => { results := [.lit (.bool true)], args := [d1, d2, d3] }
  | _ => none }
def spacingMarginsRow : OpenClaim := { program := "ytglokajinehbmaa", sum := "4118b93736d7b9233da1ef049b55e619617f13f9fee544afa1b422096b56e15f", func := "glidepath/glidepathlaw07.SpacingMargins", spec := "spacingMargins", unfollowed := true, recurses := true, plainKeys := false, apart := false }
def SpacingMarginsSaid : Prop := spacingMarginsRow.holds Try.pinned (OpenSpec.ofChange spacingMarginsSpec)

/-- ITS FALSE NEIGHBOUR: 'it returns false'. Refute it at one input. -/
def spacingMarginsWrong : ChangeSpec := { name := "spacingMargins", fn := fun _ => fun
  | [d1, d2, d3] => { results := [.lit (.bool false)], args := [d1, d2, d3] }
  | _ => none }
def SpacingMarginsWrongFalsely : Prop := spacingMarginsRow.holds Try.pinned (OpenSpec.ofChange spacingMarginsWrong)

/- THE SECOND FORM. 'bulk': how many values and letters a reading holds, each counted each time it is reached (what is shared counts as often as it is met; a slice's spare places count too). A statement '..UptoSaid' is the law's where the arguments, and the package variables that the reading takes, are together of bulk at most 1048576: NARROWER than '..Said'. Prove '..Said' where nothing that the law and all that it calls make is longer than what came in: it says more and counts as full. Else prove '..UptoSaid'. A law counts once. -/
mutual
def uptoBulk {H : Type} : DataW H → Nat
  | .lit (.string bytes) => bytes.length + 1
  | .lit _ => 1
  | .nil => 1
  | .ptr d => uptoBulk d + 1
  | .slice elems spare => uptoBulkAll elems + uptoBulkAll spare + 1
  | .agg parts => uptoBulkAll parts + 1
  | .iface _ d => uptoBulk d + 1
  | .map entries => uptoBulkEntries entries + 1
  | .held _ => 1
def uptoBulkAll {H : Type} : List (DataW H) → Nat
  | [] => 0
  | d :: r => uptoBulk d + uptoBulkAll r
def uptoBulkEntries {H : Type} : List (Lit × DataW H) → Nat
  | [] => 0
  | x :: r => uptoBulkEntry x + uptoBulkEntries r
def uptoBulkEntry {H : Type} : Lit × DataW H → Nat
  | (.string bytes, d) => bytes.length + uptoBulk d + 1
  | (_, d) => uptoBulk d + 1
 end
def uptoSmall : (H : Type) → List (DataW H) → Bool := fun _ ds => decide (uptoBulkAll ds ≤ 1048576)
def OpenSpec.upto (s : _root_.Go.ChangeSpec) : _root_.Go.OpenSpec := { _root_.Go.OpenSpec.ofChange s with cond := some uptoSmall }

/-- 'glidepathlaw07.SpacingCapacity', WHERE WHAT IT READS IS OF BULK AT MOST 1048576: true; the input reads as it did. -/
def spacingCapacityUptoRow : OpenClaim := { program := "ytglokajinehbmaa", sum := "4118b93736d7b9233da1ef049b55e619617f13f9fee544afa1b422096b56e15f", func := "glidepath/glidepathlaw07.SpacingCapacity", spec := "spacingCapacity", unfollowed := true, recurses := true, plainKeys := false, apart := false, narrowed := true }
def SpacingCapacityUptoSaid : Prop := spacingCapacityUptoRow.holds Try.pinned (OpenSpec.upto spacingCapacitySpec)

/-- 'glidepathlaw07.SpacingProblems', WHERE WHAT IT READS IS OF BULK AT MOST 1048576: true; the input reads as it did. -/
def spacingProblemsUptoRow : OpenClaim := { program := "ytglokajinehbmaa", sum := "4118b93736d7b9233da1ef049b55e619617f13f9fee544afa1b422096b56e15f", func := "glidepath/glidepathlaw07.SpacingProblems", spec := "spacingProblems", unfollowed := true, recurses := true, plainKeys := false, apart := false, narrowed := true }
def SpacingProblemsUptoSaid : Prop := spacingProblemsUptoRow.holds Try.pinned (OpenSpec.upto spacingProblemsSpec)

/-- 'glidepathlaw07.SpacingRules', WHERE WHAT IT READS IS OF BULK AT MOST 1048576: true; the input reads as it did. -/
def spacingRulesUptoRow : OpenClaim := { program := "ytglokajinehbmaa", sum := "4118b93736d7b9233da1ef049b55e619617f13f9fee544afa1b422096b56e15f", func := "glidepath/glidepathlaw07.SpacingRules", spec := "spacingRules", unfollowed := true, recurses := true, plainKeys := false, apart := false, narrowed := true }
def SpacingRulesUptoSaid : Prop := spacingRulesUptoRow.holds Try.pinned (OpenSpec.upto spacingRulesSpec)

/-- 'glidepathlaw07.SpacingBest', WHERE WHAT IT READS IS OF BULK AT MOST 1048576: true; the input reads as it did. -/
def spacingBestUptoRow : OpenClaim := { program := "ytglokajinehbmaa", sum := "4118b93736d7b9233da1ef049b55e619617f13f9fee544afa1b422096b56e15f", func := "glidepath/glidepathlaw07.SpacingBest", spec := "spacingBest", unfollowed := true, recurses := true, plainKeys := false, apart := false, narrowed := true }
def SpacingBestUptoSaid : Prop := spacingBestUptoRow.holds Try.pinned (OpenSpec.upto spacingBestSpec)

/-- 'glidepathlaw07.SpacingOrders', WHERE WHAT IT READS IS OF BULK AT MOST 1048576: true; the input reads as it did. -/
def spacingOrdersUptoRow : OpenClaim := { program := "ytglokajinehbmaa", sum := "4118b93736d7b9233da1ef049b55e619617f13f9fee544afa1b422096b56e15f", func := "glidepath/glidepathlaw07.SpacingOrders", spec := "spacingOrders", unfollowed := true, recurses := true, plainKeys := false, apart := false, narrowed := true }
def SpacingOrdersUptoSaid : Prop := spacingOrdersUptoRow.holds Try.pinned (OpenSpec.upto spacingOrdersSpec)

/-- 'glidepathlaw07.SpacingFree', WHERE WHAT IT READS IS OF BULK AT MOST 1048576: true; the input reads as it did. -/
def spacingFreeUptoRow : OpenClaim := { program := "ytglokajinehbmaa", sum := "4118b93736d7b9233da1ef049b55e619617f13f9fee544afa1b422096b56e15f", func := "glidepath/glidepathlaw07.SpacingFree", spec := "spacingFree", unfollowed := true, recurses := true, plainKeys := false, apart := false, narrowed := true }
def SpacingFreeUptoSaid : Prop := spacingFreeUptoRow.holds Try.pinned (OpenSpec.upto spacingFreeSpec)

/-- 'glidepathlaw07.SpacingHorizon', WHERE WHAT IT READS IS OF BULK AT MOST 1048576: true; the input reads as it did. -/
def spacingHorizonUptoRow : OpenClaim := { program := "ytglokajinehbmaa", sum := "4118b93736d7b9233da1ef049b55e619617f13f9fee544afa1b422096b56e15f", func := "glidepath/glidepathlaw07.SpacingHorizon", spec := "spacingHorizon", unfollowed := true, recurses := true, plainKeys := false, apart := false, narrowed := true }
def SpacingHorizonUptoSaid : Prop := spacingHorizonUptoRow.holds Try.pinned (OpenSpec.upto spacingHorizonSpec)

/-- 'glidepathlaw07.SpacingBounded', WHERE WHAT IT READS IS OF BULK AT MOST 1048576: true; the input reads as it did. -/
def spacingBoundedUptoRow : OpenClaim := { program := "ytglokajinehbmaa", sum := "4118b93736d7b9233da1ef049b55e619617f13f9fee544afa1b422096b56e15f", func := "glidepath/glidepathlaw07.SpacingBounded", spec := "spacingBounded", unfollowed := true, recurses := true, plainKeys := false, apart := false, narrowed := true }
def SpacingBoundedUptoSaid : Prop := spacingBoundedUptoRow.holds Try.pinned (OpenSpec.upto spacingBoundedSpec)

/-- 'glidepathlaw07.SpacingPlans', WHERE WHAT IT READS IS OF BULK AT MOST 1048576: true; the input reads as it did. -/
def spacingPlansUptoRow : OpenClaim := { program := "ytglokajinehbmaa", sum := "4118b93736d7b9233da1ef049b55e619617f13f9fee544afa1b422096b56e15f", func := "glidepath/glidepathlaw07.SpacingPlans", spec := "spacingPlans", unfollowed := true, recurses := true, plainKeys := false, apart := false, narrowed := true }
def SpacingPlansUptoSaid : Prop := spacingPlansUptoRow.holds Try.pinned (OpenSpec.upto spacingPlansSpec)

/-- 'glidepathlaw07.SpacingMargins', WHERE WHAT IT READS IS OF BULK AT MOST 1048576: true; the input reads as it did. -/
def spacingMarginsUptoRow : OpenClaim := { program := "ytglokajinehbmaa", sum := "4118b93736d7b9233da1ef049b55e619617f13f9fee544afa1b422096b56e15f", func := "glidepath/glidepathlaw07.SpacingMargins", spec := "spacingMargins", unfollowed := true, recurses := true, plainKeys := false, apart := false, narrowed := true }
def SpacingMarginsUptoSaid : Prop := spacingMarginsUptoRow.holds Try.pinned (OpenSpec.upto spacingMarginsSpec)

end Rows
end Go.Proofs.Ytglokajinehbmaa
