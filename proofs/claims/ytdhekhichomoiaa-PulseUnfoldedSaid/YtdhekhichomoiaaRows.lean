/-
  No cell of these rows narrows 'for every input' (looked for: loops, veiled, ifaces, maps, wideKeys, modest, calm, conditions, laid).
  DERIVED. THE GIVEN ROWS OF THIS SEAT. 13 by the template 'for every input the law returns true; each argument reads behind the call as it read before'; 0 by the template 'total and deterministic' (their statements: YtdhekhichomoiaaTotals.lean).
  GIVEN WITH THE SEED: the statements are not yours to turn. If you find one false, say at which input.
  Laid BY PROGRAM, IN A SANDBOX (cutbox-rows.mjs): the forced cells as the released guide's own fill.sh prints them over the translation 1933b254747d9f39… (all of the seat's roots in one cut). By AI agents, Wed Nov 11 2026. No macro, syntax, notation, axiom, sorry.
-/
import Derived.Test.YtdhekhichomoiaaChecked
import GoSem.Claim
import GoSem.ClaimJoined
import GoSem.ClaimMapViews
import Derived.JoinedTies
import Derived.KernelRfl
namespace Go.Proofs.Ytdhekhichomoiaa
/- THE CELL 'sum', in the pinned program and in every row, IS THE sha256 OF THE DUMP (.gsa) THAT YtdhekhichomoiaaProg.lean LOADS. Nothing in Lean hashes anything: it is a label: what it is worth is what the hold of that sum in a sandbox is worth. -/
noncomputable def Try.pinned : Pinned := { name := "ytdhekhichomoiaa", sum := "1933b254747d9f39dd6952e8535bb2716966cd9466e95c7351b251f5bb5be694", checked := Try.checked }
namespace Rows
def none {H : Type} : Left H := { results := [], args := [] }

/-- 'glidepathlaw01.PulseLocked': WHATEVER THE INPUT: true; the input reads as it did. -/
def pulseLockedSpec : ChangeSpec := { name := "pulseLocked", fn := fun _ => fun
  | [d1, d2, d3] => { results := [.lit (.bool true)], args := [d1, d2, d3] }
  | _ => none }
def pulseLockedRow : OpenClaim := { program := "ytdhekhichomoiaa", sum := "1933b254747d9f39dd6952e8535bb2716966cd9466e95c7351b251f5bb5be694", func := "glidepath/glidepathlaw01.PulseLocked", spec := "pulseLocked", unfollowed := true, recurses := true, apart := false }
def PulseLockedSaid : Prop := pulseLockedRow.holds Try.pinned (OpenSpec.ofChange pulseLockedSpec)

/-- ITS FALSE NEIGHBOUR: 'it returns false'. Refute it at one input. -/
def pulseLockedWrong : ChangeSpec := { name := "pulseLocked", fn := fun _ => fun
  | [d1, d2, d3] => { results := [.lit (.bool false)], args := [d1, d2, d3] }
  | _ => none }
def PulseLockedWrongFalsely : Prop := pulseLockedRow.holds Try.pinned (OpenSpec.ofChange pulseLockedWrong)

/-- 'glidepathlaw01.PulseCorrelated': WHATEVER THE INPUT: true; the input reads as it did. -/
def pulseCorrelatedSpec : ChangeSpec := { name := "pulseCorrelated", fn := fun _ => fun
  | [d1, d2, d3] => { results := [.lit (.bool true)], args := [d1, d2, d3] }
  | _ => none }
def pulseCorrelatedRow : OpenClaim := { program := "ytdhekhichomoiaa", sum := "1933b254747d9f39dd6952e8535bb2716966cd9466e95c7351b251f5bb5be694", func := "glidepath/glidepathlaw01.PulseCorrelated", spec := "pulseCorrelated", unfollowed := true, recurses := true, apart := false }
def PulseCorrelatedSaid : Prop := pulseCorrelatedRow.holds Try.pinned (OpenSpec.ofChange pulseCorrelatedSpec)

/-- ITS FALSE NEIGHBOUR: 'it returns false'. Refute it at one input. -/
def pulseCorrelatedWrong : ChangeSpec := { name := "pulseCorrelated", fn := fun _ => fun
  | [d1, d2, d3] => { results := [.lit (.bool false)], args := [d1, d2, d3] }
  | _ => none }
def PulseCorrelatedWrongFalsely : Prop := pulseCorrelatedRow.holds Try.pinned (OpenSpec.ofChange pulseCorrelatedWrong)

/-- 'glidepathlaw01.PulseCheck': WHATEVER THE INPUT: true; the input reads as it did. -/
def pulseCheckSpec : ChangeSpec := { name := "pulseCheck", fn := fun _ => fun
  | [d1, d2, d3] => { results := [.lit (.bool true)], args := [d1, d2, d3] }
  | _ => none }
def pulseCheckRow : OpenClaim := { program := "ytdhekhichomoiaa", sum := "1933b254747d9f39dd6952e8535bb2716966cd9466e95c7351b251f5bb5be694", func := "glidepath/glidepathlaw01.PulseCheck", spec := "pulseCheck", unfollowed := true, recurses := true, apart := false }
def PulseCheckSaid : Prop := pulseCheckRow.holds Try.pinned (OpenSpec.ofChange pulseCheckSpec)

/-- ITS FALSE NEIGHBOUR: 'it returns false'. Refute it at one input. -/
def pulseCheckWrong : ChangeSpec := { name := "pulseCheck", fn := fun _ => fun
  | [d1, d2, d3] => { results := [.lit (.bool false)], args := [d1, d2, d3] }
  | _ => none }
def PulseCheckWrongFalsely : Prop := pulseCheckRow.holds Try.pinned (OpenSpec.ofChange pulseCheckWrong)

/-- 'glidepathlaw01.PulseBelongs': WHATEVER THE INPUT: true; the input reads as it did. -/
def pulseBelongsSpec : ChangeSpec := { name := "pulseBelongs", fn := fun _ => fun
  | [d1, d2, d3] => { results := [.lit (.bool true)], args := [d1, d2, d3] }
  | _ => none }
def pulseBelongsRow : OpenClaim := { program := "ytdhekhichomoiaa", sum := "1933b254747d9f39dd6952e8535bb2716966cd9466e95c7351b251f5bb5be694", func := "glidepath/glidepathlaw01.PulseBelongs", spec := "pulseBelongs", unfollowed := true, recurses := true, apart := false }
def PulseBelongsSaid : Prop := pulseBelongsRow.holds Try.pinned (OpenSpec.ofChange pulseBelongsSpec)

/-- ITS FALSE NEIGHBOUR: 'it returns false'. Refute it at one input. -/
def pulseBelongsWrong : ChangeSpec := { name := "pulseBelongs", fn := fun _ => fun
  | [d1, d2, d3] => { results := [.lit (.bool false)], args := [d1, d2, d3] }
  | _ => none }
def PulseBelongsWrongFalsely : Prop := pulseBelongsRow.holds Try.pinned (OpenSpec.ofChange pulseBelongsWrong)

/-- 'glidepathlaw01.PulseCleaned': WHATEVER THE INPUT: true; the input reads as it did. -/
def pulseCleanedSpec : ChangeSpec := { name := "pulseCleaned", fn := fun _ => fun
  | [d1, d2] => { results := [.lit (.bool true)], args := [d1, d2] }
  | _ => none }
def pulseCleanedRow : OpenClaim := { program := "ytdhekhichomoiaa", sum := "1933b254747d9f39dd6952e8535bb2716966cd9466e95c7351b251f5bb5be694", func := "glidepath/glidepathlaw01.PulseCleaned", spec := "pulseCleaned", unfollowed := true, recurses := true, apart := false }
def PulseCleanedSaid : Prop := pulseCleanedRow.holds Try.pinned (OpenSpec.ofChange pulseCleanedSpec)

/-- ITS FALSE NEIGHBOUR: 'it returns false'. Refute it at one input. -/
def pulseCleanedWrong : ChangeSpec := { name := "pulseCleaned", fn := fun _ => fun
  | [d1, d2] => { results := [.lit (.bool false)], args := [d1, d2] }
  | _ => none }
def PulseCleanedWrongFalsely : Prop := pulseCleanedRow.holds Try.pinned (OpenSpec.ofChange pulseCleanedWrong)

/-- 'glidepathlaw01.PulseMixed': WHATEVER THE INPUT: true; the input reads as it did. -/
def pulseMixedSpec : ChangeSpec := { name := "pulseMixed", fn := fun _ => fun
  | [d1, d2, d3] => { results := [.lit (.bool true)], args := [d1, d2, d3] }
  | _ => none }
def pulseMixedRow : OpenClaim := { program := "ytdhekhichomoiaa", sum := "1933b254747d9f39dd6952e8535bb2716966cd9466e95c7351b251f5bb5be694", func := "glidepath/glidepathlaw01.PulseMixed", spec := "pulseMixed", unfollowed := true, recurses := true, apart := false }
def PulseMixedSaid : Prop := pulseMixedRow.holds Try.pinned (OpenSpec.ofChange pulseMixedSpec)

/-- ITS FALSE NEIGHBOUR: 'it returns false'. Refute it at one input. -/
def pulseMixedWrong : ChangeSpec := { name := "pulseMixed", fn := fun _ => fun
  | [d1, d2, d3] => { results := [.lit (.bool false)], args := [d1, d2, d3] }
  | _ => none }
def PulseMixedWrongFalsely : Prop := pulseMixedRow.holds Try.pinned (OpenSpec.ofChange pulseMixedWrong)

/-- 'glidepathlaw01.PulseLocks': WHATEVER THE INPUT: true; the input reads as it did. -/
def pulseLocksSpec : ChangeSpec := { name := "pulseLocks", fn := fun _ => fun
  | [d1, d2, d3] => { results := [.lit (.bool true)], args := [d1, d2, d3] }
  | _ => none }
def pulseLocksRow : OpenClaim := { program := "ytdhekhichomoiaa", sum := "1933b254747d9f39dd6952e8535bb2716966cd9466e95c7351b251f5bb5be694", func := "glidepath/glidepathlaw01.PulseLocks", spec := "pulseLocks", unfollowed := true, recurses := true, apart := false }
def PulseLocksSaid : Prop := pulseLocksRow.holds Try.pinned (OpenSpec.ofChange pulseLocksSpec)

/-- ITS FALSE NEIGHBOUR: 'it returns false'. Refute it at one input. -/
def pulseLocksWrong : ChangeSpec := { name := "pulseLocks", fn := fun _ => fun
  | [d1, d2, d3] => { results := [.lit (.bool false)], args := [d1, d2, d3] }
  | _ => none }
def PulseLocksWrongFalsely : Prop := pulseLocksRow.holds Try.pinned (OpenSpec.ofChange pulseLocksWrong)

/-- 'glidepathlaw01.PulseLines': WHATEVER THE INPUT: true; the input reads as it did. -/
def pulseLinesSpec : ChangeSpec := { name := "pulseLines", fn := fun _ => fun
  | [d1, d2, d3] => { results := [.lit (.bool true)], args := [d1, d2, d3] }
  | _ => none }
def pulseLinesRow : OpenClaim := { program := "ytdhekhichomoiaa", sum := "1933b254747d9f39dd6952e8535bb2716966cd9466e95c7351b251f5bb5be694", func := "glidepath/glidepathlaw01.PulseLines", spec := "pulseLines", unfollowed := true, recurses := true, apart := false }
def PulseLinesSaid : Prop := pulseLinesRow.holds Try.pinned (OpenSpec.ofChange pulseLinesSpec)

/-- ITS FALSE NEIGHBOUR: 'it returns false'. Refute it at one input. -/
def pulseLinesWrong : ChangeSpec := { name := "pulseLines", fn := fun _ => fun
  | [d1, d2, d3] => { results := [.lit (.bool false)], args := [d1, d2, d3] }
  | _ => none }
def PulseLinesWrongFalsely : Prop := pulseLinesRow.holds Try.pinned (OpenSpec.ofChange pulseLinesWrong)

/-- 'glidepathlaw01.PulseClipping': WHATEVER THE INPUT: true; the input reads as it did. -/
def pulseClippingSpec : ChangeSpec := { name := "pulseClipping", fn := fun _ => fun
  | [d1, d2, d3] => { results := [.lit (.bool true)], args := [d1, d2, d3] }
  | _ => none }
def pulseClippingRow : OpenClaim := { program := "ytdhekhichomoiaa", sum := "1933b254747d9f39dd6952e8535bb2716966cd9466e95c7351b251f5bb5be694", func := "glidepath/glidepathlaw01.PulseClipping", spec := "pulseClipping", unfollowed := true, recurses := true, apart := false }
def PulseClippingSaid : Prop := pulseClippingRow.holds Try.pinned (OpenSpec.ofChange pulseClippingSpec)

/-- ITS FALSE NEIGHBOUR: 'it returns false'. Refute it at one input. -/
def pulseClippingWrong : ChangeSpec := { name := "pulseClipping", fn := fun _ => fun
  | [d1, d2, d3] => { results := [.lit (.bool false)], args := [d1, d2, d3] }
  | _ => none }
def PulseClippingWrongFalsely : Prop := pulseClippingRow.holds Try.pinned (OpenSpec.ofChange pulseClippingWrong)

/-- 'glidepathlaw01.PulseSums': WHATEVER THE INPUT: true; the input reads as it did. -/
def pulseSumsSpec : ChangeSpec := { name := "pulseSums", fn := fun _ => fun
  | [d1, d2] => { results := [.lit (.bool true)], args := [d1, d2] }
  | _ => none }
def pulseSumsRow : OpenClaim := { program := "ytdhekhichomoiaa", sum := "1933b254747d9f39dd6952e8535bb2716966cd9466e95c7351b251f5bb5be694", func := "glidepath/glidepathlaw01.PulseSums", spec := "pulseSums", unfollowed := true, recurses := true, apart := false }
def PulseSumsSaid : Prop := pulseSumsRow.holds Try.pinned (OpenSpec.ofChange pulseSumsSpec)

/-- ITS FALSE NEIGHBOUR: 'it returns false'. Refute it at one input. -/
def pulseSumsWrong : ChangeSpec := { name := "pulseSums", fn := fun _ => fun
  | [d1, d2] => { results := [.lit (.bool false)], args := [d1, d2] }
  | _ => none }
def PulseSumsWrongFalsely : Prop := pulseSumsRow.holds Try.pinned (OpenSpec.ofChange pulseSumsWrong)

/-- 'glidepathlaw01.PulseCuts': WHATEVER THE INPUT: true; the input reads as it did. -/
def pulseCutsSpec : ChangeSpec := { name := "pulseCuts", fn := fun _ => fun
  | [d1, d2, d3] => { results := [.lit (.bool true)], args := [d1, d2, d3] }
  | _ => none }
def pulseCutsRow : OpenClaim := { program := "ytdhekhichomoiaa", sum := "1933b254747d9f39dd6952e8535bb2716966cd9466e95c7351b251f5bb5be694", func := "glidepath/glidepathlaw01.PulseCuts", spec := "pulseCuts", unfollowed := true, recurses := true, apart := false }
def PulseCutsSaid : Prop := pulseCutsRow.holds Try.pinned (OpenSpec.ofChange pulseCutsSpec)

/-- ITS FALSE NEIGHBOUR: 'it returns false'. Refute it at one input. -/
def pulseCutsWrong : ChangeSpec := { name := "pulseCuts", fn := fun _ => fun
  | [d1, d2, d3] => { results := [.lit (.bool false)], args := [d1, d2, d3] }
  | _ => none }
def PulseCutsWrongFalsely : Prop := pulseCutsRow.holds Try.pinned (OpenSpec.ofChange pulseCutsWrong)

/-- 'glidepathlaw01.PulseFolds': WHATEVER THE INPUT: true; the input reads as it did. -/
def pulseFoldsSpec : ChangeSpec := { name := "pulseFolds", fn := fun _ => fun
  | [d1, d2] => { results := [.lit (.bool true)], args := [d1, d2] }
  | _ => none }
def pulseFoldsRow : OpenClaim := { program := "ytdhekhichomoiaa", sum := "1933b254747d9f39dd6952e8535bb2716966cd9466e95c7351b251f5bb5be694", func := "glidepath/glidepathlaw01.PulseFolds", spec := "pulseFolds", unfollowed := true, recurses := true, apart := false }
def PulseFoldsSaid : Prop := pulseFoldsRow.holds Try.pinned (OpenSpec.ofChange pulseFoldsSpec)

/-- ITS FALSE NEIGHBOUR: 'it returns false'. Refute it at one input. -/
def pulseFoldsWrong : ChangeSpec := { name := "pulseFolds", fn := fun _ => fun
  | [d1, d2] => { results := [.lit (.bool false)], args := [d1, d2] }
  | _ => none }
def PulseFoldsWrongFalsely : Prop := pulseFoldsRow.holds Try.pinned (OpenSpec.ofChange pulseFoldsWrong)

/-- 'glidepathlaw01.PulseUnfolded': WHATEVER THE INPUT: true; the input reads as it did. -/
def pulseUnfoldedSpec : ChangeSpec := { name := "pulseUnfolded", fn := fun _ => fun
  | [d1, d2, d3] => { results := [.lit (.bool true)], args := [d1, d2, d3] }
  | _ => none }
def pulseUnfoldedRow : OpenClaim := { program := "ytdhekhichomoiaa", sum := "1933b254747d9f39dd6952e8535bb2716966cd9466e95c7351b251f5bb5be694", func := "glidepath/glidepathlaw01.PulseUnfolded", spec := "pulseUnfolded", unfollowed := true, recurses := true, apart := false }
def PulseUnfoldedSaid : Prop := pulseUnfoldedRow.holds Try.pinned (OpenSpec.ofChange pulseUnfoldedSpec)

/-- ITS FALSE NEIGHBOUR: 'it returns false'. Refute it at one input. -/
def pulseUnfoldedWrong : ChangeSpec := { name := "pulseUnfolded", fn := fun _ => fun
  | [d1, d2, d3] => { results := [.lit (.bool false)], args := [d1, d2, d3] }
  | _ => none }
def PulseUnfoldedWrongFalsely : Prop := pulseUnfoldedRow.holds Try.pinned (OpenSpec.ofChange pulseUnfoldedWrong)

/- THE SECOND FORM. 'bulk': how many values and letters a reading holds, each counted each time it is reached (what is shared counts as often as it is met; a slice's spare places count too). A statement '..UptoSaid' is the law's where the arguments, and the package variables that the reading takes, are together of bulk at most 1048576: NARROWER than '..Said'. Prove '..Said' where nothing that the law and all that it calls make is longer than what came in: it says more and counts as full. Else prove '..UptoSaid'. A law counts once. -/
mutual
def uptoBulk {H : Type} : DataW H → Nat
  | .lit (.string bytes) => bytes.length + 1
  | .lit _ => 1
  | .nil => 1
  | .ptr d => uptoBulk d + 1
  | .slice elems spare => uptoBulkAll elems + uptoBulkAll spare + 1
  | .agg parts => uptoBulkAll parts + 1
  | .iface _ d => uptoBulk d + 1
  | .map entries => uptoBulkEntries entries + 1
  | .held _ => 1
def uptoBulkAll {H : Type} : List (DataW H) → Nat
  | [] => 0
  | d :: r => uptoBulk d + uptoBulkAll r
def uptoBulkEntries {H : Type} : List (Lit × DataW H) → Nat
  | [] => 0
  | x :: r => uptoBulkEntry x + uptoBulkEntries r
def uptoBulkEntry {H : Type} : Lit × DataW H → Nat
  | (.string bytes, d) => bytes.length + uptoBulk d + 1
  | (_, d) => uptoBulk d + 1
 end
def uptoSmall : (H : Type) → List (DataW H) → Bool := fun _ ds => decide (uptoBulkAll ds ≤ 1048576)
def OpenSpec.upto (s : _root_.Go.ChangeSpec) : _root_.Go.OpenSpec := { _root_.Go.OpenSpec.ofChange s with cond := some uptoSmall }

/-- 'glidepathlaw01.PulseLocked', WHERE WHAT IT READS IS OF BULK AT MOST 1048576: true; the input reads as it did. -/
def pulseLockedUptoRow : OpenClaim := { program := "ytdhekhichomoiaa", sum := "1933b254747d9f39dd6952e8535bb2716966cd9466e95c7351b251f5bb5be694", func := "glidepath/glidepathlaw01.PulseLocked", spec := "pulseLocked", unfollowed := true, recurses := true, apart := false, narrowed := true }
def PulseLockedUptoSaid : Prop := pulseLockedUptoRow.holds Try.pinned (OpenSpec.upto pulseLockedSpec)

/-- 'glidepathlaw01.PulseCorrelated', WHERE WHAT IT READS IS OF BULK AT MOST 1048576: true; the input reads as it did. -/
def pulseCorrelatedUptoRow : OpenClaim := { program := "ytdhekhichomoiaa", sum := "1933b254747d9f39dd6952e8535bb2716966cd9466e95c7351b251f5bb5be694", func := "glidepath/glidepathlaw01.PulseCorrelated", spec := "pulseCorrelated", unfollowed := true, recurses := true, apart := false, narrowed := true }
def PulseCorrelatedUptoSaid : Prop := pulseCorrelatedUptoRow.holds Try.pinned (OpenSpec.upto pulseCorrelatedSpec)

/-- 'glidepathlaw01.PulseCheck', WHERE WHAT IT READS IS OF BULK AT MOST 1048576: true; the input reads as it did. -/
def pulseCheckUptoRow : OpenClaim := { program := "ytdhekhichomoiaa", sum := "1933b254747d9f39dd6952e8535bb2716966cd9466e95c7351b251f5bb5be694", func := "glidepath/glidepathlaw01.PulseCheck", spec := "pulseCheck", unfollowed := true, recurses := true, apart := false, narrowed := true }
def PulseCheckUptoSaid : Prop := pulseCheckUptoRow.holds Try.pinned (OpenSpec.upto pulseCheckSpec)

/-- 'glidepathlaw01.PulseBelongs', WHERE WHAT IT READS IS OF BULK AT MOST 1048576: true; the input reads as it did. -/
def pulseBelongsUptoRow : OpenClaim := { program := "ytdhekhichomoiaa", sum := "1933b254747d9f39dd6952e8535bb2716966cd9466e95c7351b251f5bb5be694", func := "glidepath/glidepathlaw01.PulseBelongs", spec := "pulseBelongs", unfollowed := true, recurses := true, apart := false, narrowed := true }
def PulseBelongsUptoSaid : Prop := pulseBelongsUptoRow.holds Try.pinned (OpenSpec.upto pulseBelongsSpec)

/-- 'glidepathlaw01.PulseCleaned', WHERE WHAT IT READS IS OF BULK AT MOST 1048576: true; the input reads as it did. -/
def pulseCleanedUptoRow : OpenClaim := { program := "ytdhekhichomoiaa", sum := "1933b254747d9f39dd6952e8535bb2716966cd9466e95c7351b251f5bb5be694", func := "glidepath/glidepathlaw01.PulseCleaned", spec := "pulseCleaned", unfollowed := true, recurses := true, apart := false, narrowed := true }
def PulseCleanedUptoSaid : Prop := pulseCleanedUptoRow.holds Try.pinned (OpenSpec.upto pulseCleanedSpec)

/-- 'glidepathlaw01.PulseMixed', WHERE WHAT IT READS IS OF BULK AT MOST 1048576: true; the input reads as it did. -/
def pulseMixedUptoRow : OpenClaim := { program := "ytdhekhichomoiaa", sum := "1933b254747d9f39dd6952e8535bb2716966cd9466e95c7351b251f5bb5be694", func := "glidepath/glidepathlaw01.PulseMixed", spec := "pulseMixed", unfollowed := true, recurses := true, apart := false, narrowed := true }
def PulseMixedUptoSaid : Prop := pulseMixedUptoRow.holds Try.pinned (OpenSpec.upto pulseMixedSpec)

/-- 'glidepathlaw01.PulseLocks', WHERE WHAT IT READS IS OF BULK AT MOST 1048576: true; the input reads as it did. -/
def pulseLocksUptoRow : OpenClaim := { program := "ytdhekhichomoiaa", sum := "1933b254747d9f39dd6952e8535bb2716966cd9466e95c7351b251f5bb5be694", func := "glidepath/glidepathlaw01.PulseLocks", spec := "pulseLocks", unfollowed := true, recurses := true, apart := false, narrowed := true }
def PulseLocksUptoSaid : Prop := pulseLocksUptoRow.holds Try.pinned (OpenSpec.upto pulseLocksSpec)

/-- 'glidepathlaw01.PulseLines', WHERE WHAT IT READS IS OF BULK AT MOST 1048576: true; the input reads as it did. -/
def pulseLinesUptoRow : OpenClaim := { program := "ytdhekhichomoiaa", sum := "1933b254747d9f39dd6952e8535bb2716966cd9466e95c7351b251f5bb5be694", func := "glidepath/glidepathlaw01.PulseLines", spec := "pulseLines", unfollowed := true, recurses := true, apart := false, narrowed := true }
def PulseLinesUptoSaid : Prop := pulseLinesUptoRow.holds Try.pinned (OpenSpec.upto pulseLinesSpec)

/-- 'glidepathlaw01.PulseClipping', WHERE WHAT IT READS IS OF BULK AT MOST 1048576: true; the input reads as it did. -/
def pulseClippingUptoRow : OpenClaim := { program := "ytdhekhichomoiaa", sum := "1933b254747d9f39dd6952e8535bb2716966cd9466e95c7351b251f5bb5be694", func := "glidepath/glidepathlaw01.PulseClipping", spec := "pulseClipping", unfollowed := true, recurses := true, apart := false, narrowed := true }
def PulseClippingUptoSaid : Prop := pulseClippingUptoRow.holds Try.pinned (OpenSpec.upto pulseClippingSpec)

/-- 'glidepathlaw01.PulseSums', WHERE WHAT IT READS IS OF BULK AT MOST 1048576: true; the input reads as it did. -/
def pulseSumsUptoRow : OpenClaim := { program := "ytdhekhichomoiaa", sum := "1933b254747d9f39dd6952e8535bb2716966cd9466e95c7351b251f5bb5be694", func := "glidepath/glidepathlaw01.PulseSums", spec := "pulseSums", unfollowed := true, recurses := true, apart := false, narrowed := true }
def PulseSumsUptoSaid : Prop := pulseSumsUptoRow.holds Try.pinned (OpenSpec.upto pulseSumsSpec)

/-- 'glidepathlaw01.PulseCuts', WHERE WHAT IT READS IS OF BULK AT MOST 1048576: true; the input reads as it did. -/
def pulseCutsUptoRow : OpenClaim := { program := "ytdhekhichomoiaa", sum := "1933b254747d9f39dd6952e8535bb2716966cd9466e95c7351b251f5bb5be694", func := "glidepath/glidepathlaw01.PulseCuts", spec := "pulseCuts", unfollowed := true, recurses := true, apart := false, narrowed := true }
def PulseCutsUptoSaid : Prop := pulseCutsUptoRow.holds Try.pinned (OpenSpec.upto pulseCutsSpec)

/-- 'glidepathlaw01.PulseFolds', WHERE WHAT IT READS IS OF BULK AT MOST 1048576: true; the input reads as it did. -/
def pulseFoldsUptoRow : OpenClaim := { program := "ytdhekhichomoiaa", sum := "1933b254747d9f39dd6952e8535bb2716966cd9466e95c7351b251f5bb5be694", func := "glidepath/glidepathlaw01.PulseFolds", spec := "pulseFolds", unfollowed := true, recurses := true, apart := false, narrowed := true }
def PulseFoldsUptoSaid : Prop := pulseFoldsUptoRow.holds Try.pinned (OpenSpec.upto pulseFoldsSpec)

/-- 'glidepathlaw01.PulseUnfolded', WHERE WHAT IT READS IS OF BULK AT MOST 1048576: true; the input reads as it did. -/
def pulseUnfoldedUptoRow : OpenClaim := { program := "ytdhekhichomoiaa", sum := "1933b254747d9f39dd6952e8535bb2716966cd9466e95c7351b251f5bb5be694", func := "glidepath/glidepathlaw01.PulseUnfolded", spec := "pulseUnfolded", unfollowed := true, recurses := true, apart := false, narrowed := true }
def PulseUnfoldedUptoSaid : Prop := pulseUnfoldedUptoRow.holds Try.pinned (OpenSpec.upto pulseUnfoldedSpec)

end Rows
end Go.Proofs.Ytdhekhichomoiaa
