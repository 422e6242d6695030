/-
  No cell of these rows narrows 'for every input' (looked for: loops, veiled, ifaces, maps, wideKeys, modest, calm, conditions, laid).
  DERIVED. THE GIVEN ROWS OF THIS SEAT. 7 by the template 'for every input the law returns true; each argument reads behind the call as it read before'; 0 by the template 'total and deterministic' (their statements: YthlelbflfbgnkaaTotals.lean).
  GIVEN WITH THE SEED: the statements are not yours to turn. If you find one false, say at which input.
  Laid BY PROGRAM, IN A SANDBOX (cutbox-rows.mjs): the forced cells as the released guide's own fill.sh prints them over the translation 27e2c134afccdbe3… (all of the seat's roots in one cut). By AI agents, Wed Nov 11 2026. No macro, syntax, notation, axiom, sorry.
-/
import Derived.Test.YthlelbflfbgnkaaChecked
import GoSem.Claim
import GoSem.ClaimJoined
import GoSem.ClaimMapViews
import Derived.JoinedTies
import Derived.KernelRfl
namespace Go.Proofs.Ythlelbflfbgnkaa
/- THE CELL 'sum', in the pinned program and in every row, IS THE sha256 OF THE DUMP (.gsa) THAT YthlelbflfbgnkaaProg.lean LOADS. Nothing in Lean hashes anything: it is a label: what it is worth is what the hold of that sum in a sandbox is worth. -/
noncomputable def Try.pinned : Pinned := { name := "ythlelbflfbgnkaa", sum := "27e2c134afccdbe33b6f6c1401d6517cc5862ca84431246b9b6a2ab36fff5005", checked := Try.checked }
namespace Rows
def none {H : Type} : Left H := { results := [], args := [] }

/-- 'pinballlaw37.ShowStates': WHATEVER THE INPUT: true; the input reads as it did. -/
def showStatesSpec : ChangeSpec := { name := "showStates", fn := fun _ => fun
  | [d] => { results := [.lit (.bool true)], args := [d] }
  | _ => none }
def showStatesRow : OpenClaim := { program := "ythlelbflfbgnkaa", sum := "27e2c134afccdbe33b6f6c1401d6517cc5862ca84431246b9b6a2ab36fff5005", func := "pinball/pinballlaw37.ShowStates", spec := "showStates", unfollowed := true, recurses := true, apart := false }
def ShowStatesSaid : Prop := showStatesRow.holds Try.pinned (OpenSpec.ofChange showStatesSpec)

/-- ITS FALSE NEIGHBOUR: 'it returns false'. Refute it at one input. -/
def showStatesWrong : ChangeSpec := { name := "showStates", fn := fun _ => fun
  | [d] => { results := [.lit (.bool false)], args := [d] }
  | _ => none }
def ShowStatesWrongFalsely : Prop := showStatesRow.holds Try.pinned (OpenSpec.ofChange showStatesWrong)

/-- 'pinballlaw37.ShowHides': WHATEVER THE INPUT: true; the input reads as it did. -/
def showHidesSpec : ChangeSpec := { name := "showHides", fn := fun _ => fun
  | [d1, d2, d3] => { results := [.lit (.bool true)], args := [d1, d2, d3] }
  | _ => none }
def showHidesRow : OpenClaim := { program := "ythlelbflfbgnkaa", sum := "27e2c134afccdbe33b6f6c1401d6517cc5862ca84431246b9b6a2ab36fff5005", func := "pinball/pinballlaw37.ShowHides", spec := "showHides", unfollowed := true, recurses := true, apart := false }
def ShowHidesSaid : Prop := showHidesRow.holds Try.pinned (OpenSpec.ofChange showHidesSpec)

/-- ITS FALSE NEIGHBOUR: 'it returns false'. Refute it at one input. -/
def showHidesWrong : ChangeSpec := { name := "showHides", fn := fun _ => fun
  | [d1, d2, d3] => { results := [.lit (.bool false)], args := [d1, d2, d3] }
  | _ => none }
def ShowHidesWrongFalsely : Prop := showHidesRow.holds Try.pinned (OpenSpec.ofChange showHidesWrong)

/-- 'pinballlaw37.ShowRuns': WHATEVER THE INPUT: true; the input reads as it did. -/
def showRunsSpec : ChangeSpec := { name := "showRuns", fn := fun _ => fun
  | [d1, d2, d3] => { results := [.lit (.bool true)], args := [d1, d2, d3] }
  | _ => none }
def showRunsRow : OpenClaim := { program := "ythlelbflfbgnkaa", sum := "27e2c134afccdbe33b6f6c1401d6517cc5862ca84431246b9b6a2ab36fff5005", func := "pinball/pinballlaw37.ShowRuns", spec := "showRuns", unfollowed := true, recurses := true, apart := false }
def ShowRunsSaid : Prop := showRunsRow.holds Try.pinned (OpenSpec.ofChange showRunsSpec)

/-- ITS FALSE NEIGHBOUR: 'it returns false'. Refute it at one input. -/
def showRunsWrong : ChangeSpec := { name := "showRuns", fn := fun _ => fun
  | [d1, d2, d3] => { results := [.lit (.bool false)], args := [d1, d2, d3] }
  | _ => none }
def ShowRunsWrongFalsely : Prop := showRunsRow.holds Try.pinned (OpenSpec.ofChange showRunsWrong)

/-- 'pinballlaw37.ShowRepeats': WHATEVER THE INPUT: true; the input reads as it did. -/
def showRepeatsSpec : ChangeSpec := { name := "showRepeats", fn := fun _ => fun
  | [d1, d2, d3] => { results := [.lit (.bool true)], args := [d1, d2, d3] }
  | _ => none }
def showRepeatsRow : OpenClaim := { program := "ythlelbflfbgnkaa", sum := "27e2c134afccdbe33b6f6c1401d6517cc5862ca84431246b9b6a2ab36fff5005", func := "pinball/pinballlaw37.ShowRepeats", spec := "showRepeats", unfollowed := true, recurses := true, apart := false }
def ShowRepeatsSaid : Prop := showRepeatsRow.holds Try.pinned (OpenSpec.ofChange showRepeatsSpec)

/-- ITS FALSE NEIGHBOUR: 'it returns false'. Refute it at one input. -/
def showRepeatsWrong : ChangeSpec := { name := "showRepeats", fn := fun _ => fun
  | [d1, d2, d3] => { results := [.lit (.bool false)], args := [d1, d2, d3] }
  | _ => none }
def ShowRepeatsWrongFalsely : Prop := showRepeatsRow.holds Try.pinned (OpenSpec.ofChange showRepeatsWrong)

/-- 'pinballlaw37.ShowPrunes': WHATEVER THE INPUT: true; the input reads as it did. -/
def showPrunesSpec : ChangeSpec := { name := "showPrunes", fn := fun _ => fun
  | [d1, d2, d3] => { results := [.lit (.bool true)], args := [d1, d2, d3] }
  | _ => none }
def showPrunesRow : OpenClaim := { program := "ythlelbflfbgnkaa", sum := "27e2c134afccdbe33b6f6c1401d6517cc5862ca84431246b9b6a2ab36fff5005", func := "pinball/pinballlaw37.ShowPrunes", spec := "showPrunes", unfollowed := true, recurses := true, apart := false }
def ShowPrunesSaid : Prop := showPrunesRow.holds Try.pinned (OpenSpec.ofChange showPrunesSpec)

/-- ITS FALSE NEIGHBOUR: 'it returns false'. Refute it at one input. -/
def showPrunesWrong : ChangeSpec := { name := "showPrunes", fn := fun _ => fun
  | [d1, d2, d3] => { results := [.lit (.bool false)], args := [d1, d2, d3] }
  | _ => none }
def ShowPrunesWrongFalsely : Prop := showPrunesRow.holds Try.pinned (OpenSpec.ofChange showPrunesWrong)

/-- 'pinballlaw37.ShowPlays': WHATEVER THE INPUT: true; the input reads as it did. -/
def showPlaysSpec : ChangeSpec := { name := "showPlays", fn := fun _ => fun
  | [d1, d2, d3] => { results := [.lit (.bool true)], args := [d1, d2, d3] }
  | _ => none }
def showPlaysRow : OpenClaim := { program := "ythlelbflfbgnkaa", sum := "27e2c134afccdbe33b6f6c1401d6517cc5862ca84431246b9b6a2ab36fff5005", func := "pinball/pinballlaw37.ShowPlays", spec := "showPlays", unfollowed := true, recurses := true, apart := false }
def ShowPlaysSaid : Prop := showPlaysRow.holds Try.pinned (OpenSpec.ofChange showPlaysSpec)

/-- ITS FALSE NEIGHBOUR: 'it returns false'. Refute it at one input. -/
def showPlaysWrong : ChangeSpec := { name := "showPlays", fn := fun _ => fun
  | [d1, d2, d3] => { results := [.lit (.bool false)], args := [d1, d2, d3] }
  | _ => none }
def ShowPlaysWrongFalsely : Prop := showPlaysRow.holds Try.pinned (OpenSpec.ofChange showPlaysWrong)

/-- 'pinballlaw37.ShowRestarts': WHATEVER THE INPUT: true; the input reads as it did. -/
def showRestartsSpec : ChangeSpec := { name := "showRestarts", fn := fun _ => fun
  | [d1, d2, d3] => { results := [.lit (.bool true)], args := [d1, d2, d3] }
  | _ => none }
def showRestartsRow : OpenClaim := { program := "ythlelbflfbgnkaa", sum := "27e2c134afccdbe33b6f6c1401d6517cc5862ca84431246b9b6a2ab36fff5005", func := "pinball/pinballlaw37.ShowRestarts", spec := "showRestarts", unfollowed := true, recurses := true, apart := false }
def ShowRestartsSaid : Prop := showRestartsRow.holds Try.pinned (OpenSpec.ofChange showRestartsSpec)

/-- ITS FALSE NEIGHBOUR: 'it returns false'. Refute it at one input. -/
def showRestartsWrong : ChangeSpec := { name := "showRestarts", fn := fun _ => fun
  | [d1, d2, d3] => { results := [.lit (.bool false)], args := [d1, d2, d3] }
  | _ => none }
def ShowRestartsWrongFalsely : Prop := showRestartsRow.holds Try.pinned (OpenSpec.ofChange showRestartsWrong)

/- THE SECOND FORM. 'bulk': how many values and letters a reading holds, each counted each time it is reached (what is shared counts as often as it is met; a slice's spare places count too). A statement '..UptoSaid' is the law's where the arguments, and the package variables that the reading takes, are together of bulk at most 1048576: NARROWER than '..Said'. Prove '..Said' where nothing that the law and all that it calls make is longer than what came in: it says more and counts as full. Else prove '..UptoSaid'. A law counts once. -/
mutual
def uptoBulk {H : Type} : DataW H → Nat
  | .lit (.string bytes) => bytes.length + 1
  | .lit _ => 1
  | .nil => 1
  | .ptr d => uptoBulk d + 1
  | .slice elems spare => uptoBulkAll elems + uptoBulkAll spare + 1
  | .agg parts => uptoBulkAll parts + 1
  | .iface _ d => uptoBulk d + 1
  | .map entries => uptoBulkEntries entries + 1
  | .held _ => 1
def uptoBulkAll {H : Type} : List (DataW H) → Nat
  | [] => 0
  | d :: r => uptoBulk d + uptoBulkAll r
def uptoBulkEntries {H : Type} : List (Lit × DataW H) → Nat
  | [] => 0
  | x :: r => uptoBulkEntry x + uptoBulkEntries r
def uptoBulkEntry {H : Type} : Lit × DataW H → Nat
  | (.string bytes, d) => bytes.length + uptoBulk d + 1
  | (_, d) => uptoBulk d + 1
 end
def uptoSmall : (H : Type) → List (DataW H) → Bool := fun _ ds => decide (uptoBulkAll ds ≤ 1048576)
def OpenSpec.upto (s : _root_.Go.ChangeSpec) : _root_.Go.OpenSpec := { _root_.Go.OpenSpec.ofChange s with cond := some uptoSmall }

/-- 'pinballlaw37.ShowStates', WHERE WHAT IT READS IS OF BULK AT MOST 1048576: true; the input reads as it did. -/
def showStatesUptoRow : OpenClaim := { program := "ythlelbflfbgnkaa", sum := "27e2c134afccdbe33b6f6c1401d6517cc5862ca84431246b9b6a2ab36fff5005", func := "pinball/pinballlaw37.ShowStates", spec := "showStates", unfollowed := true, recurses := true, apart := false, narrowed := true }
def ShowStatesUptoSaid : Prop := showStatesUptoRow.holds Try.pinned (OpenSpec.upto showStatesSpec)

/-- 'pinballlaw37.ShowHides', WHERE WHAT IT READS IS OF BULK AT MOST 1048576: true; the input reads as it did. -/
def showHidesUptoRow : OpenClaim := { program := "ythlelbflfbgnkaa", sum := "27e2c134afccdbe33b6f6c1401d6517cc5862ca84431246b9b6a2ab36fff5005", func := "pinball/pinballlaw37.ShowHides", spec := "showHides", unfollowed := true, recurses := true, apart := false, narrowed := true }
def ShowHidesUptoSaid : Prop := showHidesUptoRow.holds Try.pinned (OpenSpec.upto showHidesSpec)

/-- 'pinballlaw37.ShowRuns', WHERE WHAT IT READS IS OF BULK AT MOST 1048576: true; the input reads as it did. -/
def showRunsUptoRow : OpenClaim := { program := "ythlelbflfbgnkaa", sum := "27e2c134afccdbe33b6f6c1401d6517cc5862ca84431246b9b6a2ab36fff5005", func := "pinball/pinballlaw37.ShowRuns", spec := "showRuns", unfollowed := true, recurses := true, apart := false, narrowed := true }
def ShowRunsUptoSaid : Prop := showRunsUptoRow.holds Try.pinned (OpenSpec.upto showRunsSpec)

/-- 'pinballlaw37.ShowRepeats', WHERE WHAT IT READS IS OF BULK AT MOST 1048576: true; the input reads as it did. -/
def showRepeatsUptoRow : OpenClaim := { program := "ythlelbflfbgnkaa", sum := "27e2c134afccdbe33b6f6c1401d6517cc5862ca84431246b9b6a2ab36fff5005", func := "pinball/pinballlaw37.ShowRepeats", spec := "showRepeats", unfollowed := true, recurses := true, apart := false, narrowed := true }
def ShowRepeatsUptoSaid : Prop := showRepeatsUptoRow.holds Try.pinned (OpenSpec.upto showRepeatsSpec)

/-- 'pinballlaw37.ShowPrunes', WHERE WHAT IT READS IS OF BULK AT MOST 1048576: true; the input reads as it did. -/
def showPrunesUptoRow : OpenClaim := { program := "ythlelbflfbgnkaa", sum := "27e2c134afccdbe33b6f6c1401d6517cc5862ca84431246b9b6a2ab36fff5005", func := "pinball/pinballlaw37.ShowPrunes", spec := "showPrunes", unfollowed := true, recurses := true, apart := false, narrowed := true }
def ShowPrunesUptoSaid : Prop := showPrunesUptoRow.holds Try.pinned (OpenSpec.upto showPrunesSpec)

/-- 'pinballlaw37.ShowPlays', WHERE WHAT IT READS IS OF BULK AT MOST 1048576: true; the input reads as it did. -/
def showPlaysUptoRow : OpenClaim := { program := "ythlelbflfbgnkaa", sum := "27e2c134afccdbe33b6f6c1401d6517cc5862ca84431246b9b6a2ab36fff5005", func := "pinball/pinballlaw37.ShowPlays", spec := "showPlays", unfollowed := true, recurses := true, apart := false, narrowed := true }
def ShowPlaysUptoSaid : Prop := showPlaysUptoRow.holds Try.pinned (OpenSpec.upto showPlaysSpec)

/-- 'pinballlaw37.ShowRestarts', WHERE WHAT IT READS IS OF BULK AT MOST 1048576: true; the input reads as it did. -/
def showRestartsUptoRow : OpenClaim := { program := "ythlelbflfbgnkaa", sum := "27e2c134afccdbe33b6f6c1401d6517cc5862ca84431246b9b6a2ab36fff5005", func := "pinball/pinballlaw37.ShowRestarts", spec := "showRestarts", unfollowed := true, recurses := true, apart := false, narrowed := true }
def ShowRestartsUptoSaid : Prop := showRestartsUptoRow.holds Try.pinned (OpenSpec.upto showRestartsSpec)

end Rows
end Go.Proofs.Ythlelbflfbgnkaa
