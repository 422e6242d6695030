/-
  No cell of these rows narrows 'for every input' (looked for: loops, veiled, ifaces, maps, wideKeys, modest, calm, conditions, laid).
  DERIVED. THE GIVEN ROWS OF THIS SEAT. 10 by the template 'for every input the law returns true; each argument reads behind the call as it read before'; 0 by the template 'total and deterministic' (their statements: YtdjpkhjaibdogaaGreatTotals.lean).
  GIVEN WITH THE SEED: the statements are not yours to turn. If you find one false, say at which input.
  Laid BY PROGRAM, IN A SANDBOX (cutbox-rows.mjs): the forced cells as the released guide's own fill.sh prints them over the translation a03bdcdcd5ffff2d… (all of the seat's roots in one cut). By AI agents, Wed Nov 11 2026. No macro, syntax, notation, axiom, sorry.
-/
import Derived.Test.YtdjpkhjaibdogaaGreatChecked
import GoSem.Claim
import GoSem.ClaimJoined
import GoSem.ClaimMapViews
import Derived.JoinedTies
import Derived.KernelRfl
namespace Go.Proofs.YtdjpkhjaibdogaaGreat
/- THE CELL 'sum', in the pinned program and in every row, IS THE sha256 OF THE DUMP (.gsa) THAT YtdjpkhjaibdogaaGreatProg.lean LOADS. Nothing in Lean hashes anything: it is a label: what it is worth is what the hold of that sum in a sandbox is worth. -/
noncomputable def Tryz.pinned : Pinned := { name := "ytdjpkhjaibdogaagreat", sum := "a03bdcdcd5ffff2d044960d3928608460d879de5852ec88ec406b103004ccbae", checked := Tryz.checked }
namespace Rows
def none {H : Type} : Left H := { results := [], args := [] }

/-- 'pinballlaw36.ModesSteps': WHATEVER THE INPUT: true; the input reads as it did. -/
def modesStepsSpec : ChangeSpec := { name := "modesSteps", fn := fun _ => fun
  | [d1, d2, d3] => { results := [.lit (.bool true)], args := [d1, d2, d3] }
  | _ => none }
def modesStepsRow : OpenClaim := { program := "ytdjpkhjaibdogaagreat", sum := "a03bdcdcd5ffff2d044960d3928608460d879de5852ec88ec406b103004ccbae", func := "pinball/pinballlaw36.ModesSteps", spec := "modesSteps", inPlace := ["slices.overlaps[pinball/api.LampOrder]"], unfollowed := true, recurses := true, apart := false }
def ModesStepsSaid : Prop := modesStepsRow.holds Tryz.pinned (OpenSpec.ofChange modesStepsSpec)

/-- ITS FALSE NEIGHBOUR: 'it returns false'. Refute it at one input. -/
def modesStepsWrong : ChangeSpec := { name := "modesSteps", fn := fun _ => fun
  | [d1, d2, d3] => { results := [.lit (.bool false)], args := [d1, d2, d3] }
  | _ => none }
def ModesStepsWrongFalsely : Prop := modesStepsRow.holds Tryz.pinned (OpenSpec.ofChange modesStepsWrong)

/-- 'pinballlaw36.ModesRuns': WHATEVER THE INPUT: true; the input reads as it did. -/
def modesRunsSpec : ChangeSpec := { name := "modesRuns", fn := fun _ => fun
  | [d1, d2] => { results := [.lit (.bool true)], args := [d1, d2] }
  | _ => none }
def modesRunsRow : OpenClaim := { program := "ytdjpkhjaibdogaagreat", sum := "a03bdcdcd5ffff2d044960d3928608460d879de5852ec88ec406b103004ccbae", func := "pinball/pinballlaw36.ModesRuns", spec := "modesRuns", inPlace := ["slices.overlaps[pinball/api.LampOrder]"], unfollowed := true, recurses := true, apart := false }
def ModesRunsSaid : Prop := modesRunsRow.holds Tryz.pinned (OpenSpec.ofChange modesRunsSpec)

/-- ITS FALSE NEIGHBOUR: 'it returns false'. Refute it at one input. -/
def modesRunsWrong : ChangeSpec := { name := "modesRuns", fn := fun _ => fun
  | [d1, d2] => { results := [.lit (.bool false)], args := [d1, d2] }
  | _ => none }
def ModesRunsWrongFalsely : Prop := modesRunsRow.holds Tryz.pinned (OpenSpec.ofChange modesRunsWrong)

/-- 'pinballlaw36.ModesQueue': WHATEVER THE INPUT: true; the input reads as it did. -/
def modesQueueSpec : ChangeSpec := { name := "modesQueue", fn := fun _ => fun
  | [d] => { results := [.lit (.bool true)], args := [d] }
  | _ => none }
def modesQueueRow : OpenClaim := { program := "ytdjpkhjaibdogaagreat", sum := "a03bdcdcd5ffff2d044960d3928608460d879de5852ec88ec406b103004ccbae", func := "pinball/pinballlaw36.ModesQueue", spec := "modesQueue", inPlace := ["slices.overlaps[pinball/api.LampOrder]"], unfollowed := true, recurses := true, apart := false }
def ModesQueueSaid : Prop := modesQueueRow.holds Tryz.pinned (OpenSpec.ofChange modesQueueSpec)

/-- ITS FALSE NEIGHBOUR: 'it returns false'. Refute it at one input. -/
def modesQueueWrong : ChangeSpec := { name := "modesQueue", fn := fun _ => fun
  | [d] => { results := [.lit (.bool false)], args := [d] }
  | _ => none }
def ModesQueueWrongFalsely : Prop := modesQueueRow.holds Tryz.pinned (OpenSpec.ofChange modesQueueWrong)

/-- 'pinballlaw36.ModesFaults': WHATEVER THE INPUT: true; the input reads as it did. -/
def modesFaultsSpec : ChangeSpec := { name := "modesFaults", fn := fun _ => fun
  | [d1, d2, d3] => { results := [.lit (.bool true)], args := [d1, d2, d3] }
  | _ => none }
def modesFaultsRow : OpenClaim := { program := "ytdjpkhjaibdogaagreat", sum := "a03bdcdcd5ffff2d044960d3928608460d879de5852ec88ec406b103004ccbae", func := "pinball/pinballlaw36.ModesFaults", spec := "modesFaults", inPlace := ["slices.overlaps[pinball/api.LampOrder]"], unfollowed := true, recurses := true, apart := false }
def ModesFaultsSaid : Prop := modesFaultsRow.holds Tryz.pinned (OpenSpec.ofChange modesFaultsSpec)

/-- ITS FALSE NEIGHBOUR: 'it returns false'. Refute it at one input. -/
def modesFaultsWrong : ChangeSpec := { name := "modesFaults", fn := fun _ => fun
  | [d1, d2, d3] => { results := [.lit (.bool false)], args := [d1, d2, d3] }
  | _ => none }
def ModesFaultsWrongFalsely : Prop := modesFaultsRow.holds Tryz.pinned (OpenSpec.ofChange modesFaultsWrong)

/-- 'pinballlaw36.ModesBegins': WHATEVER THE INPUT: true; the input reads as it did. -/
def modesBeginsSpec : ChangeSpec := { name := "modesBegins", fn := fun _ => fun
  | [d1, d2] => { results := [.lit (.bool true)], args := [d1, d2] }
  | _ => none }
def modesBeginsRow : OpenClaim := { program := "ytdjpkhjaibdogaagreat", sum := "a03bdcdcd5ffff2d044960d3928608460d879de5852ec88ec406b103004ccbae", func := "pinball/pinballlaw36.ModesBegins", spec := "modesBegins", inPlace := ["slices.overlaps[pinball/api.LampOrder]"], unfollowed := true, recurses := true, apart := false }
def ModesBeginsSaid : Prop := modesBeginsRow.holds Tryz.pinned (OpenSpec.ofChange modesBeginsSpec)

/-- ITS FALSE NEIGHBOUR: 'it returns false'. Refute it at one input. -/
def modesBeginsWrong : ChangeSpec := { name := "modesBegins", fn := fun _ => fun
  | [d1, d2] => { results := [.lit (.bool false)], args := [d1, d2] }
  | _ => none }
def ModesBeginsWrongFalsely : Prop := modesBeginsRow.holds Tryz.pinned (OpenSpec.ofChange modesBeginsWrong)

/-- 'pinballlaw36.ModesLamps': WHATEVER THE INPUT: true; the input reads as it did. -/
def modesLampsSpec : ChangeSpec := { name := "modesLamps", fn := fun _ => fun
  | [d1, d2, d3] => { results := [.lit (.bool true)], args := [d1, d2, d3] }
  | _ => none }
def modesLampsRow : OpenClaim := { program := "ytdjpkhjaibdogaagreat", sum := "a03bdcdcd5ffff2d044960d3928608460d879de5852ec88ec406b103004ccbae", func := "pinball/pinballlaw36.ModesLamps", spec := "modesLamps", inPlace := ["slices.overlaps[pinball/api.LampOrder]"], unfollowed := true, recurses := true, apart := false }
def ModesLampsSaid : Prop := modesLampsRow.holds Tryz.pinned (OpenSpec.ofChange modesLampsSpec)

/-- ITS FALSE NEIGHBOUR: 'it returns false'. Refute it at one input. -/
def modesLampsWrong : ChangeSpec := { name := "modesLamps", fn := fun _ => fun
  | [d1, d2, d3] => { results := [.lit (.bool false)], args := [d1, d2, d3] }
  | _ => none }
def ModesLampsWrongFalsely : Prop := modesLampsRow.holds Tryz.pinned (OpenSpec.ofChange modesLampsWrong)

/-- 'pinballlaw36.ModesHandles': WHATEVER THE INPUT: true; the input reads as it did. -/
def modesHandlesSpec : ChangeSpec := { name := "modesHandles", fn := fun _ => fun
  | [d1, d2, d3] => { results := [.lit (.bool true)], args := [d1, d2, d3] }
  | _ => none }
def modesHandlesRow : OpenClaim := { program := "ytdjpkhjaibdogaagreat", sum := "a03bdcdcd5ffff2d044960d3928608460d879de5852ec88ec406b103004ccbae", func := "pinball/pinballlaw36.ModesHandles", spec := "modesHandles", inPlace := ["slices.overlaps[pinball/api.LampOrder]"], unfollowed := true, recurses := true, apart := false }
def ModesHandlesSaid : Prop := modesHandlesRow.holds Tryz.pinned (OpenSpec.ofChange modesHandlesSpec)

/-- ITS FALSE NEIGHBOUR: 'it returns false'. Refute it at one input. -/
def modesHandlesWrong : ChangeSpec := { name := "modesHandles", fn := fun _ => fun
  | [d1, d2, d3] => { results := [.lit (.bool false)], args := [d1, d2, d3] }
  | _ => none }
def ModesHandlesWrongFalsely : Prop := modesHandlesRow.holds Tryz.pinned (OpenSpec.ofChange modesHandlesWrong)

/-- 'pinballlaw36.ModesPriority': WHATEVER THE INPUT: true; the input reads as it did. -/
def modesPrioritySpec : ChangeSpec := { name := "modesPriority", fn := fun _ => fun
  | [d1, d2, d3] => { results := [.lit (.bool true)], args := [d1, d2, d3] }
  | _ => none }
def modesPriorityRow : OpenClaim := { program := "ytdjpkhjaibdogaagreat", sum := "a03bdcdcd5ffff2d044960d3928608460d879de5852ec88ec406b103004ccbae", func := "pinball/pinballlaw36.ModesPriority", spec := "modesPriority", inPlace := ["slices.overlaps[pinball/api.LampOrder]"], unfollowed := true, recurses := true, apart := false }
def ModesPrioritySaid : Prop := modesPriorityRow.holds Tryz.pinned (OpenSpec.ofChange modesPrioritySpec)

/-- ITS FALSE NEIGHBOUR: 'it returns false'. Refute it at one input. -/
def modesPriorityWrong : ChangeSpec := { name := "modesPriority", fn := fun _ => fun
  | [d1, d2, d3] => { results := [.lit (.bool false)], args := [d1, d2, d3] }
  | _ => none }
def ModesPriorityWrongFalsely : Prop := modesPriorityRow.holds Tryz.pinned (OpenSpec.ofChange modesPriorityWrong)

/-- 'pinballlaw36.ModesWatchdog': WHATEVER THE INPUT: true; the input reads as it did. -/
def modesWatchdogSpec : ChangeSpec := { name := "modesWatchdog", fn := fun _ => fun
  | [d1, d2] => { results := [.lit (.bool true)], args := [d1, d2] }
  | _ => none }
def modesWatchdogRow : OpenClaim := { program := "ytdjpkhjaibdogaagreat", sum := "a03bdcdcd5ffff2d044960d3928608460d879de5852ec88ec406b103004ccbae", func := "pinball/pinballlaw36.ModesWatchdog", spec := "modesWatchdog", inPlace := ["slices.overlaps[pinball/api.LampOrder]"], unfollowed := true, recurses := true, apart := false }
def ModesWatchdogSaid : Prop := modesWatchdogRow.holds Tryz.pinned (OpenSpec.ofChange modesWatchdogSpec)

/-- ITS FALSE NEIGHBOUR: 'it returns false'. Refute it at one input. -/
def modesWatchdogWrong : ChangeSpec := { name := "modesWatchdog", fn := fun _ => fun
  | [d1, d2] => { results := [.lit (.bool false)], args := [d1, d2] }
  | _ => none }
def ModesWatchdogWrongFalsely : Prop := modesWatchdogRow.holds Tryz.pinned (OpenSpec.ofChange modesWatchdogWrong)

/-- 'pinballlaw36.ModesStates': WHATEVER THE INPUT: true; the input reads as it did. -/
def modesStatesSpec : ChangeSpec := { name := "modesStates", fn := fun _ => fun
  | [d1, d2, d3] => { results := [.lit (.bool true)], args := [d1, d2, d3] }
  | _ => none }
def modesStatesRow : OpenClaim := { program := "ytdjpkhjaibdogaagreat", sum := "a03bdcdcd5ffff2d044960d3928608460d879de5852ec88ec406b103004ccbae", func := "pinball/pinballlaw36.ModesStates", spec := "modesStates", inPlace := ["slices.overlaps[pinball/api.LampOrder]"], unfollowed := true, recurses := true, apart := false }
def ModesStatesSaid : Prop := modesStatesRow.holds Tryz.pinned (OpenSpec.ofChange modesStatesSpec)

/-- ITS FALSE NEIGHBOUR: 'it returns false'. Refute it at one input. -/
def modesStatesWrong : ChangeSpec := { name := "modesStates", fn := fun _ => fun
  | [d1, d2, d3] => { results := [.lit (.bool false)], args := [d1, d2, d3] }
  | _ => none }
def ModesStatesWrongFalsely : Prop := modesStatesRow.holds Tryz.pinned (OpenSpec.ofChange modesStatesWrong)

/- THE SECOND FORM. 'bulk': how many values and letters a reading holds, each counted each time it is reached (what is shared counts as often as it is met; a slice's spare places count too). A statement '..UptoSaid' is the law's where the arguments, and the package variables that the reading takes, are together of bulk at most 1048576: NARROWER than '..Said'. Prove '..Said' where nothing that the law and all that it calls make is longer than what came in: it says more and counts as full. Else prove '..UptoSaid'. A law counts once. -/
mutual
def uptoBulk {H : Type} : DataW H → Nat
  | .lit (.string bytes) => bytes.length + 1
  | .lit _ => 1
  | .nil => 1
  | .ptr d => uptoBulk d + 1
  | .slice elems spare => uptoBulkAll elems + uptoBulkAll spare + 1
  | .agg parts => uptoBulkAll parts + 1
  | .iface _ d => uptoBulk d + 1
  | .map entries => uptoBulkEntries entries + 1
  | .held _ => 1
def uptoBulkAll {H : Type} : List (DataW H) → Nat
  | [] => 0
  | d :: r => uptoBulk d + uptoBulkAll r
def uptoBulkEntries {H : Type} : List (Lit × DataW H) → Nat
  | [] => 0
  | x :: r => uptoBulkEntry x + uptoBulkEntries r
def uptoBulkEntry {H : Type} : Lit × DataW H → Nat
  | (.string bytes, d) => bytes.length + uptoBulk d + 1
  | (_, d) => uptoBulk d + 1
 end
def uptoSmall : (H : Type) → List (DataW H) → Bool := fun _ ds => decide (uptoBulkAll ds ≤ 1048576)
def OpenSpec.upto (s : _root_.Go.ChangeSpec) : _root_.Go.OpenSpec := { _root_.Go.OpenSpec.ofChange s with cond := some uptoSmall }

/-- 'pinballlaw36.ModesSteps', WHERE WHAT IT READS IS OF BULK AT MOST 1048576: true; the input reads as it did. -/
def modesStepsUptoRow : OpenClaim := { program := "ytdjpkhjaibdogaagreat", sum := "a03bdcdcd5ffff2d044960d3928608460d879de5852ec88ec406b103004ccbae", func := "pinball/pinballlaw36.ModesSteps", spec := "modesSteps", inPlace := ["slices.overlaps[pinball/api.LampOrder]"], unfollowed := true, recurses := true, apart := false, narrowed := true }
def ModesStepsUptoSaid : Prop := modesStepsUptoRow.holds Tryz.pinned (OpenSpec.upto modesStepsSpec)

/-- 'pinballlaw36.ModesRuns', WHERE WHAT IT READS IS OF BULK AT MOST 1048576: true; the input reads as it did. -/
def modesRunsUptoRow : OpenClaim := { program := "ytdjpkhjaibdogaagreat", sum := "a03bdcdcd5ffff2d044960d3928608460d879de5852ec88ec406b103004ccbae", func := "pinball/pinballlaw36.ModesRuns", spec := "modesRuns", inPlace := ["slices.overlaps[pinball/api.LampOrder]"], unfollowed := true, recurses := true, apart := false, narrowed := true }
def ModesRunsUptoSaid : Prop := modesRunsUptoRow.holds Tryz.pinned (OpenSpec.upto modesRunsSpec)

/-- 'pinballlaw36.ModesQueue', WHERE WHAT IT READS IS OF BULK AT MOST 1048576: true; the input reads as it did. -/
def modesQueueUptoRow : OpenClaim := { program := "ytdjpkhjaibdogaagreat", sum := "a03bdcdcd5ffff2d044960d3928608460d879de5852ec88ec406b103004ccbae", func := "pinball/pinballlaw36.ModesQueue", spec := "modesQueue", inPlace := ["slices.overlaps[pinball/api.LampOrder]"], unfollowed := true, recurses := true, apart := false, narrowed := true }
def ModesQueueUptoSaid : Prop := modesQueueUptoRow.holds Tryz.pinned (OpenSpec.upto modesQueueSpec)

/-- 'pinballlaw36.ModesFaults', WHERE WHAT IT READS IS OF BULK AT MOST 1048576: true; the input reads as it did. -/
def modesFaultsUptoRow : OpenClaim := { program := "ytdjpkhjaibdogaagreat", sum := "a03bdcdcd5ffff2d044960d3928608460d879de5852ec88ec406b103004ccbae", func := "pinball/pinballlaw36.ModesFaults", spec := "modesFaults", inPlace := ["slices.overlaps[pinball/api.LampOrder]"], unfollowed := true, recurses := true, apart := false, narrowed := true }
def ModesFaultsUptoSaid : Prop := modesFaultsUptoRow.holds Tryz.pinned (OpenSpec.upto modesFaultsSpec)

/-- 'pinballlaw36.ModesBegins', WHERE WHAT IT READS IS OF BULK AT MOST 1048576: true; the input reads as it did. -/
def modesBeginsUptoRow : OpenClaim := { program := "ytdjpkhjaibdogaagreat", sum := "a03bdcdcd5ffff2d044960d3928608460d879de5852ec88ec406b103004ccbae", func := "pinball/pinballlaw36.ModesBegins", spec := "modesBegins", inPlace := ["slices.overlaps[pinball/api.LampOrder]"], unfollowed := true, recurses := true, apart := false, narrowed := true }
def ModesBeginsUptoSaid : Prop := modesBeginsUptoRow.holds Tryz.pinned (OpenSpec.upto modesBeginsSpec)

/-- 'pinballlaw36.ModesLamps', WHERE WHAT IT READS IS OF BULK AT MOST 1048576: true; the input reads as it did. -/
def modesLampsUptoRow : OpenClaim := { program := "ytdjpkhjaibdogaagreat", sum := "a03bdcdcd5ffff2d044960d3928608460d879de5852ec88ec406b103004ccbae", func := "pinball/pinballlaw36.ModesLamps", spec := "modesLamps", inPlace := ["slices.overlaps[pinball/api.LampOrder]"], unfollowed := true, recurses := true, apart := false, narrowed := true }
def ModesLampsUptoSaid : Prop := modesLampsUptoRow.holds Tryz.pinned (OpenSpec.upto modesLampsSpec)

/-- 'pinballlaw36.ModesHandles', WHERE WHAT IT READS IS OF BULK AT MOST 1048576: true; the input reads as it did. -/
def modesHandlesUptoRow : OpenClaim := { program := "ytdjpkhjaibdogaagreat", sum := "a03bdcdcd5ffff2d044960d3928608460d879de5852ec88ec406b103004ccbae", func := "pinball/pinballlaw36.ModesHandles", spec := "modesHandles", inPlace := ["slices.overlaps[pinball/api.LampOrder]"], unfollowed := true, recurses := true, apart := false, narrowed := true }
def ModesHandlesUptoSaid : Prop := modesHandlesUptoRow.holds Tryz.pinned (OpenSpec.upto modesHandlesSpec)

/-- 'pinballlaw36.ModesPriority', WHERE WHAT IT READS IS OF BULK AT MOST 1048576: true; the input reads as it did. -/
def modesPriorityUptoRow : OpenClaim := { program := "ytdjpkhjaibdogaagreat", sum := "a03bdcdcd5ffff2d044960d3928608460d879de5852ec88ec406b103004ccbae", func := "pinball/pinballlaw36.ModesPriority", spec := "modesPriority", inPlace := ["slices.overlaps[pinball/api.LampOrder]"], unfollowed := true, recurses := true, apart := false, narrowed := true }
def ModesPriorityUptoSaid : Prop := modesPriorityUptoRow.holds Tryz.pinned (OpenSpec.upto modesPrioritySpec)

/-- 'pinballlaw36.ModesWatchdog', WHERE WHAT IT READS IS OF BULK AT MOST 1048576: true; the input reads as it did. -/
def modesWatchdogUptoRow : OpenClaim := { program := "ytdjpkhjaibdogaagreat", sum := "a03bdcdcd5ffff2d044960d3928608460d879de5852ec88ec406b103004ccbae", func := "pinball/pinballlaw36.ModesWatchdog", spec := "modesWatchdog", inPlace := ["slices.overlaps[pinball/api.LampOrder]"], unfollowed := true, recurses := true, apart := false, narrowed := true }
def ModesWatchdogUptoSaid : Prop := modesWatchdogUptoRow.holds Tryz.pinned (OpenSpec.upto modesWatchdogSpec)

/-- 'pinballlaw36.ModesStates', WHERE WHAT IT READS IS OF BULK AT MOST 1048576: true; the input reads as it did. -/
def modesStatesUptoRow : OpenClaim := { program := "ytdjpkhjaibdogaagreat", sum := "a03bdcdcd5ffff2d044960d3928608460d879de5852ec88ec406b103004ccbae", func := "pinball/pinballlaw36.ModesStates", spec := "modesStates", inPlace := ["slices.overlaps[pinball/api.LampOrder]"], unfollowed := true, recurses := true, apart := false, narrowed := true }
def ModesStatesUptoSaid : Prop := modesStatesUptoRow.holds Tryz.pinned (OpenSpec.upto modesStatesSpec)

end Rows
end Go.Proofs.YtdjpkhjaibdogaaGreat
