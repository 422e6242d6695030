/-
  No cell of these rows narrows 'for every input' (looked for: loops, veiled, ifaces, maps, wideKeys, modest, calm, conditions, laid).
  DERIVED. THE GIVEN ROWS OF THIS SEAT. 9 by the template 'for every input the law returns true; each argument reads behind the call as it read before'; 0 by the template 'total and deterministic' (their statements: YtopefbajeinbkaaTotals.lean).
  GIVEN WITH THE SEED: the statements are not yours to turn. If you find one false, say at which input.
  Laid BY PROGRAM, IN A SANDBOX (cutbox-rows.mjs): the forced cells as the released guide's own fill.sh prints them over the translation e2939d48154e5bbc… (all of the seat's roots in one cut). By AI agents, Wed Nov 11 2026. No macro, syntax, notation, axiom, sorry.
-/
import Derived.Test.YtopefbajeinbkaaChecked
import GoSem.Claim
import GoSem.ClaimJoined
import GoSem.ClaimMapViews
import Derived.JoinedTies
import Derived.KernelRfl
namespace Go.Proofs.Ytopefbajeinbkaa
/- THE CELL 'sum', in the pinned program and in every row, IS THE sha256 OF THE DUMP (.gsa) THAT YtopefbajeinbkaaProg.lean LOADS. Nothing in Lean hashes anything: it is a label: what it is worth is what the hold of that sum in a sandbox is worth. -/
noncomputable def Try.pinned : Pinned := { name := "ytopefbajeinbkaa", sum := "e2939d48154e5bbc72afab6c4620dfbcb895880c90704f205b201bd2b129fa60", checked := Try.checked }
namespace Rows
def none {H : Type} : Left H := { results := [], args := [] }

/-- 'pinballlaw29.SearchStates': WHATEVER THE INPUT: true; the input reads as it did. -/
def searchStatesSpec : ChangeSpec := { name := "searchStates", fn := fun _ => fun
  | [d1, d2, d3] => { results := [.lit (.bool true)], args := [d1, d2, d3] }
  | _ => none }
def searchStatesRow : OpenClaim := { program := "ytopefbajeinbkaa", sum := "e2939d48154e5bbc72afab6c4620dfbcb895880c90704f205b201bd2b129fa60", func := "pinball/pinballlaw29.SearchStates", spec := "searchStates", unfollowed := true, recurses := true, apart := false }
def SearchStatesSaid : Prop := searchStatesRow.holds Try.pinned (OpenSpec.ofChange searchStatesSpec)

/-- ITS FALSE NEIGHBOUR: 'it returns false'. Refute it at one input. -/
def searchStatesWrong : ChangeSpec := { name := "searchStates", fn := fun _ => fun
  | [d1, d2, d3] => { results := [.lit (.bool false)], args := [d1, d2, d3] }
  | _ => none }
def SearchStatesWrongFalsely : Prop := searchStatesRow.holds Try.pinned (OpenSpec.ofChange searchStatesWrong)

/-- 'pinballlaw29.SearchRuns': WHATEVER THE INPUT: true; the input reads as it did. -/
def searchRunsSpec : ChangeSpec := { name := "searchRuns", fn := fun _ => fun
  | [d1, d2] => { results := [.lit (.bool true)], args := [d1, d2] }
  | _ => none }
def searchRunsRow : OpenClaim := { program := "ytopefbajeinbkaa", sum := "e2939d48154e5bbc72afab6c4620dfbcb895880c90704f205b201bd2b129fa60", func := "pinball/pinballlaw29.SearchRuns", spec := "searchRuns", unfollowed := true, recurses := true, apart := false }
def SearchRunsSaid : Prop := searchRunsRow.holds Try.pinned (OpenSpec.ofChange searchRunsSpec)

/-- ITS FALSE NEIGHBOUR: 'it returns false'. Refute it at one input. -/
def searchRunsWrong : ChangeSpec := { name := "searchRuns", fn := fun _ => fun
  | [d1, d2] => { results := [.lit (.bool false)], args := [d1, d2] }
  | _ => none }
def SearchRunsWrongFalsely : Prop := searchRunsRow.holds Try.pinned (OpenSpec.ofChange searchRunsWrong)

/-- 'pinballlaw29.SearchRounds': WHATEVER THE INPUT: true; the input reads as it did. -/
def searchRoundsSpec : ChangeSpec := { name := "searchRounds", fn := fun _ => fun
  | [d1, d2, d3] => { results := [.lit (.bool true)], args := [d1, d2, d3] }
  | _ => none }
def searchRoundsRow : OpenClaim := { program := "ytopefbajeinbkaa", sum := "e2939d48154e5bbc72afab6c4620dfbcb895880c90704f205b201bd2b129fa60", func := "pinball/pinballlaw29.SearchRounds", spec := "searchRounds", unfollowed := true, recurses := true, apart := false }
def SearchRoundsSaid : Prop := searchRoundsRow.holds Try.pinned (OpenSpec.ofChange searchRoundsSpec)

/-- ITS FALSE NEIGHBOUR: 'it returns false'. Refute it at one input. -/
def searchRoundsWrong : ChangeSpec := { name := "searchRounds", fn := fun _ => fun
  | [d1, d2, d3] => { results := [.lit (.bool false)], args := [d1, d2, d3] }
  | _ => none }
def SearchRoundsWrongFalsely : Prop := searchRoundsRow.holds Try.pinned (OpenSpec.ofChange searchRoundsWrong)

/-- 'pinballlaw29.SearchOrder': WHATEVER THE INPUT: true; the input reads as it did. -/
def searchOrderSpec : ChangeSpec := { name := "searchOrder", fn := fun _ => fun
  | [d] => { results := [.lit (.bool true)], args := [d] }
  | _ => none }
def searchOrderRow : OpenClaim := { program := "ytopefbajeinbkaa", sum := "e2939d48154e5bbc72afab6c4620dfbcb895880c90704f205b201bd2b129fa60", func := "pinball/pinballlaw29.SearchOrder", spec := "searchOrder", unfollowed := true, recurses := true, apart := false }
def SearchOrderSaid : Prop := searchOrderRow.holds Try.pinned (OpenSpec.ofChange searchOrderSpec)

/-- ITS FALSE NEIGHBOUR: 'it returns false'. Refute it at one input. -/
def searchOrderWrong : ChangeSpec := { name := "searchOrder", fn := fun _ => fun
  | [d] => { results := [.lit (.bool false)], args := [d] }
  | _ => none }
def SearchOrderWrongFalsely : Prop := searchOrderRow.holds Try.pinned (OpenSpec.ofChange searchOrderWrong)

/-- 'pinballlaw29.SearchSplits': WHATEVER THE INPUT: true; the input reads as it did. -/
def searchSplitsSpec : ChangeSpec := { name := "searchSplits", fn := fun _ => fun
  | [d1, d2] => { results := [.lit (.bool true)], args := [d1, d2] }
  | _ => none }
def searchSplitsRow : OpenClaim := { program := "ytopefbajeinbkaa", sum := "e2939d48154e5bbc72afab6c4620dfbcb895880c90704f205b201bd2b129fa60", func := "pinball/pinballlaw29.SearchSplits", spec := "searchSplits", unfollowed := true, recurses := true, apart := false }
def SearchSplitsSaid : Prop := searchSplitsRow.holds Try.pinned (OpenSpec.ofChange searchSplitsSpec)

/-- ITS FALSE NEIGHBOUR: 'it returns false'. Refute it at one input. -/
def searchSplitsWrong : ChangeSpec := { name := "searchSplits", fn := fun _ => fun
  | [d1, d2] => { results := [.lit (.bool false)], args := [d1, d2] }
  | _ => none }
def SearchSplitsWrongFalsely : Prop := searchSplitsRow.holds Try.pinned (OpenSpec.ofChange searchSplitsWrong)

/-- 'pinballlaw29.SearchLimits': WHATEVER THE INPUT: true; the input reads as it did. -/
def searchLimitsSpec : ChangeSpec := { name := "searchLimits", fn := fun _ => fun
  | [d] => { results := [.lit (.bool true)], args := [d] }
  | _ => none }
def searchLimitsRow : OpenClaim := { program := "ytopefbajeinbkaa", sum := "e2939d48154e5bbc72afab6c4620dfbcb895880c90704f205b201bd2b129fa60", func := "pinball/pinballlaw29.SearchLimits", spec := "searchLimits", unfollowed := true, recurses := true, apart := false }
def SearchLimitsSaid : Prop := searchLimitsRow.holds Try.pinned (OpenSpec.ofChange searchLimitsSpec)

/-- ITS FALSE NEIGHBOUR: 'it returns false'. Refute it at one input. -/
def searchLimitsWrong : ChangeSpec := { name := "searchLimits", fn := fun _ => fun
  | [d] => { results := [.lit (.bool false)], args := [d] }
  | _ => none }
def SearchLimitsWrongFalsely : Prop := searchLimitsRow.holds Try.pinned (OpenSpec.ofChange searchLimitsWrong)

/-- 'pinballlaw29.SearchSteps': WHATEVER THE INPUT: true; the input reads as it did. -/
def searchStepsSpec : ChangeSpec := { name := "searchSteps", fn := fun _ => fun
  | [d1, d2, d3] => { results := [.lit (.bool true)], args := [d1, d2, d3] }
  | _ => none }
def searchStepsRow : OpenClaim := { program := "ytopefbajeinbkaa", sum := "e2939d48154e5bbc72afab6c4620dfbcb895880c90704f205b201bd2b129fa60", func := "pinball/pinballlaw29.SearchSteps", spec := "searchSteps", unfollowed := true, recurses := true, apart := false }
def SearchStepsSaid : Prop := searchStepsRow.holds Try.pinned (OpenSpec.ofChange searchStepsSpec)

/-- ITS FALSE NEIGHBOUR: 'it returns false'. Refute it at one input. -/
def searchStepsWrong : ChangeSpec := { name := "searchSteps", fn := fun _ => fun
  | [d1, d2, d3] => { results := [.lit (.bool false)], args := [d1, d2, d3] }
  | _ => none }
def SearchStepsWrongFalsely : Prop := searchStepsRow.holds Try.pinned (OpenSpec.ofChange searchStepsWrong)

/-- 'pinballlaw29.SearchQuiet': WHATEVER THE INPUT: true; the input reads as it did. -/
def searchQuietSpec : ChangeSpec := { name := "searchQuiet", fn := fun _ => fun
  | [d] => { results := [.lit (.bool true)], args := [d] }
  | _ => none }
def searchQuietRow : OpenClaim := { program := "ytopefbajeinbkaa", sum := "e2939d48154e5bbc72afab6c4620dfbcb895880c90704f205b201bd2b129fa60", func := "pinball/pinballlaw29.SearchQuiet", spec := "searchQuiet", unfollowed := true, recurses := true, apart := false }
def SearchQuietSaid : Prop := searchQuietRow.holds Try.pinned (OpenSpec.ofChange searchQuietSpec)

/-- ITS FALSE NEIGHBOUR: 'it returns false'. Refute it at one input. -/
def searchQuietWrong : ChangeSpec := { name := "searchQuiet", fn := fun _ => fun
  | [d] => { results := [.lit (.bool false)], args := [d] }
  | _ => none }
def SearchQuietWrongFalsely : Prop := searchQuietRow.holds Try.pinned (OpenSpec.ofChange searchQuietWrong)

/-- 'pinballlaw29.SearchMissing': WHATEVER THE INPUT: true; the input reads as it did. -/
def searchMissingSpec : ChangeSpec := { name := "searchMissing", fn := fun _ => fun
  | [d] => { results := [.lit (.bool true)], args := [d] }
  | _ => none }
def searchMissingRow : OpenClaim := { program := "ytopefbajeinbkaa", sum := "e2939d48154e5bbc72afab6c4620dfbcb895880c90704f205b201bd2b129fa60", func := "pinball/pinballlaw29.SearchMissing", spec := "searchMissing", unfollowed := true, recurses := true, apart := false }
def SearchMissingSaid : Prop := searchMissingRow.holds Try.pinned (OpenSpec.ofChange searchMissingSpec)

/-- ITS FALSE NEIGHBOUR: 'it returns false'. Refute it at one input. -/
def searchMissingWrong : ChangeSpec := { name := "searchMissing", fn := fun _ => fun
  | [d] => { results := [.lit (.bool false)], args := [d] }
  | _ => none }
def SearchMissingWrongFalsely : Prop := searchMissingRow.holds Try.pinned (OpenSpec.ofChange searchMissingWrong)

/- THE SECOND FORM. 'bulk': how many values and letters a reading holds, each counted each time it is reached (what is shared counts as often as it is met; a slice's spare places count too). A statement '..UptoSaid' is the law's where the arguments, and the package variables that the reading takes, are together of bulk at most 1048576: NARROWER than '..Said'. Prove '..Said' where nothing that the law and all that it calls make is longer than what came in: it says more and counts as full. Else prove '..UptoSaid'. A law counts once. -/
mutual
def uptoBulk {H : Type} : DataW H → Nat
  | .lit (.string bytes) => bytes.length + 1
  | .lit _ => 1
  | .nil => 1
  | .ptr d => uptoBulk d + 1
  | .slice elems spare => uptoBulkAll elems + uptoBulkAll spare + 1
  | .agg parts => uptoBulkAll parts + 1
  | .iface _ d => uptoBulk d + 1
  | .map entries => uptoBulkEntries entries + 1
  | .held _ => 1
def uptoBulkAll {H : Type} : List (DataW H) → Nat
  | [] => 0
  | d :: r => uptoBulk d + uptoBulkAll r
def uptoBulkEntries {H : Type} : List (Lit × DataW H) → Nat
  | [] => 0
  | x :: r => uptoBulkEntry x + uptoBulkEntries r
def uptoBulkEntry {H : Type} : Lit × DataW H → Nat
  | (.string bytes, d) => bytes.length + uptoBulk d + 1
  | (_, d) => uptoBulk d + 1
 end
def uptoSmall : (H : Type) → List (DataW H) → Bool := fun _ ds => decide (uptoBulkAll ds ≤ 1048576)
def OpenSpec.upto (s : _root_.Go.ChangeSpec) : _root_.Go.OpenSpec := { _root_.Go.OpenSpec.ofChange s with cond := some uptoSmall }

/-- 'pinballlaw29.SearchStates', WHERE WHAT IT READS IS OF BULK AT MOST 1048576: true; the input reads as it did. -/
def searchStatesUptoRow : OpenClaim := { program := "ytopefbajeinbkaa", sum := "e2939d48154e5bbc72afab6c4620dfbcb895880c90704f205b201bd2b129fa60", func := "pinball/pinballlaw29.SearchStates", spec := "searchStates", unfollowed := true, recurses := true, apart := false, narrowed := true }
def SearchStatesUptoSaid : Prop := searchStatesUptoRow.holds Try.pinned (OpenSpec.upto searchStatesSpec)

/-- 'pinballlaw29.SearchRuns', WHERE WHAT IT READS IS OF BULK AT MOST 1048576: true; the input reads as it did. -/
def searchRunsUptoRow : OpenClaim := { program := "ytopefbajeinbkaa", sum := "e2939d48154e5bbc72afab6c4620dfbcb895880c90704f205b201bd2b129fa60", func := "pinball/pinballlaw29.SearchRuns", spec := "searchRuns", unfollowed := true, recurses := true, apart := false, narrowed := true }
def SearchRunsUptoSaid : Prop := searchRunsUptoRow.holds Try.pinned (OpenSpec.upto searchRunsSpec)

/-- 'pinballlaw29.SearchRounds', WHERE WHAT IT READS IS OF BULK AT MOST 1048576: true; the input reads as it did. -/
def searchRoundsUptoRow : OpenClaim := { program := "ytopefbajeinbkaa", sum := "e2939d48154e5bbc72afab6c4620dfbcb895880c90704f205b201bd2b129fa60", func := "pinball/pinballlaw29.SearchRounds", spec := "searchRounds", unfollowed := true, recurses := true, apart := false, narrowed := true }
def SearchRoundsUptoSaid : Prop := searchRoundsUptoRow.holds Try.pinned (OpenSpec.upto searchRoundsSpec)

/-- 'pinballlaw29.SearchOrder', WHERE WHAT IT READS IS OF BULK AT MOST 1048576: true; the input reads as it did. -/
def searchOrderUptoRow : OpenClaim := { program := "ytopefbajeinbkaa", sum := "e2939d48154e5bbc72afab6c4620dfbcb895880c90704f205b201bd2b129fa60", func := "pinball/pinballlaw29.SearchOrder", spec := "searchOrder", unfollowed := true, recurses := true, apart := false, narrowed := true }
def SearchOrderUptoSaid : Prop := searchOrderUptoRow.holds Try.pinned (OpenSpec.upto searchOrderSpec)

/-- 'pinballlaw29.SearchSplits', WHERE WHAT IT READS IS OF BULK AT MOST 1048576: true; the input reads as it did. -/
def searchSplitsUptoRow : OpenClaim := { program := "ytopefbajeinbkaa", sum := "e2939d48154e5bbc72afab6c4620dfbcb895880c90704f205b201bd2b129fa60", func := "pinball/pinballlaw29.SearchSplits", spec := "searchSplits", unfollowed := true, recurses := true, apart := false, narrowed := true }
def SearchSplitsUptoSaid : Prop := searchSplitsUptoRow.holds Try.pinned (OpenSpec.upto searchSplitsSpec)

/-- 'pinballlaw29.SearchLimits', WHERE WHAT IT READS IS OF BULK AT MOST 1048576: true; the input reads as it did. -/
def searchLimitsUptoRow : OpenClaim := { program := "ytopefbajeinbkaa", sum := "e2939d48154e5bbc72afab6c4620dfbcb895880c90704f205b201bd2b129fa60", func := "pinball/pinballlaw29.SearchLimits", spec := "searchLimits", unfollowed := true, recurses := true, apart := false, narrowed := true }
def SearchLimitsUptoSaid : Prop := searchLimitsUptoRow.holds Try.pinned (OpenSpec.upto searchLimitsSpec)

/-- 'pinballlaw29.SearchSteps', WHERE WHAT IT READS IS OF BULK AT MOST 1048576: true; the input reads as it did. -/
def searchStepsUptoRow : OpenClaim := { program := "ytopefbajeinbkaa", sum := "e2939d48154e5bbc72afab6c4620dfbcb895880c90704f205b201bd2b129fa60", func := "pinball/pinballlaw29.SearchSteps", spec := "searchSteps", unfollowed := true, recurses := true, apart := false, narrowed := true }
def SearchStepsUptoSaid : Prop := searchStepsUptoRow.holds Try.pinned (OpenSpec.upto searchStepsSpec)

/-- 'pinballlaw29.SearchQuiet', WHERE WHAT IT READS IS OF BULK AT MOST 1048576: true; the input reads as it did. -/
def searchQuietUptoRow : OpenClaim := { program := "ytopefbajeinbkaa", sum := "e2939d48154e5bbc72afab6c4620dfbcb895880c90704f205b201bd2b129fa60", func := "pinball/pinballlaw29.SearchQuiet", spec := "searchQuiet", unfollowed := true, recurses := true, apart := false, narrowed := true }
def SearchQuietUptoSaid : Prop := searchQuietUptoRow.holds Try.pinned (OpenSpec.upto searchQuietSpec)

/-- 'pinballlaw29.SearchMissing', WHERE WHAT IT READS IS OF BULK AT MOST 1048576: true; the input reads as it did. -/
def searchMissingUptoRow : OpenClaim := { program := "ytopefbajeinbkaa", sum := "e2939d48154e5bbc72afab6c4620dfbcb895880c90704f205b201bd2b129fa60", func := "pinball/pinballlaw29.SearchMissing", spec := "searchMissing", unfollowed := true, recurses := true, apart := false, narrowed := true }
def SearchMissingUptoSaid : Prop := searchMissingUptoRow.holds Try.pinned (OpenSpec.upto searchMissingSpec)

end Rows
end Go.Proofs.Ytopefbajeinbkaa
