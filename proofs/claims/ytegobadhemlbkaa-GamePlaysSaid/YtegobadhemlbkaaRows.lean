/-
  No cell of these rows narrows 'for every input' (looked for: loops, veiled, ifaces, maps, wideKeys, modest, calm, conditions, laid).
  DERIVED. THE GIVEN ROWS OF THIS SEAT. 9 by the template 'for every input the law returns true; each argument reads behind the call as it read before'; 0 by the template 'total and deterministic' (their statements: YtegobadhemlbkaaTotals.lean).
  GIVEN WITH THE SEED: the statements are not yours to turn. If you find one false, say at which input.
  Laid BY PROGRAM, IN A SANDBOX (cutbox-rows.mjs): the forced cells as the released guide's own fill.sh prints them over the translation bf42a28b7ff6a8b9… (all of the seat's roots in one cut). By AI agents, Wed Nov 11 2026. No macro, syntax, notation, axiom, sorry.
-/
import Derived.Test.YtegobadhemlbkaaChecked
import GoSem.Claim
import GoSem.ClaimJoined
import GoSem.ClaimMapViews
import Derived.JoinedTies
import Derived.KernelRfl
namespace Go.Proofs.Ytegobadhemlbkaa
/- THE CELL 'sum', in the pinned program and in every row, IS THE sha256 OF THE DUMP (.gsa) THAT YtegobadhemlbkaaProg.lean LOADS. Nothing in Lean hashes anything: it is a label: what it is worth is what the hold of that sum in a sandbox is worth. -/
noncomputable def Try.pinned : Pinned := { name := "ytegobadhemlbkaa", sum := "bf42a28b7ff6a8b9c5811b6f43c9a3aa3598187f35442694bbb0fa586e879473", checked := Try.checked }
namespace Rows
def none {H : Type} : Left H := { results := [], args := [] }

/-- 'pinballlaw42.GameSteps': WHATEVER THE INPUT: true; the input reads as it did. -/
def gameStepsSpec : ChangeSpec := { name := "gameSteps", fn := fun _ => fun
  | [d1, d2, d3] => { results := [.lit (.bool true)], args := [d1, d2, d3] }
  | _ => none }
def gameStepsRow : OpenClaim := { program := "ytegobadhemlbkaa", sum := "bf42a28b7ff6a8b9c5811b6f43c9a3aa3598187f35442694bbb0fa586e879473", func := "pinball/pinballlaw42.GameSteps", spec := "gameSteps", unfollowed := true, recurses := true, apart := false }
def GameStepsSaid : Prop := gameStepsRow.holds Try.pinned (OpenSpec.ofChange gameStepsSpec)

/-- ITS FALSE NEIGHBOUR: 'it returns false'. Refute it at one input. -/
def gameStepsWrong : ChangeSpec := { name := "gameSteps", fn := fun _ => fun
  | [d1, d2, d3] => { results := [.lit (.bool false)], args := [d1, d2, d3] }
  | _ => none }
def GameStepsWrongFalsely : Prop := gameStepsRow.holds Try.pinned (OpenSpec.ofChange gameStepsWrong)

/-- 'pinballlaw42.GameRuns': WHATEVER THE INPUT: true; the input reads as it did. -/
def gameRunsSpec : ChangeSpec := { name := "gameRuns", fn := fun _ => fun
  | [d1, d2, d3] => { results := [.lit (.bool true)], args := [d1, d2, d3] }
  | _ => none }
def gameRunsRow : OpenClaim := { program := "ytegobadhemlbkaa", sum := "bf42a28b7ff6a8b9c5811b6f43c9a3aa3598187f35442694bbb0fa586e879473", func := "pinball/pinballlaw42.GameRuns", spec := "gameRuns", unfollowed := true, recurses := true, apart := false }
def GameRunsSaid : Prop := gameRunsRow.holds Try.pinned (OpenSpec.ofChange gameRunsSpec)

/-- ITS FALSE NEIGHBOUR: 'it returns false'. Refute it at one input. -/
def gameRunsWrong : ChangeSpec := { name := "gameRuns", fn := fun _ => fun
  | [d1, d2, d3] => { results := [.lit (.bool false)], args := [d1, d2, d3] }
  | _ => none }
def GameRunsWrongFalsely : Prop := gameRunsRow.holds Try.pinned (OpenSpec.ofChange gameRunsWrong)

/-- 'pinballlaw42.GamePlays': WHATEVER THE INPUT: true; the input reads as it did. -/
def gamePlaysSpec : ChangeSpec := { name := "gamePlays", fn := fun _ => fun
  | [d1, d2, d3] => { results := [.lit (.bool true)], args := [d1, d2, d3] }
  | _ => none }
def gamePlaysRow : OpenClaim := { program := "ytegobadhemlbkaa", sum := "bf42a28b7ff6a8b9c5811b6f43c9a3aa3598187f35442694bbb0fa586e879473", func := "pinball/pinballlaw42.GamePlays", spec := "gamePlays", unfollowed := true, recurses := true, apart := false }
def GamePlaysSaid : Prop := gamePlaysRow.holds Try.pinned (OpenSpec.ofChange gamePlaysSpec)

/-- ITS FALSE NEIGHBOUR: 'it returns false'. Refute it at one input. -/
def gamePlaysWrong : ChangeSpec := { name := "gamePlays", fn := fun _ => fun
  | [d1, d2, d3] => { results := [.lit (.bool false)], args := [d1, d2, d3] }
  | _ => none }
def GamePlaysWrongFalsely : Prop := gamePlaysRow.holds Try.pinned (OpenSpec.ofChange gamePlaysWrong)

/-- 'pinballlaw42.GameCredits': WHATEVER THE INPUT: true; the input reads as it did. -/
def gameCreditsSpec : ChangeSpec := { name := "gameCredits", fn := fun _ => fun
  | [d1, d2] => { results := [.lit (.bool true)], args := [d1, d2] }
  | _ => none }
def gameCreditsRow : OpenClaim := { program := "ytegobadhemlbkaa", sum := "bf42a28b7ff6a8b9c5811b6f43c9a3aa3598187f35442694bbb0fa586e879473", func := "pinball/pinballlaw42.GameCredits", spec := "gameCredits", unfollowed := true, recurses := true, apart := false }
def GameCreditsSaid : Prop := gameCreditsRow.holds Try.pinned (OpenSpec.ofChange gameCreditsSpec)

/-- ITS FALSE NEIGHBOUR: 'it returns false'. Refute it at one input. -/
def gameCreditsWrong : ChangeSpec := { name := "gameCredits", fn := fun _ => fun
  | [d1, d2] => { results := [.lit (.bool false)], args := [d1, d2] }
  | _ => none }
def GameCreditsWrongFalsely : Prop := gameCreditsRow.holds Try.pinned (OpenSpec.ofChange gameCreditsWrong)

/-- 'pinballlaw42.GameReplays': WHATEVER THE INPUT: true; the input reads as it did. -/
def gameReplaysSpec : ChangeSpec := { name := "gameReplays", fn := fun _ => fun
  | [d1, d2] => { results := [.lit (.bool true)], args := [d1, d2] }
  | _ => none }
def gameReplaysRow : OpenClaim := { program := "ytegobadhemlbkaa", sum := "bf42a28b7ff6a8b9c5811b6f43c9a3aa3598187f35442694bbb0fa586e879473", func := "pinball/pinballlaw42.GameReplays", spec := "gameReplays", unfollowed := true, recurses := true, apart := false }
def GameReplaysSaid : Prop := gameReplaysRow.holds Try.pinned (OpenSpec.ofChange gameReplaysSpec)

/-- ITS FALSE NEIGHBOUR: 'it returns false'. Refute it at one input. -/
def gameReplaysWrong : ChangeSpec := { name := "gameReplays", fn := fun _ => fun
  | [d1, d2] => { results := [.lit (.bool false)], args := [d1, d2] }
  | _ => none }
def GameReplaysWrongFalsely : Prop := gameReplaysRow.holds Try.pinned (OpenSpec.ofChange gameReplaysWrong)

/-- 'pinballlaw42.GameTilts': WHATEVER THE INPUT: true; the input reads as it did. -/
def gameTiltsSpec : ChangeSpec := { name := "gameTilts", fn := fun _ => fun
  | [d1, d2] => { results := [.lit (.bool true)], args := [d1, d2] }
  | _ => none }
def gameTiltsRow : OpenClaim := { program := "ytegobadhemlbkaa", sum := "bf42a28b7ff6a8b9c5811b6f43c9a3aa3598187f35442694bbb0fa586e879473", func := "pinball/pinballlaw42.GameTilts", spec := "gameTilts", unfollowed := true, recurses := true, apart := false }
def GameTiltsSaid : Prop := gameTiltsRow.holds Try.pinned (OpenSpec.ofChange gameTiltsSpec)

/-- ITS FALSE NEIGHBOUR: 'it returns false'. Refute it at one input. -/
def gameTiltsWrong : ChangeSpec := { name := "gameTilts", fn := fun _ => fun
  | [d1, d2] => { results := [.lit (.bool false)], args := [d1, d2] }
  | _ => none }
def GameTiltsWrongFalsely : Prop := gameTiltsRow.holds Try.pinned (OpenSpec.ofChange gameTiltsWrong)

/-- 'pinballlaw42.GameGrows': WHATEVER THE INPUT: true; the input reads as it did. -/
def gameGrowsSpec : ChangeSpec := { name := "gameGrows", fn := fun _ => fun
  | [d1, d2] => { results := [.lit (.bool true)], args := [d1, d2] }
  | _ => none }
def gameGrowsRow : OpenClaim := { program := "ytegobadhemlbkaa", sum := "bf42a28b7ff6a8b9c5811b6f43c9a3aa3598187f35442694bbb0fa586e879473", func := "pinball/pinballlaw42.GameGrows", spec := "gameGrows", unfollowed := true, recurses := true, apart := false }
def GameGrowsSaid : Prop := gameGrowsRow.holds Try.pinned (OpenSpec.ofChange gameGrowsSpec)

/-- ITS FALSE NEIGHBOUR: 'it returns false'. Refute it at one input. -/
def gameGrowsWrong : ChangeSpec := { name := "gameGrows", fn := fun _ => fun
  | [d1, d2] => { results := [.lit (.bool false)], args := [d1, d2] }
  | _ => none }
def GameGrowsWrongFalsely : Prop := gameGrowsRow.holds Try.pinned (OpenSpec.ofChange gameGrowsWrong)

/-- 'pinballlaw42.GameStands': WHATEVER THE INPUT: true; the input reads as it did. -/
def gameStandsSpec : ChangeSpec := { name := "gameStands", fn := fun _ => fun
  | [d] => { results := [.lit (.bool true)], args := [d] }
  | _ => none }
def gameStandsRow : OpenClaim := { program := "ytegobadhemlbkaa", sum := "bf42a28b7ff6a8b9c5811b6f43c9a3aa3598187f35442694bbb0fa586e879473", func := "pinball/pinballlaw42.GameStands", spec := "gameStands", unfollowed := true, recurses := true, apart := false }
def GameStandsSaid : Prop := gameStandsRow.holds Try.pinned (OpenSpec.ofChange gameStandsSpec)

/-- ITS FALSE NEIGHBOUR: 'it returns false'. Refute it at one input. -/
def gameStandsWrong : ChangeSpec := { name := "gameStands", fn := fun _ => fun
  | [d] => { results := [.lit (.bool false)], args := [d] }
  | _ => none }
def GameStandsWrongFalsely : Prop := gameStandsRow.holds Try.pinned (OpenSpec.ofChange gameStandsWrong)

/-- 'pinballlaw42.GameStates': WHATEVER THE INPUT: true; the input reads as it did. -/
def gameStatesSpec : ChangeSpec := { name := "gameStates", fn := fun _ => fun
  | [d1, d2, d3] => { results := [.lit (.bool true)], args := [d1, d2, d3] }
  | _ => none }
def gameStatesRow : OpenClaim := { program := "ytegobadhemlbkaa", sum := "bf42a28b7ff6a8b9c5811b6f43c9a3aa3598187f35442694bbb0fa586e879473", func := "pinball/pinballlaw42.GameStates", spec := "gameStates", unfollowed := true, recurses := true, apart := false }
def GameStatesSaid : Prop := gameStatesRow.holds Try.pinned (OpenSpec.ofChange gameStatesSpec)

/-- ITS FALSE NEIGHBOUR: 'it returns false'. Refute it at one input. -/
def gameStatesWrong : ChangeSpec := { name := "gameStates", fn := fun _ => fun
  | [d1, d2, d3] => { results := [.lit (.bool false)], args := [d1, d2, d3] }
  | _ => none }
def GameStatesWrongFalsely : Prop := gameStatesRow.holds Try.pinned (OpenSpec.ofChange gameStatesWrong)

/- THE SECOND FORM. 'bulk': how many values and letters a reading holds, each counted each time it is reached (what is shared counts as often as it is met; a slice's spare places count too). A statement '..UptoSaid' is the law's where the arguments, and the package variables that the reading takes, are together of bulk at most 1048576: NARROWER than '..Said'. Prove '..Said' where nothing that the law and all that it calls make is longer than what came in: it says more and counts as full. Else prove '..UptoSaid'. A law counts once. -/
mutual
def uptoBulk {H : Type} : DataW H → Nat
  | .lit (.string bytes) => bytes.length + 1
  | .lit _ => 1
  | .nil => 1
  | .ptr d => uptoBulk d + 1
  | .slice elems spare => uptoBulkAll elems + uptoBulkAll spare + 1
  | .agg parts => uptoBulkAll parts + 1
  | .iface _ d => uptoBulk d + 1
  | .map entries => uptoBulkEntries entries + 1
  | .held _ => 1
def uptoBulkAll {H : Type} : List (DataW H) → Nat
  | [] => 0
  | d :: r => uptoBulk d + uptoBulkAll r
def uptoBulkEntries {H : Type} : List (Lit × DataW H) → Nat
  | [] => 0
  | x :: r => uptoBulkEntry x + uptoBulkEntries r
def uptoBulkEntry {H : Type} : Lit × DataW H → Nat
  | (.string bytes, d) => bytes.length + uptoBulk d + 1
  | (_, d) => uptoBulk d + 1
 end
def uptoSmall : (H : Type) → List (DataW H) → Bool := fun _ ds => decide (uptoBulkAll ds ≤ 1048576)
def OpenSpec.upto (s : _root_.Go.ChangeSpec) : _root_.Go.OpenSpec := { _root_.Go.OpenSpec.ofChange s with cond := some uptoSmall }

/-- 'pinballlaw42.GameSteps', WHERE WHAT IT READS IS OF BULK AT MOST 1048576: true; the input reads as it did. -/
def gameStepsUptoRow : OpenClaim := { program := "ytegobadhemlbkaa", sum := "bf42a28b7ff6a8b9c5811b6f43c9a3aa3598187f35442694bbb0fa586e879473", func := "pinball/pinballlaw42.GameSteps", spec := "gameSteps", unfollowed := true, recurses := true, apart := false, narrowed := true }
def GameStepsUptoSaid : Prop := gameStepsUptoRow.holds Try.pinned (OpenSpec.upto gameStepsSpec)

/-- 'pinballlaw42.GameRuns', WHERE WHAT IT READS IS OF BULK AT MOST 1048576: true; the input reads as it did. -/
def gameRunsUptoRow : OpenClaim := { program := "ytegobadhemlbkaa", sum := "bf42a28b7ff6a8b9c5811b6f43c9a3aa3598187f35442694bbb0fa586e879473", func := "pinball/pinballlaw42.GameRuns", spec := "gameRuns", unfollowed := true, recurses := true, apart := false, narrowed := true }
def GameRunsUptoSaid : Prop := gameRunsUptoRow.holds Try.pinned (OpenSpec.upto gameRunsSpec)

/-- 'pinballlaw42.GamePlays', WHERE WHAT IT READS IS OF BULK AT MOST 1048576: true; the input reads as it did. -/
def gamePlaysUptoRow : OpenClaim := { program := "ytegobadhemlbkaa", sum := "bf42a28b7ff6a8b9c5811b6f43c9a3aa3598187f35442694bbb0fa586e879473", func := "pinball/pinballlaw42.GamePlays", spec := "gamePlays", unfollowed := true, recurses := true, apart := false, narrowed := true }
def GamePlaysUptoSaid : Prop := gamePlaysUptoRow.holds Try.pinned (OpenSpec.upto gamePlaysSpec)

/-- 'pinballlaw42.GameCredits', WHERE WHAT IT READS IS OF BULK AT MOST 1048576: true; the input reads as it did. -/
def gameCreditsUptoRow : OpenClaim := { program := "ytegobadhemlbkaa", sum := "bf42a28b7ff6a8b9c5811b6f43c9a3aa3598187f35442694bbb0fa586e879473", func := "pinball/pinballlaw42.GameCredits", spec := "gameCredits", unfollowed := true, recurses := true, apart := false, narrowed := true }
def GameCreditsUptoSaid : Prop := gameCreditsUptoRow.holds Try.pinned (OpenSpec.upto gameCreditsSpec)

/-- 'pinballlaw42.GameReplays', WHERE WHAT IT READS IS OF BULK AT MOST 1048576: true; the input reads as it did. -/
def gameReplaysUptoRow : OpenClaim := { program := "ytegobadhemlbkaa", sum := "bf42a28b7ff6a8b9c5811b6f43c9a3aa3598187f35442694bbb0fa586e879473", func := "pinball/pinballlaw42.GameReplays", spec := "gameReplays", unfollowed := true, recurses := true, apart := false, narrowed := true }
def GameReplaysUptoSaid : Prop := gameReplaysUptoRow.holds Try.pinned (OpenSpec.upto gameReplaysSpec)

/-- 'pinballlaw42.GameTilts', WHERE WHAT IT READS IS OF BULK AT MOST 1048576: true; the input reads as it did. -/
def gameTiltsUptoRow : OpenClaim := { program := "ytegobadhemlbkaa", sum := "bf42a28b7ff6a8b9c5811b6f43c9a3aa3598187f35442694bbb0fa586e879473", func := "pinball/pinballlaw42.GameTilts", spec := "gameTilts", unfollowed := true, recurses := true, apart := false, narrowed := true }
def GameTiltsUptoSaid : Prop := gameTiltsUptoRow.holds Try.pinned (OpenSpec.upto gameTiltsSpec)

/-- 'pinballlaw42.GameGrows', WHERE WHAT IT READS IS OF BULK AT MOST 1048576: true; the input reads as it did. -/
def gameGrowsUptoRow : OpenClaim := { program := "ytegobadhemlbkaa", sum := "bf42a28b7ff6a8b9c5811b6f43c9a3aa3598187f35442694bbb0fa586e879473", func := "pinball/pinballlaw42.GameGrows", spec := "gameGrows", unfollowed := true, recurses := true, apart := false, narrowed := true }
def GameGrowsUptoSaid : Prop := gameGrowsUptoRow.holds Try.pinned (OpenSpec.upto gameGrowsSpec)

/-- 'pinballlaw42.GameStands', WHERE WHAT IT READS IS OF BULK AT MOST 1048576: true; the input reads as it did. -/
def gameStandsUptoRow : OpenClaim := { program := "ytegobadhemlbkaa", sum := "bf42a28b7ff6a8b9c5811b6f43c9a3aa3598187f35442694bbb0fa586e879473", func := "pinball/pinballlaw42.GameStands", spec := "gameStands", unfollowed := true, recurses := true, apart := false, narrowed := true }
def GameStandsUptoSaid : Prop := gameStandsUptoRow.holds Try.pinned (OpenSpec.upto gameStandsSpec)

/-- 'pinballlaw42.GameStates', WHERE WHAT IT READS IS OF BULK AT MOST 1048576: true; the input reads as it did. -/
def gameStatesUptoRow : OpenClaim := { program := "ytegobadhemlbkaa", sum := "bf42a28b7ff6a8b9c5811b6f43c9a3aa3598187f35442694bbb0fa586e879473", func := "pinball/pinballlaw42.GameStates", spec := "gameStates", unfollowed := true, recurses := true, apart := false, narrowed := true }
def GameStatesUptoSaid : Prop := gameStatesUptoRow.holds Try.pinned (OpenSpec.upto gameStatesSpec)

end Rows
end Go.Proofs.Ytegobadhemlbkaa
