/-
  No cell of these rows narrows 'for every input' (looked for: loops, veiled, ifaces, maps, wideKeys, modest, calm, conditions, laid).
  DERIVED. THE GIVEN ROWS OF THIS SEAT. 8 by the template 'for every input the law returns true; each argument reads behind the call as it read before'; 0 by the template 'total and deterministic' (their statements: YthbeppgbmkjfdaaTotals.lean).
  GIVEN WITH THE SEED: the statements are not yours to turn. If you find one false, say at which input.
  Laid BY PROGRAM, IN A SANDBOX (cutbox-rows.mjs): the forced cells as the released guide's own fill.sh prints them over the translation f74367b4ee2ee91a… (all of the seat's roots in one cut). By AI agents, Wed Nov 11 2026. No macro, syntax, notation, axiom, sorry.
-/
import Derived.Test.YthbeppgbmkjfdaaChecked
import GoSem.Claim
import GoSem.ClaimJoined
import GoSem.ClaimMapViews
import Derived.JoinedTies
import Derived.KernelRfl
namespace Go.Proofs.Ythbeppgbmkjfdaa
/- THE CELL 'sum', in the pinned program and in every row, IS THE sha256 OF THE DUMP (.gsa) THAT YthbeppgbmkjfdaaProg.lean LOADS. Nothing in Lean hashes anything: it is a label: what it is worth is what the hold of that sum in a sandbox is worth. -/
noncomputable def Try.pinned : Pinned := { name := "ythbeppgbmkjfdaa", sum := "f74367b4ee2ee91a288f103920088d49c37066d53d28bf8cbe5a3169a86b77e4", checked := Try.checked }
namespace Rows
def none {H : Type} : Left H := { results := [], args := [] }

/-- 'pinballlaw39.SoundStates': WHATEVER THE INPUT: true; the input reads as it did. -/
def soundStatesSpec : ChangeSpec := { name := "soundStates", fn := fun _ => fun
  | [d1, d2] => { results := [.lit (.bool true)], args := [d1, d2] }
  | _ => none }
def soundStatesRow : OpenClaim := { program := "ythbeppgbmkjfdaa", sum := "f74367b4ee2ee91a288f103920088d49c37066d53d28bf8cbe5a3169a86b77e4", func := "pinball/pinballlaw39.SoundStates", spec := "soundStates", unfollowed := true, recurses := true, apart := false }
def SoundStatesSaid : Prop := soundStatesRow.holds Try.pinned (OpenSpec.ofChange soundStatesSpec)

/-- ITS FALSE NEIGHBOUR: 'it returns false'. Refute it at one input. -/
def soundStatesWrong : ChangeSpec := { name := "soundStates", fn := fun _ => fun
  | [d1, d2] => { results := [.lit (.bool false)], args := [d1, d2] }
  | _ => none }
def SoundStatesWrongFalsely : Prop := soundStatesRow.holds Try.pinned (OpenSpec.ofChange soundStatesWrong)

/-- 'pinballlaw39.SoundRuns': WHATEVER THE INPUT: true; the input reads as it did. -/
def soundRunsSpec : ChangeSpec := { name := "soundRuns", fn := fun _ => fun
  | [d1, d2] => { results := [.lit (.bool true)], args := [d1, d2] }
  | _ => none }
def soundRunsRow : OpenClaim := { program := "ythbeppgbmkjfdaa", sum := "f74367b4ee2ee91a288f103920088d49c37066d53d28bf8cbe5a3169a86b77e4", func := "pinball/pinballlaw39.SoundRuns", spec := "soundRuns", unfollowed := true, recurses := true, apart := false }
def SoundRunsSaid : Prop := soundRunsRow.holds Try.pinned (OpenSpec.ofChange soundRunsSpec)

/-- ITS FALSE NEIGHBOUR: 'it returns false'. Refute it at one input. -/
def soundRunsWrong : ChangeSpec := { name := "soundRuns", fn := fun _ => fun
  | [d1, d2] => { results := [.lit (.bool false)], args := [d1, d2] }
  | _ => none }
def SoundRunsWrongFalsely : Prop := soundRunsRow.holds Try.pinned (OpenSpec.ofChange soundRunsWrong)

/-- 'pinballlaw39.SoundLasts': WHATEVER THE INPUT: true; the input reads as it did. -/
def soundLastsSpec : ChangeSpec := { name := "soundLasts", fn := fun _ => fun
  | [d] => { results := [.lit (.bool true)], args := [d] }
  | _ => none }
def soundLastsRow : OpenClaim := { program := "ythbeppgbmkjfdaa", sum := "f74367b4ee2ee91a288f103920088d49c37066d53d28bf8cbe5a3169a86b77e4", func := "pinball/pinballlaw39.SoundLasts", spec := "soundLasts", unfollowed := true, recurses := true, apart := false }
def SoundLastsSaid : Prop := soundLastsRow.holds Try.pinned (OpenSpec.ofChange soundLastsSpec)

/-- ITS FALSE NEIGHBOUR: 'it returns false'. Refute it at one input. -/
def soundLastsWrong : ChangeSpec := { name := "soundLasts", fn := fun _ => fun
  | [d] => { results := [.lit (.bool false)], args := [d] }
  | _ => none }
def SoundLastsWrongFalsely : Prop := soundLastsRow.holds Try.pinned (OpenSpec.ofChange soundLastsWrong)

/-- 'pinballlaw39.SoundCounts': WHATEVER THE INPUT: true; the input reads as it did. -/
def soundCountsSpec : ChangeSpec := { name := "soundCounts", fn := fun _ => fun
  | [d] => { results := [.lit (.bool true)], args := [d] }
  | _ => none }
def soundCountsRow : OpenClaim := { program := "ythbeppgbmkjfdaa", sum := "f74367b4ee2ee91a288f103920088d49c37066d53d28bf8cbe5a3169a86b77e4", func := "pinball/pinballlaw39.SoundCounts", spec := "soundCounts", unfollowed := true, recurses := true, apart := false }
def SoundCountsSaid : Prop := soundCountsRow.holds Try.pinned (OpenSpec.ofChange soundCountsSpec)

/-- ITS FALSE NEIGHBOUR: 'it returns false'. Refute it at one input. -/
def soundCountsWrong : ChangeSpec := { name := "soundCounts", fn := fun _ => fun
  | [d] => { results := [.lit (.bool false)], args := [d] }
  | _ => none }
def SoundCountsWrongFalsely : Prop := soundCountsRow.holds Try.pinned (OpenSpec.ofChange soundCountsWrong)

/-- 'pinballlaw39.SoundSplits': WHATEVER THE INPUT: true; the input reads as it did. -/
def soundSplitsSpec : ChangeSpec := { name := "soundSplits", fn := fun _ => fun
  | [d1, d2] => { results := [.lit (.bool true)], args := [d1, d2] }
  | _ => none }
def soundSplitsRow : OpenClaim := { program := "ythbeppgbmkjfdaa", sum := "f74367b4ee2ee91a288f103920088d49c37066d53d28bf8cbe5a3169a86b77e4", func := "pinball/pinballlaw39.SoundSplits", spec := "soundSplits", unfollowed := true, recurses := true, apart := false }
def SoundSplitsSaid : Prop := soundSplitsRow.holds Try.pinned (OpenSpec.ofChange soundSplitsSpec)

/-- ITS FALSE NEIGHBOUR: 'it returns false'. Refute it at one input. -/
def soundSplitsWrong : ChangeSpec := { name := "soundSplits", fn := fun _ => fun
  | [d1, d2] => { results := [.lit (.bool false)], args := [d1, d2] }
  | _ => none }
def SoundSplitsWrongFalsely : Prop := soundSplitsRow.holds Try.pinned (OpenSpec.ofChange soundSplitsWrong)

/-- 'pinballlaw39.SoundLimits': WHATEVER THE INPUT: true; the input reads as it did. -/
def soundLimitsSpec : ChangeSpec := { name := "soundLimits", fn := fun _ => fun
  | [d1, d2] => { results := [.lit (.bool true)], args := [d1, d2] }
  | _ => none }
def soundLimitsRow : OpenClaim := { program := "ythbeppgbmkjfdaa", sum := "f74367b4ee2ee91a288f103920088d49c37066d53d28bf8cbe5a3169a86b77e4", func := "pinball/pinballlaw39.SoundLimits", spec := "soundLimits", unfollowed := true, recurses := true, apart := false }
def SoundLimitsSaid : Prop := soundLimitsRow.holds Try.pinned (OpenSpec.ofChange soundLimitsSpec)

/-- ITS FALSE NEIGHBOUR: 'it returns false'. Refute it at one input. -/
def soundLimitsWrong : ChangeSpec := { name := "soundLimits", fn := fun _ => fun
  | [d1, d2] => { results := [.lit (.bool false)], args := [d1, d2] }
  | _ => none }
def SoundLimitsWrongFalsely : Prop := soundLimitsRow.holds Try.pinned (OpenSpec.ofChange soundLimitsWrong)

/-- 'pinballlaw39.SoundFair': WHATEVER THE INPUT: true; the input reads as it did. -/
def soundFairSpec : ChangeSpec := { name := "soundFair", fn := fun _ => fun
  | [d1, d2, d3] => { results := [.lit (.bool true)], args := [d1, d2, d3] }
  | _ => none }
def soundFairRow : OpenClaim := { program := "ythbeppgbmkjfdaa", sum := "f74367b4ee2ee91a288f103920088d49c37066d53d28bf8cbe5a3169a86b77e4", func := "pinball/pinballlaw39.SoundFair", spec := "soundFair", unfollowed := true, recurses := true, apart := false }
def SoundFairSaid : Prop := soundFairRow.holds Try.pinned (OpenSpec.ofChange soundFairSpec)

/-- ITS FALSE NEIGHBOUR: 'it returns false'. Refute it at one input. -/
def soundFairWrong : ChangeSpec := { name := "soundFair", fn := fun _ => fun
  | [d1, d2, d3] => { results := [.lit (.bool false)], args := [d1, d2, d3] }
  | _ => none }
def SoundFairWrongFalsely : Prop := soundFairRow.holds Try.pinned (OpenSpec.ofChange soundFairWrong)

/-- 'pinballlaw39.SoundPlays': WHATEVER THE INPUT: true; the input reads as it did. -/
def soundPlaysSpec : ChangeSpec := { name := "soundPlays", fn := fun _ => fun
  | [d1, d2, d3] => { results := [.lit (.bool true)], args := [d1, d2, d3] }
  | _ => none }
def soundPlaysRow : OpenClaim := { program := "ythbeppgbmkjfdaa", sum := "f74367b4ee2ee91a288f103920088d49c37066d53d28bf8cbe5a3169a86b77e4", func := "pinball/pinballlaw39.SoundPlays", spec := "soundPlays", unfollowed := true, recurses := true, apart := false }
def SoundPlaysSaid : Prop := soundPlaysRow.holds Try.pinned (OpenSpec.ofChange soundPlaysSpec)

/-- ITS FALSE NEIGHBOUR: 'it returns false'. Refute it at one input. -/
def soundPlaysWrong : ChangeSpec := { name := "soundPlays", fn := fun _ => fun
  | [d1, d2, d3] => { results := [.lit (.bool false)], args := [d1, d2, d3] }
  | _ => none }
def SoundPlaysWrongFalsely : Prop := soundPlaysRow.holds Try.pinned (OpenSpec.ofChange soundPlaysWrong)

/- THE SECOND FORM. 'bulk': how many values and letters a reading holds, each counted each time it is reached (what is shared counts as often as it is met; a slice's spare places count too). A statement '..UptoSaid' is the law's where the arguments, and the package variables that the reading takes, are together of bulk at most 1048576: NARROWER than '..Said'. Prove '..Said' where nothing that the law and all that it calls make is longer than what came in: it says more and counts as full. Else prove '..UptoSaid'. A law counts once. -/
mutual
def uptoBulk {H : Type} : DataW H → Nat
  | .lit (.string bytes) => bytes.length + 1
  | .lit _ => 1
  | .nil => 1
  | .ptr d => uptoBulk d + 1
  | .slice elems spare => uptoBulkAll elems + uptoBulkAll spare + 1
  | .agg parts => uptoBulkAll parts + 1
  | .iface _ d => uptoBulk d + 1
  | .map entries => uptoBulkEntries entries + 1
  | .held _ => 1
def uptoBulkAll {H : Type} : List (DataW H) → Nat
  | [] => 0
  | d :: r => uptoBulk d + uptoBulkAll r
def uptoBulkEntries {H : Type} : List (Lit × DataW H) → Nat
  | [] => 0
  | x :: r => uptoBulkEntry x + uptoBulkEntries r
def uptoBulkEntry {H : Type} : Lit × DataW H → Nat
  | (.string bytes, d) => bytes.length + uptoBulk d + 1
  | (_, d) => uptoBulk d + 1
 end
def uptoSmall : (H : Type) → List (DataW H) → Bool := fun _ ds => decide (uptoBulkAll ds ≤ 1048576)
def OpenSpec.upto (s : _root_.Go.ChangeSpec) : _root_.Go.OpenSpec := { _root_.Go.OpenSpec.ofChange s with cond := some uptoSmall }

/-- 'pinballlaw39.SoundStates', WHERE WHAT IT READS IS OF BULK AT MOST 1048576: true; the input reads as it did. -/
def soundStatesUptoRow : OpenClaim := { program := "ythbeppgbmkjfdaa", sum := "f74367b4ee2ee91a288f103920088d49c37066d53d28bf8cbe5a3169a86b77e4", func := "pinball/pinballlaw39.SoundStates", spec := "soundStates", unfollowed := true, recurses := true, apart := false, narrowed := true }
def SoundStatesUptoSaid : Prop := soundStatesUptoRow.holds Try.pinned (OpenSpec.upto soundStatesSpec)

/-- 'pinballlaw39.SoundRuns', WHERE WHAT IT READS IS OF BULK AT MOST 1048576: true; the input reads as it did. -/
def soundRunsUptoRow : OpenClaim := { program := "ythbeppgbmkjfdaa", sum := "f74367b4ee2ee91a288f103920088d49c37066d53d28bf8cbe5a3169a86b77e4", func := "pinball/pinballlaw39.SoundRuns", spec := "soundRuns", unfollowed := true, recurses := true, apart := false, narrowed := true }
def SoundRunsUptoSaid : Prop := soundRunsUptoRow.holds Try.pinned (OpenSpec.upto soundRunsSpec)

/-- 'pinballlaw39.SoundLasts', WHERE WHAT IT READS IS OF BULK AT MOST 1048576: true; the input reads as it did. -/
def soundLastsUptoRow : OpenClaim := { program := "ythbeppgbmkjfdaa", sum := "f74367b4ee2ee91a288f103920088d49c37066d53d28bf8cbe5a3169a86b77e4", func := "pinball/pinballlaw39.SoundLasts", spec := "soundLasts", unfollowed := true, recurses := true, apart := false, narrowed := true }
def SoundLastsUptoSaid : Prop := soundLastsUptoRow.holds Try.pinned (OpenSpec.upto soundLastsSpec)

/-- 'pinballlaw39.SoundCounts', WHERE WHAT IT READS IS OF BULK AT MOST 1048576: true; the input reads as it did. -/
def soundCountsUptoRow : OpenClaim := { program := "ythbeppgbmkjfdaa", sum := "f74367b4ee2ee91a288f103920088d49c37066d53d28bf8cbe5a3169a86b77e4", func := "pinball/pinballlaw39.SoundCounts", spec := "soundCounts", unfollowed := true, recurses := true, apart := false, narrowed := true }
def SoundCountsUptoSaid : Prop := soundCountsUptoRow.holds Try.pinned (OpenSpec.upto soundCountsSpec)

/-- 'pinballlaw39.SoundSplits', WHERE WHAT IT READS IS OF BULK AT MOST 1048576: true; the input reads as it did. -/
def soundSplitsUptoRow : OpenClaim := { program := "ythbeppgbmkjfdaa", sum := "f74367b4ee2ee91a288f103920088d49c37066d53d28bf8cbe5a3169a86b77e4", func := "pinball/pinballlaw39.SoundSplits", spec := "soundSplits", unfollowed := true, recurses := true, apart := false, narrowed := true }
def SoundSplitsUptoSaid : Prop := soundSplitsUptoRow.holds Try.pinned (OpenSpec.upto soundSplitsSpec)

/-- 'pinballlaw39.SoundLimits', WHERE WHAT IT READS IS OF BULK AT MOST 1048576: true; the input reads as it did. -/
def soundLimitsUptoRow : OpenClaim := { program := "ythbeppgbmkjfdaa", sum := "f74367b4ee2ee91a288f103920088d49c37066d53d28bf8cbe5a3169a86b77e4", func := "pinball/pinballlaw39.SoundLimits", spec := "soundLimits", unfollowed := true, recurses := true, apart := false, narrowed := true }
def SoundLimitsUptoSaid : Prop := soundLimitsUptoRow.holds Try.pinned (OpenSpec.upto soundLimitsSpec)

/-- 'pinballlaw39.SoundFair', WHERE WHAT IT READS IS OF BULK AT MOST 1048576: true; the input reads as it did. -/
def soundFairUptoRow : OpenClaim := { program := "ythbeppgbmkjfdaa", sum := "f74367b4ee2ee91a288f103920088d49c37066d53d28bf8cbe5a3169a86b77e4", func := "pinball/pinballlaw39.SoundFair", spec := "soundFair", unfollowed := true, recurses := true, apart := false, narrowed := true }
def SoundFairUptoSaid : Prop := soundFairUptoRow.holds Try.pinned (OpenSpec.upto soundFairSpec)

/-- 'pinballlaw39.SoundPlays', WHERE WHAT IT READS IS OF BULK AT MOST 1048576: true; the input reads as it did. -/
def soundPlaysUptoRow : OpenClaim := { program := "ythbeppgbmkjfdaa", sum := "f74367b4ee2ee91a288f103920088d49c37066d53d28bf8cbe5a3169a86b77e4", func := "pinball/pinballlaw39.SoundPlays", spec := "soundPlays", unfollowed := true, recurses := true, apart := false, narrowed := true }
def SoundPlaysUptoSaid : Prop := soundPlaysUptoRow.holds Try.pinned (OpenSpec.upto soundPlaysSpec)

end Rows
end Go.Proofs.Ythbeppgbmkjfdaa
