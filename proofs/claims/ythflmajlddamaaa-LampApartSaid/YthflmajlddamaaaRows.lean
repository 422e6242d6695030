/-
  No cell of these rows narrows 'for every input' (looked for: loops, veiled, ifaces, maps, wideKeys, modest, calm, conditions, laid).
  DERIVED. THE GIVEN ROWS OF THIS SEAT. 9 by the template 'for every input the law returns true; each argument reads behind the call as it read before'; 0 by the template 'total and deterministic' (their statements: YthflmajlddamaaaTotals.lean).
  GIVEN WITH THE SEED: the statements are not yours to turn. If you find one false, say at which input.
  Laid BY PROGRAM, IN A SANDBOX (cutbox-rows.mjs): the forced cells as the released guide's own fill.sh prints them over the translation af02327077d00d9a… (all of the seat's roots in one cut). By AI agents, Wed Nov 11 2026. No macro, syntax, notation, axiom, sorry.
-/
import Derived.Test.YthflmajlddamaaaChecked
import GoSem.Claim
import GoSem.ClaimJoined
import GoSem.ClaimMapViews
import Derived.JoinedTies
import Derived.KernelRfl
namespace Go.Proofs.Ythflmajlddamaaa
/- THE CELL 'sum', in the pinned program and in every row, IS THE sha256 OF THE DUMP (.gsa) THAT YthflmajlddamaaaProg.lean LOADS. Nothing in Lean hashes anything: it is a label: what it is worth is what the hold of that sum in a sandbox is worth. -/
noncomputable def Try.pinned : Pinned := { name := "ythflmajlddamaaa", sum := "af02327077d00d9a753684758070ce370459eb11d88731526b1fc37ec7489407", checked := Try.checked }
namespace Rows
def none {H : Type} : Left H := { results := [], args := [] }

/-- 'pinballlaw25.LampTells': WHATEVER THE INPUT: true; the input reads as it did. -/
def lampTellsSpec : ChangeSpec := { name := "lampTells", fn := fun _ => fun
  | [d] => { results := [.lit (.bool true)], args := [d] }
  | _ => none }
def lampTellsRow : OpenClaim := { program := "ythflmajlddamaaa", sum := "af02327077d00d9a753684758070ce370459eb11d88731526b1fc37ec7489407", func := "pinball/pinballlaw25.LampTells", spec := "lampTells", apart := false }
def LampTellsSaid : Prop := lampTellsRow.holds Try.pinned (OpenSpec.ofChange lampTellsSpec)

/-- ITS FALSE NEIGHBOUR: 'it returns false'. Refute it at one input. -/
def lampTellsWrong : ChangeSpec := { name := "lampTells", fn := fun _ => fun
  | [d] => { results := [.lit (.bool false)], args := [d] }
  | _ => none }
def LampTellsWrongFalsely : Prop := lampTellsRow.holds Try.pinned (OpenSpec.ofChange lampTellsWrong)

/-- 'pinballlaw25.LampCounts': WHATEVER THE INPUT: true; the input reads as it did. -/
def lampCountsSpec : ChangeSpec := { name := "lampCounts", fn := fun _ => fun
  | [d1, d2] => { results := [.lit (.bool true)], args := [d1, d2] }
  | _ => none }
def lampCountsRow : OpenClaim := { program := "ythflmajlddamaaa", sum := "af02327077d00d9a753684758070ce370459eb11d88731526b1fc37ec7489407", func := "pinball/pinballlaw25.LampCounts", spec := "lampCounts", apart := false }
def LampCountsSaid : Prop := lampCountsRow.holds Try.pinned (OpenSpec.ofChange lampCountsSpec)

/-- ITS FALSE NEIGHBOUR: 'it returns false'. Refute it at one input. -/
def lampCountsWrong : ChangeSpec := { name := "lampCounts", fn := fun _ => fun
  | [d1, d2] => { results := [.lit (.bool false)], args := [d1, d2] }
  | _ => none }
def LampCountsWrongFalsely : Prop := lampCountsRow.holds Try.pinned (OpenSpec.ofChange lampCountsWrong)

/-- 'pinballlaw25.LampBright': WHATEVER THE INPUT: true; the input reads as it did. -/
def lampBrightSpec : ChangeSpec := { name := "lampBright", fn := fun _ => fun
  | [d1, d2, d3] => { results := [.lit (.bool true)], args := [d1, d2, d3] }
  | _ => none }
def lampBrightRow : OpenClaim := { program := "ythflmajlddamaaa", sum := "af02327077d00d9a753684758070ce370459eb11d88731526b1fc37ec7489407", func := "pinball/pinballlaw25.LampBright", spec := "lampBright", apart := false }
def LampBrightSaid : Prop := lampBrightRow.holds Try.pinned (OpenSpec.ofChange lampBrightSpec)

/-- ITS FALSE NEIGHBOUR: 'it returns false'. Refute it at one input. -/
def lampBrightWrong : ChangeSpec := { name := "lampBright", fn := fun _ => fun
  | [d1, d2, d3] => { results := [.lit (.bool false)], args := [d1, d2, d3] }
  | _ => none }
def LampBrightWrongFalsely : Prop := lampBrightRow.holds Try.pinned (OpenSpec.ofChange lampBrightWrong)

/-- 'pinballlaw25.LampEven': WHATEVER THE INPUT: true; the input reads as it did. -/
def lampEvenSpec : ChangeSpec := { name := "lampEven", fn := fun _ => fun
  | [d1, d2, d3] => { results := [.lit (.bool true)], args := [d1, d2, d3] }
  | _ => none }
def lampEvenRow : OpenClaim := { program := "ythflmajlddamaaa", sum := "af02327077d00d9a753684758070ce370459eb11d88731526b1fc37ec7489407", func := "pinball/pinballlaw25.LampEven", spec := "lampEven", apart := false }
def LampEvenSaid : Prop := lampEvenRow.holds Try.pinned (OpenSpec.ofChange lampEvenSpec)

/-- ITS FALSE NEIGHBOUR: 'it returns false'. Refute it at one input. -/
def lampEvenWrong : ChangeSpec := { name := "lampEven", fn := fun _ => fun
  | [d1, d2, d3] => { results := [.lit (.bool false)], args := [d1, d2, d3] }
  | _ => none }
def LampEvenWrongFalsely : Prop := lampEvenRow.holds Try.pinned (OpenSpec.ofChange lampEvenWrong)

/-- 'pinballlaw25.LampBlinks': WHATEVER THE INPUT: true; the input reads as it did. -/
def lampBlinksSpec : ChangeSpec := { name := "lampBlinks", fn := fun _ => fun
  | [d1, d2, d3] => { results := [.lit (.bool true)], args := [d1, d2, d3] }
  | _ => none }
def lampBlinksRow : OpenClaim := { program := "ythflmajlddamaaa", sum := "af02327077d00d9a753684758070ce370459eb11d88731526b1fc37ec7489407", func := "pinball/pinballlaw25.LampBlinks", spec := "lampBlinks", apart := false }
def LampBlinksSaid : Prop := lampBlinksRow.holds Try.pinned (OpenSpec.ofChange lampBlinksSpec)

/-- ITS FALSE NEIGHBOUR: 'it returns false'. Refute it at one input. -/
def lampBlinksWrong : ChangeSpec := { name := "lampBlinks", fn := fun _ => fun
  | [d1, d2, d3] => { results := [.lit (.bool false)], args := [d1, d2, d3] }
  | _ => none }
def LampBlinksWrongFalsely : Prop := lampBlinksRow.holds Try.pinned (OpenSpec.ofChange lampBlinksWrong)

/-- 'pinballlaw25.LampBlinking': WHATEVER THE INPUT: true; the input reads as it did. -/
def lampBlinkingSpec : ChangeSpec := { name := "lampBlinking", fn := fun _ => fun
  | [d1, d2, d3] => { results := [.lit (.bool true)], args := [d1, d2, d3] }
  | _ => none }
def lampBlinkingRow : OpenClaim := { program := "ythflmajlddamaaa", sum := "af02327077d00d9a753684758070ce370459eb11d88731526b1fc37ec7489407", func := "pinball/pinballlaw25.LampBlinking", spec := "lampBlinking", apart := false }
def LampBlinkingSaid : Prop := lampBlinkingRow.holds Try.pinned (OpenSpec.ofChange lampBlinkingSpec)

/-- ITS FALSE NEIGHBOUR: 'it returns false'. Refute it at one input. -/
def lampBlinkingWrong : ChangeSpec := { name := "lampBlinking", fn := fun _ => fun
  | [d1, d2, d3] => { results := [.lit (.bool false)], args := [d1, d2, d3] }
  | _ => none }
def LampBlinkingWrongFalsely : Prop := lampBlinkingRow.holds Try.pinned (OpenSpec.ofChange lampBlinkingWrong)

/-- 'pinballlaw25.LampApart': WHATEVER THE INPUT: true; the input reads as it did. -/
def lampApartSpec : ChangeSpec := { name := "lampApart", fn := fun _ => fun
  | [d1, d2, d3] => { results := [.lit (.bool true)], args := [d1, d2, d3] }
  | _ => none }
def lampApartRow : OpenClaim := { program := "ythflmajlddamaaa", sum := "af02327077d00d9a753684758070ce370459eb11d88731526b1fc37ec7489407", func := "pinball/pinballlaw25.LampApart", spec := "lampApart", apart := false }
def LampApartSaid : Prop := lampApartRow.holds Try.pinned (OpenSpec.ofChange lampApartSpec)

/-- ITS FALSE NEIGHBOUR: 'it returns false'. Refute it at one input. -/
def lampApartWrong : ChangeSpec := { name := "lampApart", fn := fun _ => fun
  | [d1, d2, d3] => { results := [.lit (.bool false)], args := [d1, d2, d3] }
  | _ => none }
def LampApartWrongFalsely : Prop := lampApartRow.holds Try.pinned (OpenSpec.ofChange lampApartWrong)

/-- 'pinballlaw25.LampRows': WHATEVER THE INPUT: true; the input reads as it did. -/
def lampRowsSpec : ChangeSpec := { name := "lampRows", fn := fun _ => fun
  | [d1, d2] => { results := [.lit (.bool true)], args := [d1, d2] }
  | _ => none }
def lampRowsRow : OpenClaim := { program := "ythflmajlddamaaa", sum := "af02327077d00d9a753684758070ce370459eb11d88731526b1fc37ec7489407", func := "pinball/pinballlaw25.LampRows", spec := "lampRows", apart := false }
def LampRowsSaid : Prop := lampRowsRow.holds Try.pinned (OpenSpec.ofChange lampRowsSpec)

/-- ITS FALSE NEIGHBOUR: 'it returns false'. Refute it at one input. -/
def lampRowsWrong : ChangeSpec := { name := "lampRows", fn := fun _ => fun
  | [d1, d2] => { results := [.lit (.bool false)], args := [d1, d2] }
  | _ => none }
def LampRowsWrongFalsely : Prop := lampRowsRow.holds Try.pinned (OpenSpec.ofChange lampRowsWrong)

/-- 'pinballlaw25.LampPictures': WHATEVER THE INPUT: true; the input reads as it did. -/
def lampPicturesSpec : ChangeSpec := { name := "lampPictures", fn := fun _ => fun
  | [d1, d2] => { results := [.lit (.bool true)], args := [d1, d2] }
  | _ => none }
def lampPicturesRow : OpenClaim := { program := "ythflmajlddamaaa", sum := "af02327077d00d9a753684758070ce370459eb11d88731526b1fc37ec7489407", func := "pinball/pinballlaw25.LampPictures", spec := "lampPictures", apart := false }
def LampPicturesSaid : Prop := lampPicturesRow.holds Try.pinned (OpenSpec.ofChange lampPicturesSpec)

/-- ITS FALSE NEIGHBOUR: 'it returns false'. Refute it at one input. -/
def lampPicturesWrong : ChangeSpec := { name := "lampPictures", fn := fun _ => fun
  | [d1, d2] => { results := [.lit (.bool false)], args := [d1, d2] }
  | _ => none }
def LampPicturesWrongFalsely : Prop := lampPicturesRow.holds Try.pinned (OpenSpec.ofChange lampPicturesWrong)

/- THE SECOND FORM. 'bulk': how many values and letters a reading holds, each counted each time it is reached (what is shared counts as often as it is met; a slice's spare places count too). A statement '..UptoSaid' is the law's where the arguments, and the package variables that the reading takes, are together of bulk at most 1048576: NARROWER than '..Said'. Prove '..Said' where nothing that the law and all that it calls make is longer than what came in: it says more and counts as full. Else prove '..UptoSaid'. A law counts once. -/
mutual
def uptoBulk {H : Type} : DataW H → Nat
  | .lit (.string bytes) => bytes.length + 1
  | .lit _ => 1
  | .nil => 1
  | .ptr d => uptoBulk d + 1
  | .slice elems spare => uptoBulkAll elems + uptoBulkAll spare + 1
  | .agg parts => uptoBulkAll parts + 1
  | .iface _ d => uptoBulk d + 1
  | .map entries => uptoBulkEntries entries + 1
  | .held _ => 1
def uptoBulkAll {H : Type} : List (DataW H) → Nat
  | [] => 0
  | d :: r => uptoBulk d + uptoBulkAll r
def uptoBulkEntries {H : Type} : List (Lit × DataW H) → Nat
  | [] => 0
  | x :: r => uptoBulkEntry x + uptoBulkEntries r
def uptoBulkEntry {H : Type} : Lit × DataW H → Nat
  | (.string bytes, d) => bytes.length + uptoBulk d + 1
  | (_, d) => uptoBulk d + 1
 end
def uptoSmall : (H : Type) → List (DataW H) → Bool := fun _ ds => decide (uptoBulkAll ds ≤ 1048576)
def OpenSpec.upto (s : _root_.Go.ChangeSpec) : _root_.Go.OpenSpec := { _root_.Go.OpenSpec.ofChange s with cond := some uptoSmall }

/-- 'pinballlaw25.LampTells', WHERE WHAT IT READS IS OF BULK AT MOST 1048576: true; the input reads as it did. -/
def lampTellsUptoRow : OpenClaim := { program := "ythflmajlddamaaa", sum := "af02327077d00d9a753684758070ce370459eb11d88731526b1fc37ec7489407", func := "pinball/pinballlaw25.LampTells", spec := "lampTells", apart := false, narrowed := true }
def LampTellsUptoSaid : Prop := lampTellsUptoRow.holds Try.pinned (OpenSpec.upto lampTellsSpec)

/-- 'pinballlaw25.LampCounts', WHERE WHAT IT READS IS OF BULK AT MOST 1048576: true; the input reads as it did. -/
def lampCountsUptoRow : OpenClaim := { program := "ythflmajlddamaaa", sum := "af02327077d00d9a753684758070ce370459eb11d88731526b1fc37ec7489407", func := "pinball/pinballlaw25.LampCounts", spec := "lampCounts", apart := false, narrowed := true }
def LampCountsUptoSaid : Prop := lampCountsUptoRow.holds Try.pinned (OpenSpec.upto lampCountsSpec)

/-- 'pinballlaw25.LampBright', WHERE WHAT IT READS IS OF BULK AT MOST 1048576: true; the input reads as it did. -/
def lampBrightUptoRow : OpenClaim := { program := "ythflmajlddamaaa", sum := "af02327077d00d9a753684758070ce370459eb11d88731526b1fc37ec7489407", func := "pinball/pinballlaw25.LampBright", spec := "lampBright", apart := false, narrowed := true }
def LampBrightUptoSaid : Prop := lampBrightUptoRow.holds Try.pinned (OpenSpec.upto lampBrightSpec)

/-- 'pinballlaw25.LampEven', WHERE WHAT IT READS IS OF BULK AT MOST 1048576: true; the input reads as it did. -/
def lampEvenUptoRow : OpenClaim := { program := "ythflmajlddamaaa", sum := "af02327077d00d9a753684758070ce370459eb11d88731526b1fc37ec7489407", func := "pinball/pinballlaw25.LampEven", spec := "lampEven", apart := false, narrowed := true }
def LampEvenUptoSaid : Prop := lampEvenUptoRow.holds Try.pinned (OpenSpec.upto lampEvenSpec)

/-- 'pinballlaw25.LampBlinks', WHERE WHAT IT READS IS OF BULK AT MOST 1048576: true; the input reads as it did. -/
def lampBlinksUptoRow : OpenClaim := { program := "ythflmajlddamaaa", sum := "af02327077d00d9a753684758070ce370459eb11d88731526b1fc37ec7489407", func := "pinball/pinballlaw25.LampBlinks", spec := "lampBlinks", apart := false, narrowed := true }
def LampBlinksUptoSaid : Prop := lampBlinksUptoRow.holds Try.pinned (OpenSpec.upto lampBlinksSpec)

/-- 'pinballlaw25.LampBlinking', WHERE WHAT IT READS IS OF BULK AT MOST 1048576: true; the input reads as it did. -/
def lampBlinkingUptoRow : OpenClaim := { program := "ythflmajlddamaaa", sum := "af02327077d00d9a753684758070ce370459eb11d88731526b1fc37ec7489407", func := "pinball/pinballlaw25.LampBlinking", spec := "lampBlinking", apart := false, narrowed := true }
def LampBlinkingUptoSaid : Prop := lampBlinkingUptoRow.holds Try.pinned (OpenSpec.upto lampBlinkingSpec)

/-- 'pinballlaw25.LampApart', WHERE WHAT IT READS IS OF BULK AT MOST 1048576: true; the input reads as it did. -/
def lampApartUptoRow : OpenClaim := { program := "ythflmajlddamaaa", sum := "af02327077d00d9a753684758070ce370459eb11d88731526b1fc37ec7489407", func := "pinball/pinballlaw25.LampApart", spec := "lampApart", apart := false, narrowed := true }
def LampApartUptoSaid : Prop := lampApartUptoRow.holds Try.pinned (OpenSpec.upto lampApartSpec)

/-- 'pinballlaw25.LampRows', WHERE WHAT IT READS IS OF BULK AT MOST 1048576: true; the input reads as it did. -/
def lampRowsUptoRow : OpenClaim := { program := "ythflmajlddamaaa", sum := "af02327077d00d9a753684758070ce370459eb11d88731526b1fc37ec7489407", func := "pinball/pinballlaw25.LampRows", spec := "lampRows", apart := false, narrowed := true }
def LampRowsUptoSaid : Prop := lampRowsUptoRow.holds Try.pinned (OpenSpec.upto lampRowsSpec)

/-- 'pinballlaw25.LampPictures', WHERE WHAT IT READS IS OF BULK AT MOST 1048576: true; the input reads as it did. -/
def lampPicturesUptoRow : OpenClaim := { program := "ythflmajlddamaaa", sum := "af02327077d00d9a753684758070ce370459eb11d88731526b1fc37ec7489407", func := "pinball/pinballlaw25.LampPictures", spec := "lampPictures", apart := false, narrowed := true }
def LampPicturesUptoSaid : Prop := lampPicturesUptoRow.holds Try.pinned (OpenSpec.upto lampPicturesSpec)

end Rows
end Go.Proofs.Ythflmajlddamaaa
