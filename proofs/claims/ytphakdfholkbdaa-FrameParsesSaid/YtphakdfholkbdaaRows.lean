/-
  No cell of these rows narrows 'for every input' (looked for: loops, veiled, ifaces, maps, wideKeys, modest, calm, conditions, laid).
  DERIVED. THE GIVEN ROWS OF THIS SEAT. 8 by the template 'for every input the law returns true; each argument reads behind the call as it read before'; 0 by the template 'total and deterministic' (their statements: YtphakdfholkbdaaTotals.lean).
  GIVEN WITH THE SEED: the statements are not yours to turn. If you find one false, say at which input.
  Laid BY PROGRAM, IN A SANDBOX (cutbox-rows.mjs): the forced cells as the released guide's own fill.sh prints them over the translation 277d3898547ca3d7… (all of the seat's roots in one cut). By AI agents, Wed Nov 11 2026. No macro, syntax, notation, axiom, sorry.
-/
import Derived.Test.YtphakdfholkbdaaChecked
import GoSem.Claim
import GoSem.ClaimJoined
import GoSem.ClaimMapViews
import Derived.JoinedTies
import Derived.KernelRfl
namespace Go.Proofs.Ytphakdfholkbdaa
/- THE CELL 'sum', in the pinned program and in every row, IS THE sha256 OF THE DUMP (.gsa) THAT YtphakdfholkbdaaProg.lean LOADS. Nothing in Lean hashes anything: it is a label: what it is worth is what the hold of that sum in a sandbox is worth. -/
noncomputable def Try.pinned : Pinned := { name := "ytphakdfholkbdaa", sum := "277d3898547ca3d724830d0cab7d6fa6485234c472237c8a3c165d2b47724cd8", checked := Try.checked }
namespace Rows
def none {H : Type} : Left H := { results := [], args := [] }

/-- 'wigwaglaw05.FrameNames': WHATEVER THE INPUT: true; the input reads as it did. -/
def frameNamesSpec : ChangeSpec := { name := "frameNames", fn := fun _ => fun
  | [] => { results := [.lit (.bool true)], args := [] }
  | _ => none }
def frameNamesRow : OpenClaim := { program := "ytphakdfholkbdaa", sum := "277d3898547ca3d724830d0cab7d6fa6485234c472237c8a3c165d2b47724cd8", func := "wigwag/wigwaglaw05.FrameNames", spec := "frameNames", inPlace := ["slices.overlaps[wigwag/api.Span]"], unfollowed := true, recurses := true, apart := false }
def FrameNamesSaid : Prop := frameNamesRow.holds Try.pinned (OpenSpec.ofChange frameNamesSpec)

/-- ITS FALSE NEIGHBOUR: 'it returns false'. Refute it at one input. -/
def frameNamesWrong : ChangeSpec := { name := "frameNames", fn := fun _ => fun
  | [] => { results := [.lit (.bool false)], args := [] }
  | _ => none }
def FrameNamesWrongFalsely : Prop := frameNamesRow.holds Try.pinned (OpenSpec.ofChange frameNamesWrong)

/-- 'wigwaglaw05.FrameEncodes': WHATEVER THE INPUT: true; the input reads as it did. -/
def frameEncodesSpec : ChangeSpec := { name := "frameEncodes", fn := fun _ => fun
  | [d] => { results := [.lit (.bool true)], args := [d] }
  | _ => none }
def frameEncodesRow : OpenClaim := { program := "ytphakdfholkbdaa", sum := "277d3898547ca3d724830d0cab7d6fa6485234c472237c8a3c165d2b47724cd8", func := "wigwag/wigwaglaw05.FrameEncodes", spec := "frameEncodes", inPlace := ["slices.overlaps[wigwag/api.Span]"], unfollowed := true, recurses := true, apart := false }
def FrameEncodesSaid : Prop := frameEncodesRow.holds Try.pinned (OpenSpec.ofChange frameEncodesSpec)

/-- ITS FALSE NEIGHBOUR: 'it returns false'. Refute it at one input. -/
def frameEncodesWrong : ChangeSpec := { name := "frameEncodes", fn := fun _ => fun
  | [d] => { results := [.lit (.bool false)], args := [d] }
  | _ => none }
def FrameEncodesWrongFalsely : Prop := frameEncodesRow.holds Try.pinned (OpenSpec.ofChange frameEncodesWrong)

/-- 'wigwaglaw05.FrameParses': WHATEVER THE INPUT: true; the input reads as it did. -/
def frameParsesSpec : ChangeSpec := { name := "frameParses", fn := fun _ => fun
  | [d] => { results := [.lit (.bool true)], args := [d] }
  | _ => none }
def frameParsesRow : OpenClaim := { program := "ytphakdfholkbdaa", sum := "277d3898547ca3d724830d0cab7d6fa6485234c472237c8a3c165d2b47724cd8", func := "wigwag/wigwaglaw05.FrameParses", spec := "frameParses", inPlace := ["slices.overlaps[wigwag/api.Span]"], unfollowed := true, recurses := true, apart := false }
def FrameParsesSaid : Prop := frameParsesRow.holds Try.pinned (OpenSpec.ofChange frameParsesSpec)

/-- ITS FALSE NEIGHBOUR: 'it returns false'. Refute it at one input. -/
def frameParsesWrong : ChangeSpec := { name := "frameParses", fn := fun _ => fun
  | [d] => { results := [.lit (.bool false)], args := [d] }
  | _ => none }
def FrameParsesWrongFalsely : Prop := frameParsesRow.holds Try.pinned (OpenSpec.ofChange frameParsesWrong)

/-- 'wigwaglaw05.FrameBack': WHATEVER THE INPUT: true; the input reads as it did. -/
def frameBackSpec : ChangeSpec := { name := "frameBack", fn := fun _ => fun
  | [d1, d2, d3] => { results := [.lit (.bool true)], args := [d1, d2, d3] }
  | _ => none }
def frameBackRow : OpenClaim := { program := "ytphakdfholkbdaa", sum := "277d3898547ca3d724830d0cab7d6fa6485234c472237c8a3c165d2b47724cd8", func := "wigwag/wigwaglaw05.FrameBack", spec := "frameBack", inPlace := ["slices.overlaps[wigwag/api.Span]"], unfollowed := true, recurses := true, apart := false }
def FrameBackSaid : Prop := frameBackRow.holds Try.pinned (OpenSpec.ofChange frameBackSpec)

/-- ITS FALSE NEIGHBOUR: 'it returns false'. Refute it at one input. -/
def frameBackWrong : ChangeSpec := { name := "frameBack", fn := fun _ => fun
  | [d1, d2, d3] => { results := [.lit (.bool false)], args := [d1, d2, d3] }
  | _ => none }
def FrameBackWrongFalsely : Prop := frameBackRow.holds Try.pinned (OpenSpec.ofChange frameBackWrong)

/-- 'wigwaglaw05.FrameFine': WHATEVER THE INPUT: true; the input reads as it did. -/
def frameFineSpec : ChangeSpec := { name := "frameFine", fn := fun _ => fun
  | [d1, d2] => { results := [.lit (.bool true)], args := [d1, d2] }
  | _ => none }
def frameFineRow : OpenClaim := { program := "ytphakdfholkbdaa", sum := "277d3898547ca3d724830d0cab7d6fa6485234c472237c8a3c165d2b47724cd8", func := "wigwag/wigwaglaw05.FrameFine", spec := "frameFine", inPlace := ["slices.overlaps[wigwag/api.Span]"], unfollowed := true, recurses := true, apart := false }
def FrameFineSaid : Prop := frameFineRow.holds Try.pinned (OpenSpec.ofChange frameFineSpec)

/-- ITS FALSE NEIGHBOUR: 'it returns false'. Refute it at one input. -/
def frameFineWrong : ChangeSpec := { name := "frameFine", fn := fun _ => fun
  | [d1, d2] => { results := [.lit (.bool false)], args := [d1, d2] }
  | _ => none }
def FrameFineWrongFalsely : Prop := frameFineRow.holds Try.pinned (OpenSpec.ofChange frameFineWrong)

/-- 'wigwaglaw05.FrameSpans': WHATEVER THE INPUT: true; the input reads as it did. -/
def frameSpansSpec : ChangeSpec := { name := "frameSpans", fn := fun _ => fun
  | [d1, d2] => { results := [.lit (.bool true)], args := [d1, d2] }
  | _ => none }
def frameSpansRow : OpenClaim := { program := "ytphakdfholkbdaa", sum := "277d3898547ca3d724830d0cab7d6fa6485234c472237c8a3c165d2b47724cd8", func := "wigwag/wigwaglaw05.FrameSpans", spec := "frameSpans", inPlace := ["slices.overlaps[wigwag/api.Span]"], unfollowed := true, recurses := true, apart := false }
def FrameSpansSaid : Prop := frameSpansRow.holds Try.pinned (OpenSpec.ofChange frameSpansSpec)

/-- ITS FALSE NEIGHBOUR: 'it returns false'. Refute it at one input. -/
def frameSpansWrong : ChangeSpec := { name := "frameSpans", fn := fun _ => fun
  | [d1, d2] => { results := [.lit (.bool false)], args := [d1, d2] }
  | _ => none }
def FrameSpansWrongFalsely : Prop := frameSpansRow.holds Try.pinned (OpenSpec.ofChange frameSpansWrong)

/-- 'wigwaglaw05.FrameLists': WHATEVER THE INPUT: true; the input reads as it did. -/
def frameListsSpec : ChangeSpec := { name := "frameLists", fn := fun _ => fun
  | [d] => { results := [.lit (.bool true)], args := [d] }
  | _ => none }
def frameListsRow : OpenClaim := { program := "ytphakdfholkbdaa", sum := "277d3898547ca3d724830d0cab7d6fa6485234c472237c8a3c165d2b47724cd8", func := "wigwag/wigwaglaw05.FrameLists", spec := "frameLists", inPlace := ["slices.overlaps[wigwag/api.Span]"], unfollowed := true, recurses := true, apart := false }
def FrameListsSaid : Prop := frameListsRow.holds Try.pinned (OpenSpec.ofChange frameListsSpec)

/-- ITS FALSE NEIGHBOUR: 'it returns false'. Refute it at one input. -/
def frameListsWrong : ChangeSpec := { name := "frameLists", fn := fun _ => fun
  | [d] => { results := [.lit (.bool false)], args := [d] }
  | _ => none }
def FrameListsWrongFalsely : Prop := frameListsRow.holds Try.pinned (OpenSpec.ofChange frameListsWrong)

/-- 'wigwaglaw05.FrameZeros': WHATEVER THE INPUT: true; the input reads as it did. -/
def frameZerosSpec : ChangeSpec := { name := "frameZeros", fn := fun _ => fun
  | [d] => { results := [.lit (.bool true)], args := [d] }
  | _ => none }
def frameZerosRow : OpenClaim := { program := "ytphakdfholkbdaa", sum := "277d3898547ca3d724830d0cab7d6fa6485234c472237c8a3c165d2b47724cd8", func := "wigwag/wigwaglaw05.FrameZeros", spec := "frameZeros", inPlace := ["slices.overlaps[wigwag/api.Span]"], unfollowed := true, recurses := true, apart := false }
def FrameZerosSaid : Prop := frameZerosRow.holds Try.pinned (OpenSpec.ofChange frameZerosSpec)

/-- ITS FALSE NEIGHBOUR: 'it returns false'. Refute it at one input. -/
def frameZerosWrong : ChangeSpec := { name := "frameZeros", fn := fun _ => fun
  | [d] => { results := [.lit (.bool false)], args := [d] }
  | _ => none }
def FrameZerosWrongFalsely : Prop := frameZerosRow.holds Try.pinned (OpenSpec.ofChange frameZerosWrong)

/- THE SECOND FORM. 'bulk': how many values and letters a reading holds, each counted each time it is reached (what is shared counts as often as it is met; a slice's spare places count too). A statement '..UptoSaid' is the law's where the arguments, and the package variables that the reading takes, are together of bulk at most 1048576: NARROWER than '..Said'. Prove '..Said' where nothing that the law and all that it calls make is longer than what came in: it says more and counts as full. Else prove '..UptoSaid'. A law counts once. -/
mutual
def uptoBulk {H : Type} : DataW H → Nat
  | .lit (.string bytes) => bytes.length + 1
  | .lit _ => 1
  | .nil => 1
  | .ptr d => uptoBulk d + 1
  | .slice elems spare => uptoBulkAll elems + uptoBulkAll spare + 1
  | .agg parts => uptoBulkAll parts + 1
  | .iface _ d => uptoBulk d + 1
  | .map entries => uptoBulkEntries entries + 1
  | .held _ => 1
def uptoBulkAll {H : Type} : List (DataW H) → Nat
  | [] => 0
  | d :: r => uptoBulk d + uptoBulkAll r
def uptoBulkEntries {H : Type} : List (Lit × DataW H) → Nat
  | [] => 0
  | x :: r => uptoBulkEntry x + uptoBulkEntries r
def uptoBulkEntry {H : Type} : Lit × DataW H → Nat
  | (.string bytes, d) => bytes.length + uptoBulk d + 1
  | (_, d) => uptoBulk d + 1
 end
def uptoSmall : (H : Type) → List (DataW H) → Bool := fun _ ds => decide (uptoBulkAll ds ≤ 1048576)
def OpenSpec.upto (s : _root_.Go.ChangeSpec) : _root_.Go.OpenSpec := { _root_.Go.OpenSpec.ofChange s with cond := some uptoSmall }

/-- 'wigwaglaw05.FrameNames', WHERE WHAT IT READS IS OF BULK AT MOST 1048576: true; the input reads as it did. -/
def frameNamesUptoRow : OpenClaim := { program := "ytphakdfholkbdaa", sum := "277d3898547ca3d724830d0cab7d6fa6485234c472237c8a3c165d2b47724cd8", func := "wigwag/wigwaglaw05.FrameNames", spec := "frameNames", inPlace := ["slices.overlaps[wigwag/api.Span]"], unfollowed := true, recurses := true, apart := false, narrowed := true }
def FrameNamesUptoSaid : Prop := frameNamesUptoRow.holds Try.pinned (OpenSpec.upto frameNamesSpec)

/-- 'wigwaglaw05.FrameEncodes', WHERE WHAT IT READS IS OF BULK AT MOST 1048576: true; the input reads as it did. -/
def frameEncodesUptoRow : OpenClaim := { program := "ytphakdfholkbdaa", sum := "277d3898547ca3d724830d0cab7d6fa6485234c472237c8a3c165d2b47724cd8", func := "wigwag/wigwaglaw05.FrameEncodes", spec := "frameEncodes", inPlace := ["slices.overlaps[wigwag/api.Span]"], unfollowed := true, recurses := true, apart := false, narrowed := true }
def FrameEncodesUptoSaid : Prop := frameEncodesUptoRow.holds Try.pinned (OpenSpec.upto frameEncodesSpec)

/-- 'wigwaglaw05.FrameParses', WHERE WHAT IT READS IS OF BULK AT MOST 1048576: true; the input reads as it did. -/
def frameParsesUptoRow : OpenClaim := { program := "ytphakdfholkbdaa", sum := "277d3898547ca3d724830d0cab7d6fa6485234c472237c8a3c165d2b47724cd8", func := "wigwag/wigwaglaw05.FrameParses", spec := "frameParses", inPlace := ["slices.overlaps[wigwag/api.Span]"], unfollowed := true, recurses := true, apart := false, narrowed := true }
def FrameParsesUptoSaid : Prop := frameParsesUptoRow.holds Try.pinned (OpenSpec.upto frameParsesSpec)

/-- 'wigwaglaw05.FrameBack', WHERE WHAT IT READS IS OF BULK AT MOST 1048576: true; the input reads as it did. -/
def frameBackUptoRow : OpenClaim := { program := "ytphakdfholkbdaa", sum := "277d3898547ca3d724830d0cab7d6fa6485234c472237c8a3c165d2b47724cd8", func := "wigwag/wigwaglaw05.FrameBack", spec := "frameBack", inPlace := ["slices.overlaps[wigwag/api.Span]"], unfollowed := true, recurses := true, apart := false, narrowed := true }
def FrameBackUptoSaid : Prop := frameBackUptoRow.holds Try.pinned (OpenSpec.upto frameBackSpec)

/-- 'wigwaglaw05.FrameFine', WHERE WHAT IT READS IS OF BULK AT MOST 1048576: true; the input reads as it did. -/
def frameFineUptoRow : OpenClaim := { program := "ytphakdfholkbdaa", sum := "277d3898547ca3d724830d0cab7d6fa6485234c472237c8a3c165d2b47724cd8", func := "wigwag/wigwaglaw05.FrameFine", spec := "frameFine", inPlace := ["slices.overlaps[wigwag/api.Span]"], unfollowed := true, recurses := true, apart := false, narrowed := true }
def FrameFineUptoSaid : Prop := frameFineUptoRow.holds Try.pinned (OpenSpec.upto frameFineSpec)

/-- 'wigwaglaw05.FrameSpans', WHERE WHAT IT READS IS OF BULK AT MOST 1048576: true; the input reads as it did. -/
def frameSpansUptoRow : OpenClaim := { program := "ytphakdfholkbdaa", sum := "277d3898547ca3d724830d0cab7d6fa6485234c472237c8a3c165d2b47724cd8", func := "wigwag/wigwaglaw05.FrameSpans", spec := "frameSpans", inPlace := ["slices.overlaps[wigwag/api.Span]"], unfollowed := true, recurses := true, apart := false, narrowed := true }
def FrameSpansUptoSaid : Prop := frameSpansUptoRow.holds Try.pinned (OpenSpec.upto frameSpansSpec)

/-- 'wigwaglaw05.FrameLists', WHERE WHAT IT READS IS OF BULK AT MOST 1048576: true; the input reads as it did. -/
def frameListsUptoRow : OpenClaim := { program := "ytphakdfholkbdaa", sum := "277d3898547ca3d724830d0cab7d6fa6485234c472237c8a3c165d2b47724cd8", func := "wigwag/wigwaglaw05.FrameLists", spec := "frameLists", inPlace := ["slices.overlaps[wigwag/api.Span]"], unfollowed := true, recurses := true, apart := false, narrowed := true }
def FrameListsUptoSaid : Prop := frameListsUptoRow.holds Try.pinned (OpenSpec.upto frameListsSpec)

/-- 'wigwaglaw05.FrameZeros', WHERE WHAT IT READS IS OF BULK AT MOST 1048576: true; the input reads as it did. -/
def frameZerosUptoRow : OpenClaim := { program := "ytphakdfholkbdaa", sum := "277d3898547ca3d724830d0cab7d6fa6485234c472237c8a3c165d2b47724cd8", func := "wigwag/wigwaglaw05.FrameZeros", spec := "frameZeros", inPlace := ["slices.overlaps[wigwag/api.Span]"], unfollowed := true, recurses := true, apart := false, narrowed := true }
def FrameZerosUptoSaid : Prop := frameZerosUptoRow.holds Try.pinned (OpenSpec.upto frameZerosSpec)

end Rows
end Go.Proofs.Ytphakdfholkbdaa
