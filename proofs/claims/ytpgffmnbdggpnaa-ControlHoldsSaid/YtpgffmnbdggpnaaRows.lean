/-
  No cell of these rows narrows 'for every input' (looked for: loops, veiled, ifaces, maps, wideKeys, modest, calm, conditions, laid).
  DERIVED. THE GIVEN ROWS OF THIS SEAT. 5 by the template 'for every input the law returns true; each argument reads behind the call as it read before'; 0 by the template 'total and deterministic' (their statements: YtpgffmnbdggpnaaTotals.lean).
  GIVEN WITH THE SEED: the statements are not yours to turn. If you find one false, say at which input.
  Laid BY PROGRAM, IN A SANDBOX (cutbox-rows.mjs): the forced cells as the released guide's own fill.sh prints them over the translation 1b21d23e12f12fe1… (all of the seat's roots in one cut). By AI agents, Wed Nov 11 2026. No macro, syntax, notation, axiom, sorry.
-/
import Derived.Test.YtpgffmnbdggpnaaChecked
import GoSem.Claim
import GoSem.ClaimJoined
import GoSem.ClaimMapViews
import Derived.JoinedTies
import Derived.KernelRfl
namespace Go.Proofs.Ytpgffmnbdggpnaa
/- THE CELL 'sum', in the pinned program and in every row, IS THE sha256 OF THE DUMP (.gsa) THAT YtpgffmnbdggpnaaProg.lean LOADS. Nothing in Lean hashes anything: it is a label: what it is worth is what the hold of that sum in a sandbox is worth. -/
noncomputable def Try.pinned : Pinned := { name := "ytpgffmnbdggpnaa", sum := "1b21d23e12f12fe15ffb545dffd695bf860656debd535e1b8e16a8c11a899b33", checked := Try.checked }
namespace Rows
def none {H : Type} : Left H := { results := [], args := [] }

/-- 'wigwaglaw15.ControlNames': WHATEVER THE INPUT: true; the input reads as it did. -/
def controlNamesSpec : ChangeSpec := { name := "controlNames", fn := fun _ => fun
  | [] => { results := [.lit (.bool true)], args := [] }
  | _ => none }
def controlNamesRow : OpenClaim := { program := "ytpgffmnbdggpnaa", sum := "1b21d23e12f12fe15ffb545dffd695bf860656debd535e1b8e16a8c11a899b33", func := "wigwag/wigwaglaw15.ControlNames", spec := "controlNames", inPlace := ["math/bits.Add64"], unfollowed := true, recurses := true, named := ["math/bits.divideError", "math/bits.overflowError"], apart := false }
def ControlNamesSaid : Prop := controlNamesRow.holds Try.pinned (OpenSpec.ofChange controlNamesSpec)

/-- ITS FALSE NEIGHBOUR: 'it returns false'. Refute it at one input. -/
def controlNamesWrong : ChangeSpec := { name := "controlNames", fn := fun _ => fun
  | [] => { results := [.lit (.bool false)], args := [] }
  | _ => none }
def ControlNamesWrongFalsely : Prop := controlNamesRow.holds Try.pinned (OpenSpec.ofChange controlNamesWrong)

/-- 'wigwaglaw15.ControlRates': WHATEVER THE INPUT: true; the input reads as it did. -/
def controlRatesSpec : ChangeSpec := { name := "controlRates", fn := fun _ => fun
  | [d1, d2, d3] => { results := [.lit (.bool true)], args := [d1, d2, d3] }
  | _ => none }
def controlRatesRow : OpenClaim := { program := "ytpgffmnbdggpnaa", sum := "1b21d23e12f12fe15ffb545dffd695bf860656debd535e1b8e16a8c11a899b33", func := "wigwag/wigwaglaw15.ControlRates", spec := "controlRates", inPlace := ["math/bits.Add64"], unfollowed := true, recurses := true, named := ["math/bits.divideError", "math/bits.overflowError"], apart := false }
def ControlRatesSaid : Prop := controlRatesRow.holds Try.pinned (OpenSpec.ofChange controlRatesSpec)

/-- ITS FALSE NEIGHBOUR: 'it returns false'. Refute it at one input. -/
def controlRatesWrong : ChangeSpec := { name := "controlRates", fn := fun _ => fun
  | [d1, d2, d3] => { results := [.lit (.bool false)], args := [d1, d2, d3] }
  | _ => none }
def ControlRatesWrongFalsely : Prop := controlRatesRow.holds Try.pinned (OpenSpec.ofChange controlRatesWrong)

/-- 'wigwaglaw15.ControlSame': WHATEVER THE INPUT: true; the input reads as it did. -/
def controlSameSpec : ChangeSpec := { name := "controlSame", fn := fun _ => fun
  | [d1, d2] => { results := [.lit (.bool true)], args := [d1, d2] }
  | _ => none }
def controlSameRow : OpenClaim := { program := "ytpgffmnbdggpnaa", sum := "1b21d23e12f12fe15ffb545dffd695bf860656debd535e1b8e16a8c11a899b33", func := "wigwag/wigwaglaw15.ControlSame", spec := "controlSame", inPlace := ["math/bits.Add64"], unfollowed := true, recurses := true, named := ["math/bits.divideError", "math/bits.overflowError"], apart := false }
def ControlSameSaid : Prop := controlSameRow.holds Try.pinned (OpenSpec.ofChange controlSameSpec)

/-- ITS FALSE NEIGHBOUR: 'it returns false'. Refute it at one input. -/
def controlSameWrong : ChangeSpec := { name := "controlSame", fn := fun _ => fun
  | [d1, d2] => { results := [.lit (.bool false)], args := [d1, d2] }
  | _ => none }
def ControlSameWrongFalsely : Prop := controlSameRow.holds Try.pinned (OpenSpec.ofChange controlSameWrong)

/-- 'wigwaglaw15.ControlHolds': WHATEVER THE INPUT: true; the input reads as it did. -/
def controlHoldsSpec : ChangeSpec := { name := "controlHolds", fn := fun _ => fun
  | [d1, d2, d3, d4] => { results := [.lit (.bool true)], args := [d1, d2, d3, d4] }
  | _ => none }
def controlHoldsRow : OpenClaim := { program := "ytpgffmnbdggpnaa", sum := "1b21d23e12f12fe15ffb545dffd695bf860656debd535e1b8e16a8c11a899b33", func := "wigwag/wigwaglaw15.ControlHolds", spec := "controlHolds", inPlace := ["math/bits.Add64"], unfollowed := true, recurses := true, named := ["math/bits.divideError", "math/bits.overflowError"], apart := false }
def ControlHoldsSaid : Prop := controlHoldsRow.holds Try.pinned (OpenSpec.ofChange controlHoldsSpec)

/-- ITS FALSE NEIGHBOUR: 'it returns false'. Refute it at one input. -/
def controlHoldsWrong : ChangeSpec := { name := "controlHolds", fn := fun _ => fun
  | [d1, d2, d3, d4] => { results := [.lit (.bool false)], args := [d1, d2, d3, d4] }
  | _ => none }
def ControlHoldsWrongFalsely : Prop := controlHoldsRow.holds Try.pinned (OpenSpec.ofChange controlHoldsWrong)

/-- 'wigwaglaw15.ControlUndoes': WHATEVER THE INPUT: true; the input reads as it did. -/
def controlUndoesSpec : ChangeSpec := { name := "controlUndoes", fn := fun _ => fun
  | [d1, d2, d3, d4, d5] => { results := [.lit (.bool true)], args := [d1, d2, d3, d4, d5] }
  | _ => none }
def controlUndoesRow : OpenClaim := { program := "ytpgffmnbdggpnaa", sum := "1b21d23e12f12fe15ffb545dffd695bf860656debd535e1b8e16a8c11a899b33", func := "wigwag/wigwaglaw15.ControlUndoes", spec := "controlUndoes", inPlace := ["math/bits.Add64"], unfollowed := true, recurses := true, named := ["math/bits.divideError", "math/bits.overflowError"], apart := false }
def ControlUndoesSaid : Prop := controlUndoesRow.holds Try.pinned (OpenSpec.ofChange controlUndoesSpec)

/-- ITS FALSE NEIGHBOUR: 'it returns false'. Refute it at one input. -/
def controlUndoesWrong : ChangeSpec := { name := "controlUndoes", fn := fun _ => fun
  | [d1, d2, d3, d4, d5] => { results := [.lit (.bool false)], args := [d1, d2, d3, d4, d5] }
  | _ => none }
def ControlUndoesWrongFalsely : Prop := controlUndoesRow.holds Try.pinned (OpenSpec.ofChange controlUndoesWrong)

/- THE SECOND FORM. 'bulk': how many values and letters a reading holds, each counted each time it is reached (what is shared counts as often as it is met; a slice's spare places count too). A statement '..UptoSaid' is the law's where the arguments, and the package variables that the reading takes, are together of bulk at most 1048576: NARROWER than '..Said'. Prove '..Said' where nothing that the law and all that it calls make is longer than what came in: it says more and counts as full. Else prove '..UptoSaid'. A law counts once. -/
mutual
def uptoBulk {H : Type} : DataW H → Nat
  | .lit (.string bytes) => bytes.length + 1
  | .lit _ => 1
  | .nil => 1
  | .ptr d => uptoBulk d + 1
  | .slice elems spare => uptoBulkAll elems + uptoBulkAll spare + 1
  | .agg parts => uptoBulkAll parts + 1
  | .iface _ d => uptoBulk d + 1
  | .map entries => uptoBulkEntries entries + 1
  | .held _ => 1
def uptoBulkAll {H : Type} : List (DataW H) → Nat
  | [] => 0
  | d :: r => uptoBulk d + uptoBulkAll r
def uptoBulkEntries {H : Type} : List (Lit × DataW H) → Nat
  | [] => 0
  | x :: r => uptoBulkEntry x + uptoBulkEntries r
def uptoBulkEntry {H : Type} : Lit × DataW H → Nat
  | (.string bytes, d) => bytes.length + uptoBulk d + 1
  | (_, d) => uptoBulk d + 1
 end
def uptoSmall : (H : Type) → List (DataW H) → Bool := fun _ ds => decide (uptoBulkAll ds ≤ 1048576)
def OpenSpec.upto (s : _root_.Go.ChangeSpec) : _root_.Go.OpenSpec := { _root_.Go.OpenSpec.ofChange s with cond := some uptoSmall }

/-- 'wigwaglaw15.ControlNames', WHERE WHAT IT READS IS OF BULK AT MOST 1048576: true; the input reads as it did. -/
def controlNamesUptoRow : OpenClaim := { program := "ytpgffmnbdggpnaa", sum := "1b21d23e12f12fe15ffb545dffd695bf860656debd535e1b8e16a8c11a899b33", func := "wigwag/wigwaglaw15.ControlNames", spec := "controlNames", inPlace := ["math/bits.Add64"], unfollowed := true, recurses := true, named := ["math/bits.divideError", "math/bits.overflowError"], apart := false, narrowed := true }
def ControlNamesUptoSaid : Prop := controlNamesUptoRow.holds Try.pinned (OpenSpec.upto controlNamesSpec)

/-- 'wigwaglaw15.ControlRates', WHERE WHAT IT READS IS OF BULK AT MOST 1048576: true; the input reads as it did. -/
def controlRatesUptoRow : OpenClaim := { program := "ytpgffmnbdggpnaa", sum := "1b21d23e12f12fe15ffb545dffd695bf860656debd535e1b8e16a8c11a899b33", func := "wigwag/wigwaglaw15.ControlRates", spec := "controlRates", inPlace := ["math/bits.Add64"], unfollowed := true, recurses := true, named := ["math/bits.divideError", "math/bits.overflowError"], apart := false, narrowed := true }
def ControlRatesUptoSaid : Prop := controlRatesUptoRow.holds Try.pinned (OpenSpec.upto controlRatesSpec)

/-- 'wigwaglaw15.ControlSame', WHERE WHAT IT READS IS OF BULK AT MOST 1048576: true; the input reads as it did. -/
def controlSameUptoRow : OpenClaim := { program := "ytpgffmnbdggpnaa", sum := "1b21d23e12f12fe15ffb545dffd695bf860656debd535e1b8e16a8c11a899b33", func := "wigwag/wigwaglaw15.ControlSame", spec := "controlSame", inPlace := ["math/bits.Add64"], unfollowed := true, recurses := true, named := ["math/bits.divideError", "math/bits.overflowError"], apart := false, narrowed := true }
def ControlSameUptoSaid : Prop := controlSameUptoRow.holds Try.pinned (OpenSpec.upto controlSameSpec)

/-- 'wigwaglaw15.ControlHolds', WHERE WHAT IT READS IS OF BULK AT MOST 1048576: true; the input reads as it did. -/
def controlHoldsUptoRow : OpenClaim := { program := "ytpgffmnbdggpnaa", sum := "1b21d23e12f12fe15ffb545dffd695bf860656debd535e1b8e16a8c11a899b33", func := "wigwag/wigwaglaw15.ControlHolds", spec := "controlHolds", inPlace := ["math/bits.Add64"], unfollowed := true, recurses := true, named := ["math/bits.divideError", "math/bits.overflowError"], apart := false, narrowed := true }
def ControlHoldsUptoSaid : Prop := controlHoldsUptoRow.holds Try.pinned (OpenSpec.upto controlHoldsSpec)

/-- 'wigwaglaw15.ControlUndoes', WHERE WHAT IT READS IS OF BULK AT MOST 1048576: true; the input reads as it did. -/
def controlUndoesUptoRow : OpenClaim := { program := "ytpgffmnbdggpnaa", sum := "1b21d23e12f12fe15ffb545dffd695bf860656debd535e1b8e16a8c11a899b33", func := "wigwag/wigwaglaw15.ControlUndoes", spec := "controlUndoes", inPlace := ["math/bits.Add64"], unfollowed := true, recurses := true, named := ["math/bits.divideError", "math/bits.overflowError"], apart := false, narrowed := true }
def ControlUndoesUptoSaid : Prop := controlUndoesUptoRow.holds Try.pinned (OpenSpec.upto controlUndoesSpec)

end Rows
end Go.Proofs.Ytpgffmnbdggpnaa
