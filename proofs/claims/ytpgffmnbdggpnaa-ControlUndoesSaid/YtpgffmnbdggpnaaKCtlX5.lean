/- Windows stay within their bounds. -/
import Derived.Deep.DeepMust
import Derived.Test.YtpgffmnbdggpnaaKB
import Derived.Test.YtpgffmnbdggpnaaKCtlI
namespace Go.Proofs.Ytpgffmnbdggpnaa.PCv
open Go.RowKit Go.Proofs.YtpgffmnbdggpnaaW.PrintWords Go.Proofs.YtpgffmnbdggpnaaW.PrintLast Go.Proofs.YtpgffmnbdggpnaaW.PrintMore
set_option linter.unusedVariables false
set_option linter.unusedSimpArgs false
theorem uR0_in {c0 c1 c2 c3 by_ at_ : Int} {lim : Bool} (h : 2400 ≤ c0 ∧ c0 ≤ 16777216) : 2400 ≤ uR0 c0 c1 c2 c3 by_ at_ lim ∧ uR0 c0 c1 c2 c3 by_ at_ lim ≤ 16777216 := by
  unfold uR0 uRenoAck
  split
  · exact h
  · split <;> exact uHeld_in _
theorem uCA_0_in {r0 r1 r2 r4 r5 r6 r7 by_ at_ now took : Int} {b3 lim : Bool} (h : 2400 ≤ r0 ∧ r0 ≤ 16777216) : 2400 ≤ uCA_0 r0 r1 r2 r4 r5 r6 r7 by_ at_ now took b3 lim ∧ uCA_0 r0 r1 r2 r4 r5 r6 r7 by_ at_ now took b3 lim ≤ 16777216 := by
  unfold uCA_0
  repeat' split
  all_goals (first | exact h | exact uHeld_in _)
theorem held_le {x c : Int} (h : x ≤ c) (hb : 2400 ≤ c ∧ c ≤ 16777216) : uHeld x ≤ c := by unfold uHeld; split <;> (try split) <;> omega
theorem half_le {c : Int} (hb : 2400 ≤ c ∧ c ≤ 16777216) : uHeld (c / 2) ≤ c := held_le (by omega) hb
theorem cub_le {c : Int} (hb : 2400 ≤ c ∧ c ≤ 16777216) : uHeld (uMulDiv c 7 10) ≤ c := held_le (by unfold uMulDiv; split <;> (try split) <;> omega) hb
theorem sub_le {c x : Int} (hx : W64 x) (hb : 2400 ≤ c ∧ c ≤ 16777216) : uHeld (uSub c x) ≤ c := held_le (by unfold uSub; split <;> omega) hb
theorem undo_ge {c o : Int} (hb : 2400 ≤ c ∧ c ≤ 16777216) : c ≤ uHeld (max c o) := by unfold uHeld; split <;> (try split) <;> omega
theorem undo_old {c o : Int} (h : o ≤ 16777216) : o ≤ uHeld (max c o) := by unfold uHeld; split <;> (try split) <;> omega
end Go.Proofs.Ytpgffmnbdggpnaa.PCv
