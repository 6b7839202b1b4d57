-- Written by a program of this session (wip/tools/xprint.py) for this claim.
import Derived.Test.YtpgffmnbdggpnaaPCvx0
namespace Go.Proofs.Ytpgffmnbdggpnaa.PCv
open Go.RowKit Go.Proofs.YtpgffmnbdggpnaaW.PrintWords Go.Proofs.YtpgffmnbdggpnaaW.PrintLast Go.Proofs.YtpgffmnbdggpnaaW.PrintMore
set_option linter.unusedVariables false
set_option linter.unusedSimpArgs false

/-! ### fix_Sub: function 29 -/
theorem fix_Sub.C (a b : Int) (ha : W64 a) (hb : W64 b) (w : World) : Calls Try.prog 29 #[.int .u64 a, .int .u64 b] w fun e w' => e = .returned (.int .u64 (uSub a b)) ∧ Drawn0 w w' := by
  by_cases h : b < a
  · have e : uSub a b = a - b := by unfold uSub; rw [if_pos (by omega)]
    rw [e]
    go_enter Try.func29, Try.ntmps29
    go_wp2
    go_ret
    exact ⟨ret_int (by first | rfl | omega | (rw [ww]; omega)), Drawn0.refl _⟩
  · have e : uSub a b = 0 := by unfold uSub; split <;> omega
    rw [e]
    go_enter Try.func29, Try.ntmps29
    go_wp2
    go_ret
    exact ⟨ret_int (by first | rfl | omega | (rw [ww]; omega)), Drawn0.refl _⟩
theorem fix_Sub.Q (a b : Int) (ha : W64 a) (hb : W64 b) (w : World) (n : Nat) : Calls Try.prog 29 #[.int .u64 a, .int .u64 b] (w.drewN n) fun e w' => e = .returned (.int .u64 (uSub a b)) ∧ ∃ m, w' = w.drewN m := quiet_c (fix_Sub.C a b ha hb) n
def fix_Sub.f (a0 : Int) (a1 : Int) : Option Int := if W64 a0 ∧ W64 a1 then some (uSub a0 a1) else none
theorem fix_Sub.calls (a0 : Int) (a1 : Int) (r : Int) (w : World) (h : fix_Sub.f a0 a1 = some r) :
    Calls Try.prog 29 #[.int .u64 a0, .int .u64 a1] w fun e w' => e = .returned (.int .u64 r) ∧ Drawn0 w w' := by
  unfold fix_Sub.f at h
  split at h
  · rename_i hw
    obtain rfl := Option.some.inj h
    exact fix_Sub.C a0 a1 hw.1 hw.2 w
  · cases h


end Go.Proofs.Ytpgffmnbdggpnaa.PCv
