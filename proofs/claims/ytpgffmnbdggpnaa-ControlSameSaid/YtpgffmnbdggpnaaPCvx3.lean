-- Written by a program of this session (wip/tools/xprint.py) for this claim.
import Derived.Test.YtpgffmnbdggpnaaPCvx0
namespace Go.Proofs.Ytpgffmnbdggpnaa.PCv
open Go.RowKit Go.Proofs.YtpgffmnbdggpnaaW.PrintWords Go.Proofs.YtpgffmnbdggpnaaW.PrintLast Go.Proofs.YtpgffmnbdggpnaaW.PrintMore
set_option linter.unusedVariables false
set_option linter.unusedSimpArgs false

/-! ### reno_Held: function 24 -/
theorem reno_Held.C (a : Int) (w : World) : Calls Try.prog 24 #[.int .u64 a] w fun e w' => e = .returned (.int .u64 (uHeld a)) ∧ Drawn0 w w' := by
  unfold uHeld
  by_cases h : a < 2400
  · rw [if_pos h]
    go_enter Try.func24, Try.ntmps24
    go_wp2
    go_ret
    exact ⟨ret_int (by first | rfl | omega), Drawn0.refl _⟩
  · rw [if_neg h]
    by_cases h' : 16777216 < a
    · rw [if_pos h']
      go_enter Try.func24, Try.ntmps24
      go_wp2
      go_ret
      exact ⟨ret_int (by first | rfl | omega), Drawn0.refl _⟩
    · rw [if_neg h']
      go_enter Try.func24, Try.ntmps24
      go_wp2
      go_ret
      exact ⟨ret_int (by first | rfl | omega), Drawn0.refl _⟩
theorem reno_Held.Q (a : Int) (w : World) (n : Nat) : Calls Try.prog 24 #[.int .u64 a] (w.drewN n) fun e w' => e = .returned (.int .u64 (uHeld a)) ∧ ∃ m, w' = w.drewN m := quiet_c (reno_Held.C a) n
def reno_Held.f (a0 : Int) : Option Int := some (uHeld a0)
theorem reno_Held.calls (a0 : Int) (r : Int) (w : World) (h : reno_Held.f a0 = some r) :
    Calls Try.prog 24 #[.int .u64 a0] w fun e w' => e = .returned (.int .u64 r) ∧ Drawn0 w w' := by
  obtain rfl := Option.some.inj h
  exact reno_Held.C a0 w


end Go.Proofs.Ytpgffmnbdggpnaa.PCv
