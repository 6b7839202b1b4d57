-- Written by a program of this session (wip/tools/xprint.py) for this claim.
import Derived.Test.YtpgffmnbdggpnaaPCvx0
import Derived.Test.YtpgffmnbdggpnaaPCvx4
import Derived.Test.YtpgffmnbdggpnaaPCvx33
namespace Go.Proofs.Ytpgffmnbdggpnaa.PCv
open Go.RowKit Go.Proofs.YtpgffmnbdggpnaaW.PrintWords Go.Proofs.YtpgffmnbdggpnaaW.PrintLast Go.Proofs.YtpgffmnbdggpnaaW.PrintMore
set_option linter.unusedVariables false
set_option linter.unusedSimpArgs false

/-! ### fix_MulT: function 26, told anew -/
def fix_MulT.f (a0 : Int) (a1 : Int) : Option Int := if W64 a0 ∧ W64 a1 then some (uMul a0 a1) else none
theorem fix_MulT.calls (a0 : Int) (a1 : Int) (r : Int) (w : World) (h : fix_MulT.f a0 a1 = some r) :
    Calls Try.prog 26 #[.int .u64 a0, .int .u64 a1] w fun e w' => e = .returned (.int .u64 r) ∧ Drawn0 w w' := by
  refine fix_Mul.calls a0 a1 r w (Eq.trans ?_ h)
  unfold fix_MulT.f at h ⊢
  split at h
  · rename_i hw
    rw [if_pos hw]
    unfold fix_Mul.f bits_Mul64.f uMul
    rw [if_pos hw]
    simp only [Option.bind_some]
    have hp := Int.mul_nonneg hw.1.1 hw.2.1
    generalize a0 * a1 = p at *
    split <;> split <;> first | rfl | (exfalso; omega) | (congr 1; omega)
  · cases h
theorem fix_MulT.C (a b : Int) (ha : W64 a) (hb : W64 b) (w : World) : Calls Try.prog 26 #[.int .u64 a, .int .u64 b] w fun e w' => e = .returned (.int .u64 (uMul a b)) ∧ Drawn0 w w' :=
  fix_MulT.calls a b _ w (by unfold fix_MulT.f; rw [if_pos ⟨ha, hb⟩])
theorem fix_MulT.Q (a b : Int) (ha : W64 a) (hb : W64 b) (w : World) (n : Nat) : Calls Try.prog 26 #[.int .u64 a, .int .u64 b] (w.drewN n) fun e w' => e = .returned (.int .u64 (uMul a b)) ∧ ∃ m, w' = w.drewN m := quiet_c (fix_MulT.C a b ha hb) n


end Go.Proofs.Ytpgffmnbdggpnaa.PCv
