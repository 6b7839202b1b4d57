/- Roots and targets. -/
import Derived.Deep.DeepMust
import Derived.Test.YtpgffmnbdggpnaaCtlN
import Derived.Test.YtpgffmnbdggpnaaPCvx36
import Derived.Test.YtpgffmnbdggpnaaPCvx38
namespace Go.Proofs.Ytpgffmnbdggpnaa.PCv
open Go.RowKit Go.Proofs.YtpgffmnbdggpnaaW.PrintWords Go.Proofs.YtpgffmnbdggpnaaW.PrintLast Go.Proofs.YtpgffmnbdggpnaaW.PrintMore
set_option linter.unusedVariables false
set_option linter.unusedSimpArgs false
theorem cbrtC (a : Int) (h : W64 a) (w : World) : Calls Try.prog 27 #[.int .u64 a] w fun e w' => e = .returned (.int .u64 (uCbrt a)) ∧ Below w.heap.size w w' := fix_Cbrt.calls a _ w (by unfold fix_Cbrt.f; rw [if_pos h])
theorem targetC (c0 c1 c2 : Int) (c3 : Bool) (c4 c5 c6 c7 t : Int) (h0 : W64 c0) (h5 : W64 c5) (h6 : W64 c6) (ht : W64 t) (w : World) : Calls Try.prog 28 #[.agg #[.int .u64 c0, .int .u64 c1, .int .u64 c2, .bool c3, .int .u64 c4, .int .u64 c5, .int .u64 c6, .int .u64 c7], .int .u64 t] w fun e w' => e = .returned (.int .u64 (uTarget c0 c5 c6 t)) ∧ Below w.heap.size w w' :=
  cubic_Target.calls c0 c1 c2 c3 c4 c5 c6 c7 t _ w (by unfold cubic_Target.f; rw [if_pos ⟨h0, h5, h6, ht⟩])
theorem uTarget_w {c0 m k t : Int} (h0 : W64 c0) : W64 (uTarget c0 m k t) := by
  have := uAdd_w h0 (div_w h0 2 (by omega))
  unfold uTarget
  generalize uAdd c0 (c0 / 2) = y at *
  omega
end Go.Proofs.Ytpgffmnbdggpnaa.PCv
