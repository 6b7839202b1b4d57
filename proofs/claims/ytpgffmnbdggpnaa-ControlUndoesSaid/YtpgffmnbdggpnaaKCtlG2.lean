/- By how much a window grows. -/
import Derived.Deep.DeepMust
import Derived.Test.YtpgffmnbdggpnaaKCtlA
import Derived.Test.YtpgffmnbdggpnaaKW
import Derived.Test.YtpgffmnbdggpnaaKPCvx42
namespace Go.Proofs.Ytpgffmnbdggpnaa.PCv
open Go.RowKit Go.Proofs.YtpgffmnbdggpnaaW.PrintWords Go.Proofs.YtpgffmnbdggpnaaW.PrintLast Go.Proofs.YtpgffmnbdggpnaaW.PrintMore
set_option linter.unusedVariables false
set_option linter.unusedSimpArgs false
def uGrow (p b : Int) : Int := if p = 1 then b / 4 else if p = 0 then b else 0
theorem uGrow_w {p b : Int} (h : W64 b) : W64 (uGrow p b) := by unfold uGrow; split <;> (try split) <;> omega
theorem growC (s0 s1 s2 s3 s4 s5 s6 b : Int) (h : W64 b) (w : World) : Calls Try.prog 50 #[.agg #[.int .i64 s0, .int .u64 s1, .int .u64 s2, .int .u64 s3, .int .u64 s4, .int .u64 s5, .int .u64 s6], .int .u64 b] w fun e w' => e = .returned (.int .u64 (uGrow s0 b)) ∧ Below w.heap.size w w' :=
  hystart_Grow.calls s0 s1 s2 s3 s4 s5 s6 b _ w (by unfold hystart_Grow.f uGrow; rw [wdiv h 4 (by decide)]; split <;> (try split) <;> rfl)
end Go.Proofs.Ytpgffmnbdggpnaa.PCv
