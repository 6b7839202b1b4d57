/- ControlUndoes: behind a loss that was none a window and its thresh are at least what they were ahead of it, whatever came meanwhile that was no loss: for every input, with no condition. -/
import Derived.Deep.DeepMust
import Derived.Test.YtpgffmnbdggpnaaKCtlD1
import Derived.Test.YtpgffmnbdggpnaaKCtlD2
import Derived.Test.YtpgffmnbdggpnaaKCtlD4
namespace Go.Proofs.Ytpgffmnbdggpnaa.PCv
open Go.RowKit Go.Proofs.YtpgffmnbdggpnaaW.PrintWords Go.Proofs.YtpgffmnbdggpnaaW.PrintLast Go.Proofs.YtpgffmnbdggpnaaW.PrintMore
set_option linter.unusedVariables false
set_option linter.unusedSimpArgs false
set_option maxRecDepth 100000 in
set_option maxHeartbeats 4000000 in
theorem undoesN_0 (kind at_ now : Int) (A1 A4 : Option Addr) (n1 k1 n4 k4 : Nat)  (w : World) (h0 : (kind == 1) = false) (h1 : (kind == 2) = false) (h2 : (kind == 4) = false) :
    Calls Try.prog 7 #[.int .i64 kind, .slice A1 n1 k1, .int .u64 at_, .int .u64 now, .slice A4 n4 k4] w fun e w' => e = .returned (.bool true) ∧ Below w.heap.size w w' := by
  have b1 : (kind != 1) = true := by simpa using h0
  have b2 : (kind != 2) = true := by simpa using h1
  have b4 : (kind != 4) = true := by simpa using h2
  have HS := Since.refl w
  go_enter Try.func7, Try.ntmps7
  go_wp2_with (first | ((go_at_call 8); (with_reducible refine (awake_0 _ (by decide +kernel) (by decide +kernel) (by decide +kernel)).mono ?_); rintro e w1 ⟨rfl, hl⟩; replace HS := HS.below hl; clear hl))
  all_goals (go_ret; exact ⟨by first | rfl | (simp; done), HS.out⟩)
theorem undoes_law (kind : Int) (A1 : Option Addr) (k1 : Nat) (l1 : List S53) (at_ now : Int) (A4 : Option Addr) (k4 : Nat) (l4 : List S53) (v0 : (Lit.int .i64 kind).wf = true) (x1 : ∀ x ∈ l1, WfS53 x) (v2 : (Lit.int .u64 at_).wf = true) (v3 : (Lit.int .u64 now).wf = true) (x4 : ∀ x ∈ l4, WfS53 x) (w : World) (hC1 : Kd.C k53 w A1 l1.length l1) (hl1 : l1.length ≤ k1) (hC4 : Kd.C k53 w A4 l4.length l4) (hl4 : l4.length ≤ k4) :
    Calls Try.prog 7 #[.int .i64 kind, .slice A1 l1.length k1, .int .u64 at_, .int .u64 now, .slice A4 l4.length k4] w fun e w' => e = .returned (.bool true) ∧ Below w.heap.size w w' := by
  by_cases z1 : kind = 1
  · subst z1
    exact undoes1 A1 k1 l1 at_ now A4 k4 l4 x1 (wf64 v2) (wf64 v3) x4 w hC1 hl1 hC4 hl4
  by_cases z2 : kind = 2
  · subst z2
    exact undoes2 A1 k1 l1 at_ now A4 k4 l4 x1 (wf64 v2) (wf64 v3) x4 w hC1 hl1 hC4 hl4
  by_cases z4 : kind = 4
  · subst z4
    exact undoes4 A1 k1 l1 at_ now A4 k4 l4 x1 (wf64 v2) (wf64 v3) x4 w hC1 hl1 hC4 hl4
  exact undoesN_0 kind at_ now A1 A4 l1.length k1 l4.length k4 w (beq_eq_false_iff_ne.mpr z1) (beq_eq_false_iff_ne.mpr z2) (beq_eq_false_iff_ne.mpr z4)
end Go.Proofs.Ytpgffmnbdggpnaa.PCv
