-- Written by a program of this session (wip/tools/xprint.py) for this claim.
import Derived.Test.YtpgffmnbdggpnaaPCvx0
import Derived.Test.YtpgffmnbdggpnaaPCvx46
namespace Go.Proofs.Ytpgffmnbdggpnaa.PCv
open Go.RowKit Go.Proofs.YtpgffmnbdggpnaaW.PrintWords Go.Proofs.YtpgffmnbdggpnaaW.PrintLast Go.Proofs.YtpgffmnbdggpnaaW.PrintMore
set_option linter.unusedVariables false
set_option linter.unusedSimpArgs false

/-! ### filt_PushMax: function 52 -/
def filt_PushMax.f (k : Nat) (l0 : List (S90)) (a1 : Int) (a2_0 : Int) (a2_1 : Int) : Option (List (S90)) := if W64 a2_0 ∧ W64 a2_1 then api_Sample_64.f k l0 a2_0 a2_1 a1 (a2_0 * 18446744073709551616 + a2_1) else none
theorem filt_PushMax.mono : ∀ a0 a1 a2 a3 k, LeO (filt_PushMax.f k a0 a1 a2 a3) (filt_PushMax.f (k + 1) a0 a1 a2 a3) := by
  intro a0 a1 a2 a3 k
  unfold filt_PushMax.f
  exact LeO.ite (api_Sample_64.mono _ _ _ _ _ _) (LeO.none _)
set_option maxHeartbeats 1000000 in
theorem filt_PushMax.calls (k : Nat) (A0 : Option Addr) (c0 : Nat) (l0 : List (S90)) (a1 : Int) (a2_0 : Int) (a2_1 : Int) (r : List (S90)) (w : World) (hr0 : Kd.C k90 w A0 l0.length l0) (hc0 : l0.length ≤ c0) (h : filt_PushMax.f k l0 a1 a2_0 a2_1 = some r) :
    Calls Try.prog 52 #[.slice A0 l0.length c0, .int .u64 a1, .agg #[.int .u64 a2_0, .int .u64 a2_1]] w fun e w' => ∃ v0_ : Value, e = .returned (v0_) ∧ Kd.R k90 90 w' w.heap.size (fun _ => True) v0_ r ∧ Below w.heap.size w w' := by
  have hu52 := Try.underlying90
  have hmf : ∀ (fn : Fn) (first cap : Array Value) (w : World), (Instr.makeFunc fn first cap).run Try.prog w = .ok (.func fn first cap) w := fun _ _ _ _ => rfl
  unfold filt_PushMax.f at h
  split at h
  · rename_i hw
    obtain ⟨⟨h0, h1⟩, h2, h3⟩ := hw
    have e0 : (a2_0 * 18446744073709551616 + a2_1) / 18446744073709551616 = a2_0 := by omega
    have e1 : (a2_0 * 18446744073709551616 + a2_1) % 18446744073709551616 = a2_1 := by omega
    generalize a2_0 * 18446744073709551616 + a2_1 = E at *
    go_enter Try.func52, Try.ntmps52
    have k2 : ((w.alloc (.cells #[.int .u64 a1] 23)).alloc (.cells #[.int .u64 a2_0, .int .u64 a2_1] 90)).cell? ⟨w.heap.size, 0, none⟩ = some (.int .u64 a1) := by go_simp
    have k0 : ((w.alloc (.cells #[.int .u64 a1] 23)).alloc (.cells #[.int .u64 a2_0, .int .u64 a2_1] 90)).cell? ⟨w.heap.size + 1, 0, none⟩ = some (.int .u64 a2_0) := by go_simp
    have k1 : ((w.alloc (.cells #[.int .u64 a1] 23)).alloc (.cells #[.int .u64 a2_0, .int .u64 a2_1] 90)).cell? ⟨w.heap.size + 1, 1, none⟩ = some (.int .u64 a2_1) := by go_simp
    have kb : Below w.heap.size w ((w.alloc (.cells #[.int .u64 a1] 23)).alloc (.cells #[.int .u64 a2_0, .int .u64 a2_1] 90)) := below_alloc (below_alloc (Below.refl _ _) _) _
    go_wp2_with ((go_at_call 64); (refine Calls.mono (api_Sample_64.calls k A0 c0 l0 a2_0 a2_1 a1 E r w.heap.size (w.heap.size + 1) _ k2 (by rw [e0]; exact k0) (by rw [e1]; exact k1) (Kd.C_below hr0 kb) hc0 h) ?_); rintro e w6 ⟨v, rfl, hr, hb6⟩)
    go_ret
    exact ⟨_, rfl, Kd.R_lower hr (below_size kb), below_step kb hb6⟩
  · cases h


end Go.Proofs.Ytpgffmnbdggpnaa.PCv
