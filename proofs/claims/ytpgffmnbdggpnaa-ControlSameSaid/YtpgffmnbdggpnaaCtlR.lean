/- What packets that came make of chapter 10's window, cell by cell. -/
import Derived.Deep.DeepMust
import Derived.Test.YtpgffmnbdggpnaaCtlN
import Derived.Test.YtpgffmnbdggpnaaPCvx35
namespace Go.Proofs.Ytpgffmnbdggpnaa.PCv
open Go.RowKit Go.Proofs.YtpgffmnbdggpnaaW.PrintWords Go.Proofs.YtpgffmnbdggpnaaW.PrintLast Go.Proofs.YtpgffmnbdggpnaaW.PrintMore
set_option linter.unusedVariables false
set_option linter.unusedSimpArgs false
def uR0 (c0 c1 c2 c3 by_ at_ : Int) (lim : Bool) : Int := (uRenoAck c0 c1 c2 c3 by_ at_ lim).1
def uR3 (c0 c1 c2 c3 by_ at_ : Int) (lim : Bool) : Int := (uRenoAck c0 c1 c2 c3 by_ at_ lim).2.2.2
theorem uR_eq (c0 c1 c2 c3 by_ at_ : Int) (lim : Bool) : uRenoAck c0 c1 c2 c3 by_ at_ lim = (uR0 c0 c1 c2 c3 by_ at_ lim, c1, c2, uR3 c0 c1 c2 c3 by_ at_ lim) := by
  unfold uR0 uR3 uRenoAck
  split
  · rfl
  · split <;> rfl
theorem uR0_w {c0 c1 c2 c3 by_ at_ : Int} {lim : Bool} (h : W64 c0) : W64 (uR0 c0 c1 c2 c3 by_ at_ lim) := by
  unfold uR0 uRenoAck
  split
  · exact h
  · split <;> exact uHeld_w _
theorem uR3_w {c0 c1 c2 c3 by_ at_ : Int} {lim : Bool} (h0 : W64 c0) (h3 : W64 c3) (hb : W64 by_) : W64 (uR3 c0 c1 c2 c3 by_ at_ lim) := by
  have hr := uAdd_w h3 (uMul_w hb (show W64 1200 by omega))
  have hm : 1 ≤ max c0 1 := by omega
  unfold uR3 uRenoAck
  split
  · exact h3
  · split
    · exact h3
    · have e1 := Int.emod_nonneg (uAdd c3 (uMul by_ 1200)) (show max c0 1 ≠ 0 by omega)
      have e2 := Int.emod_lt_of_pos (uAdd c3 (uMul by_ 1200)) (show 0 < max c0 1 by omega)
      have e3 : max c0 1 ≤ 18446744073709551615 := by omega
      show W64 (uAdd c3 (uMul by_ 1200) % max c0 1)
      omega
theorem renoC (c0 c1 c2 c3 by_ at_ : Int) (lim : Bool) (h0 : W64 c0) (h3 : W64 c3) (hb : W64 by_) (w : World) :
    Calls Try.prog 11 #[.agg #[.int .u64 c0, .int .u64 c1, .int .u64 c2, .int .u64 c3], .int .u64 by_, .int .u64 at_, .bool lim] w fun e w' => e = .returned (.agg #[.int .u64 (uR0 c0 c1 c2 c3 by_ at_ lim), .int .u64 c1, .int .u64 c2, .int .u64 (uR3 c0 c1 c2 c3 by_ at_ lim)]) ∧ Below w.heap.size w w' :=
  reno_Ack.calls c0 c1 c2 c3 by_ at_ lim _ _ _ _ w (by unfold reno_Ack.f; rw [if_pos ⟨h0, h3, hb⟩, uR_eq])
theorem subdiv_w {x : Int} (h : W64 x) (n : Int) (hn : 1 ≤ n) : W64 (x - x / n) := by
  have h1 := Int.ediv_nonneg h.1 (show (0 : Int) ≤ n by omega)
  have h2 := Int.ediv_le_self n h.1
  omega
theorem len_ok {n : Nat} (h : decide (100 < (n : Int)) = false) : n < 1000000 := by simp at h; omega
theorem min_le_b {a b : Int} : decide (min a b ≤ b) = true := decide_eq_true (by omega)
theorem lt_min_b {a b : Int} : decide (b < min a b) = false := decide_eq_false (by omega)
end Go.Proofs.Ytpgffmnbdggpnaa.PCv
