-- Written by a program of this session (wip/tools/xprint.py) for this claim.
import Derived.Test.YtpgffmnbdggpnaaPCvx0
import Derived.Test.YtpgffmnbdggpnaaPCvx3
import Derived.Test.YtpgffmnbdggpnaaPCvx23
import Derived.Test.YtpgffmnbdggpnaaPCvx34
namespace Go.Proofs.Ytpgffmnbdggpnaa.PCv
open Go.RowKit Go.Proofs.YtpgffmnbdggpnaaW.PrintWords Go.Proofs.YtpgffmnbdggpnaaW.PrintLast Go.Proofs.YtpgffmnbdggpnaaW.PrintMore
set_option linter.unusedVariables false
set_option linter.unusedSimpArgs false

-- given
/-! ### reno_Ack: function 11 -/
set_option maxHeartbeats 400000 in
theorem grownC (by_ c0 : Int) (hb : W64 by_) (hc0 : W64 c0) (g : Nat) (w : World) (hc : w.cell? ⟨g, 0, none⟩ = some (.int .u64 c0)) :
    Calls Try.prog 23 #[.int .u64 by_, .pointer (some ⟨g, 0, none⟩)] w fun e w' => e = .returned (.int .u64 (uHeld (uAdd c0 by_))) ∧ Drawn0 w w' := by
  go_enter Try.func23, Try.ntmps23
  go_wp2_with (first | ((go_at_call 25); (with_reducible refine (fix_Add.C _ _ hc0 hb _).mono ?_); rintro e w' ⟨rfl, ⟨nd, rfl⟩⟩) | ((go_at_call 24); (with_reducible refine (reno_Held.C _ _).mono ?_); rintro e w' ⟨rfl, ⟨nd, rfl⟩⟩))
  go_ret
  exact ⟨rfl, ⟨_, rfl⟩⟩
set_option maxHeartbeats 4000000 in
theorem ack_lim (c0 c1 c2 c3 bytes at_ : Int) (w : World) :
    Calls Try.prog 11 #[.agg #[.int .u64 c0, .int .u64 c1, .int .u64 c2, .int .u64 c3], .int .u64 bytes, .int .u64 at_, .bool true] w fun e w' => e = .returned (.agg #[.int .u64 c0, .int .u64 c1, .int .u64 c2, .int .u64 c3]) ∧ Below w.heap.size w w' := by
  have hmf : ∀ (fn : Fn) (first cap : Array Value) (w : World), (Instr.makeFunc fn first cap).run Try.prog w = .ok (.func fn first cap) w := fun _ _ _ _ => rfl
  have hu := Try.underlying25
  go_enter Try.func11, Try.ntmps11
  go_wp2
  refine bodyPost_ret (v := .agg #[.int .u64 c0, .int .u64 c1, .int .u64 c2, .int .u64 c3]) (by simp [results, Try.results11, go_sem]) rfl ⟨rfl, ?_⟩
  exact below_alloc (below_alloc (Below.refl _ _) _) _
set_option maxHeartbeats 4000000 in
theorem ack_early (c0 c1 c2 c3 bytes at_ : Int) (hlt : at_ < c2) (w : World) :
    Calls Try.prog 11 #[.agg #[.int .u64 c0, .int .u64 c1, .int .u64 c2, .int .u64 c3], .int .u64 bytes, .int .u64 at_, .bool false] w fun e w' => e = .returned (.agg #[.int .u64 c0, .int .u64 c1, .int .u64 c2, .int .u64 c3]) ∧ Below w.heap.size w w' := by
  have hmf : ∀ (fn : Fn) (first cap : Array Value) (w : World), (Instr.makeFunc fn first cap).run Try.prog w = .ok (.func fn first cap) w := fun _ _ _ _ => rfl
  have hu := Try.underlying25
  go_enter Try.func11, Try.ntmps11
  go_wp2
  refine bodyPost_ret (v := .agg #[.int .u64 c0, .int .u64 c1, .int .u64 c2, .int .u64 c3]) (by simp [results, Try.results11, go_sem]) rfl ⟨rfl, ?_⟩
  exact below_alloc (below_alloc (Below.refl _ _) _) _
set_option maxHeartbeats 4000000 in
theorem ack_slow (c0 c1 c2 c3 bytes at_ : Int) (h0 : W64 c0) (hb : W64 bytes) (hge : c2 ≤ at_) (hs : c0 < c1) (w : World) :
    Calls Try.prog 11 #[.agg #[.int .u64 c0, .int .u64 c1, .int .u64 c2, .int .u64 c3], .int .u64 bytes, .int .u64 at_, .bool false] w fun e w' => e = .returned (.agg #[.int .u64 (uHeld (uAdd c0 bytes)), .int .u64 c1, .int .u64 c2, .int .u64 c3]) ∧ Below w.heap.size w w' := by
  have hmf : ∀ (fn : Fn) (first cap : Array Value) (w : World), (Instr.makeFunc fn first cap).run Try.prog w = .ok (.func fn first cap) w := fun _ _ _ _ => rfl
  have hu := Try.underlying25
  have hge' : decide (at_ < c2) = false := decide_eq_false (by omega)
  go_enter Try.func11, Try.ntmps11
  go_wp2_with (go_at_call 23; (with_reducible refine (grownC bytes c0 hb h0 w.heap.size _ (by go_simp)).mono ?_); rintro e w' ⟨rfl, ⟨nd, rfl⟩⟩)
  refine bodyPost_ret (v := .agg #[.int .u64 (uHeld (uAdd c0 bytes)), .int .u64 c1, .int .u64 c2, .int .u64 c3]) (by simp [results, Try.results11, go_sem]) rfl ⟨rfl, ?_⟩
  repeat (first | (with_reducible exact Below.refl _ _) | (with_reducible refine below_set ?_ (by omega)) | (with_reducible apply pw_below_drewN) | (with_reducible apply below_alloc))
set_option maxRecDepth 100000 in
set_option maxHeartbeats 4000000 in
theorem ack_fast (c0 c1 c2 c3 bytes at_ : Int) (h0 : W64 c0) (h3 : W64 c3) (hb : W64 bytes) (hge : c2 ≤ at_) (hs : c1 ≤ c0) (w : World) :
    Calls Try.prog 11 #[.agg #[.int .u64 c0, .int .u64 c1, .int .u64 c2, .int .u64 c3], .int .u64 bytes, .int .u64 at_, .bool false] w fun e w' => e = .returned (.agg #[.int .u64 (uHeld (uAdd c0 (uAdd c3 (uMul bytes 1200) / max c0 1))), .int .u64 c1, .int .u64 c2, .int .u64 (uAdd c3 (uMul bytes 1200) % max c0 1)]) ∧ Below w.heap.size w w' := by
  have hmf : ∀ (fn : Fn) (first cap : Array Value) (w : World), (Instr.makeFunc fn first cap).run Try.prog w = .ok (.func fn first cap) w := fun _ _ _ _ => rfl
  have hu := Try.underlying25
  have hge' : decide (at_ < c2) = false := decide_eq_false (by omega)
  have hs' : decide (c0 < c1) = false := decide_eq_false (by omega)
  have m1 := uMul_w hb (show W64 1200 by omega)
  have hr := uAdd_w h3 m1
  have hm1 : 1 ≤ max c0 1 := by omega
  have hq : W64 (uAdd c3 (uMul bytes 1200) / max c0 1) := ⟨Int.ediv_nonneg hr.1 (by omega), Int.le_trans (Int.ediv_le_self _ hr.1) hr.2⟩
  have hw1 : IntKind.u64.wrap ((uAdd c3 (uMul bytes 1200)).tdiv (max c0 1)) = uAdd c3 (uMul bytes 1200) / max c0 1 := by rw [Int.tdiv_eq_ediv_of_nonneg hr.1, w64 hq]
  have hw2 : (uAdd c3 (uMul bytes 1200)).tmod (max c0 1) = uAdd c3 (uMul bytes 1200) % max c0 1 := Int.tmod_eq_emod_of_nonneg hr.1
  have hr' : 0 ≤ uAdd c3 (uMul bytes 1200) := hr.1
  have hr'' : uAdd c3 (uMul bytes 1200) ≤ 18446744073709551615 := hr.2
  go_enter Try.func11, Try.ntmps11
  go_wp2
  go_quiet (first | (go_at_call 26; with_reducible exact fix_MulT.Q _ _ hb (show W64 1200 by omega) _ _) | (go_at_call 25; with_reducible exact fix_Add.Q _ _ h3 m1 _ _))
  go_wp2
  go_region_with (go_at_call 23; (with_reducible refine (grownC _ c0 hq h0 w.heap.size _ (by go_simp)).mono ?_); rintro e w' ⟨rfl, ⟨nd, rfl⟩⟩)
  all_goals
    clear hw1 hw2
    go_wp2
    refine bodyPost_ret (v := .agg #[.int .u64 (uHeld (uAdd c0 (uAdd c3 (uMul bytes 1200) / max c0 1))), .int .u64 c1, .int .u64 c2, .int .u64 (uAdd c3 (uMul bytes 1200) % max c0 1)]) (by simp [results, Try.results11, go_sem]) rfl ⟨rfl, ?_⟩
    repeat (first | (with_reducible exact Below.refl _ _) | (with_reducible refine below_set ?_ (by omega)) | (with_reducible apply pw_below_drewN) | (with_reducible apply below_alloc) | (with_reducible apply below_drew))
def reno_Ack.f (a0_0 : Int) (a0_1 : Int) (a0_2 : Int) (a0_3 : Int) (a1 : Int) (a2 : Int) (a3 : Bool) : Option (Int × Int × Int × Int) := if W64 a0_0 ∧ W64 a0_3 ∧ W64 a1 then some (uRenoAck a0_0 a0_1 a0_2 a0_3 a1 a2 a3) else none
theorem reno_Ack.calls (a0_0 : Int) (a0_1 : Int) (a0_2 : Int) (a0_3 : Int) (a1 : Int) (a2 : Int) (a3 : Bool) (r1 : Int) (r2 : Int) (r3 : Int) (r4 : Int) (w : World) (h : reno_Ack.f a0_0 a0_1 a0_2 a0_3 a1 a2 a3 = some (r1, r2, r3, r4)) :
    Calls Try.prog 11 #[.agg #[.int .u64 a0_0, .int .u64 a0_1, .int .u64 a0_2, .int .u64 a0_3], .int .u64 a1, .int .u64 a2, .bool a3] w fun e w' => e = .returned (.agg #[.int .u64 r1, .int .u64 r2, .int .u64 r3, .int .u64 r4]) ∧ Below w.heap.size w w' := by
  unfold reno_Ack.f at h
  split at h
  · rename_i hw
    have h := Option.some.inj h
    cases a3 with
    | true =>
      unfold uRenoAck at h
      rw [if_pos (.inl rfl)] at h
      cases h
      exact ack_lim _ _ _ _ _ _ w
    | false =>
      unfold uRenoAck at h
      by_cases h1 : a2 < a0_2
      · rw [if_pos (.inr h1)] at h
        cases h
        exact ack_early _ _ _ _ _ _ h1 w
      · rw [if_neg (by simp; omega)] at h
        by_cases h2 : a0_0 < a0_1
        · rw [if_pos h2] at h
          cases h
          exact ack_slow _ _ _ _ _ _ hw.1 hw.2.2 (by omega) h2 w
        · rw [if_neg h2] at h
          cases h
          exact ack_fast _ _ _ _ _ _ hw.1 hw.2.1 hw.2.2 (by omega) (by omega) w
  · cases h


end Go.Proofs.Ytpgffmnbdggpnaa.PCv
