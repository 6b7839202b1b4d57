-- Written by a program of this session (wip/tools/xprint.py) for this claim.
import Derived.Test.YtaaieijkmhmecaaPPrTx0
import Derived.Test.YtaaieijkmhmecaaPPrTx4
import Derived.Test.YtaaieijkmhmecaaPPrTx6
namespace Go.Proofs.Ytaaieijkmhmecaa.PPrT
open Go.RowKit Go.Proofs.YtaaieijkmhmecaaW.PrintWords Go.Proofs.YtaaieijkmhmecaaW.PrintLast Go.Proofs.YtaaieijkmhmecaaW.PrintMore
set_option linter.unusedVariables false
set_option linter.unusedSimpArgs false

-- given
/-! ### wigwagref10_Ack: function 29 -/
set_option maxHeartbeats 4000000 in
theorem rack_early (c0 c1 c2 c3 bytes at_ : Int) (lim : Bool) (hlt : at_ < c2) (w : World) :
    Calls Try.prog 29 #[.agg #[.int .u64 c0, .int .u64 c1, .int .u64 c2, .int .u64 c3], .int .u64 bytes, .int .u64 at_, .bool lim] w fun e w' => e = .returned (.agg #[.int .u64 c0, .int .u64 c1, .int .u64 c2, .int .u64 c3]) ∧ Below w.heap.size w w' := by
  have hu := Try.underlying24
  have hd : decide (at_ < c2) = true := decide_eq_true hlt
  go_enter Try.func29, Try.ntmps29
  go_wp2
  refine bodyPost_ret (v := .agg #[.int .u64 c0, .int .u64 c1, .int .u64 c2, .int .u64 c3]) (by simp [results, Try.results29, go_sem]) rfl ⟨rfl, ?_⟩
  repeat (first | (with_reducible exact Below.refl _ _) | (with_reducible refine below_set ?_ (by omega)) | (with_reducible apply pw_below_drewN) | (with_reducible apply below_alloc) | (with_reducible apply below_drew))
set_option maxHeartbeats 4000000 in
theorem rack_lim (c0 c1 c2 c3 bytes at_ : Int) (hge : c2 ≤ at_) (w : World) :
    Calls Try.prog 29 #[.agg #[.int .u64 c0, .int .u64 c1, .int .u64 c2, .int .u64 c3], .int .u64 bytes, .int .u64 at_, .bool true] w fun e w' => e = .returned (.agg #[.int .u64 c0, .int .u64 c1, .int .u64 c2, .int .u64 c3]) ∧ Below w.heap.size w w' := by
  have hu := Try.underlying24
  have hd : decide (at_ < c2) = false := decide_eq_false (by omega)
  go_enter Try.func29, Try.ntmps29
  go_wp2
  refine bodyPost_ret (v := .agg #[.int .u64 c0, .int .u64 c1, .int .u64 c2, .int .u64 c3]) (by simp [results, Try.results29, go_sem]) rfl ⟨rfl, ?_⟩
  repeat (first | (with_reducible exact Below.refl _ _) | (with_reducible refine below_set ?_ (by omega)) | (with_reducible apply pw_below_drewN) | (with_reducible apply below_alloc) | (with_reducible apply below_drew))
set_option maxHeartbeats 4000000 in
theorem rack_slow (c0 c1 c2 c3 bytes at_ : Int) (h0 : W64 c0) (hb : W64 bytes) (hge : c2 ≤ at_) (hs : c0 < c1) (w : World) :
    Calls Try.prog 29 #[.agg #[.int .u64 c0, .int .u64 c1, .int .u64 c2, .int .u64 c3], .int .u64 bytes, .int .u64 at_, .bool false] w fun e w' => e = .returned (.agg #[.int .u64 (uHeld (uAdd c0 bytes)), .int .u64 c1, .int .u64 c2, .int .u64 c3]) ∧ Below w.heap.size w w' := by
  have hu := Try.underlying24
  have hge' : decide (at_ < c2) = false := decide_eq_false (by omega)
  have hs' : decide (c0 < c1) = true := decide_eq_true hs
  go_enter Try.func29, Try.ntmps29
  go_wp2_with (first | ((go_at_call 27); (with_reducible refine (wigwagref01_AddT.C _ _ h0 hb _).mono ?_); rintro e w' ⟨rfl, ⟨nd, rfl⟩⟩) | ((go_at_call 30); (with_reducible refine (wigwagref10_HeldT.C _ _).mono ?_); rintro e w' ⟨rfl, ⟨nd, rfl⟩⟩))
  refine bodyPost_ret (v := .agg #[.int .u64 (uHeld (uAdd c0 bytes)), .int .u64 c1, .int .u64 c2, .int .u64 c3]) (by simp [results, Try.results29, go_sem]) rfl ⟨rfl, ?_⟩
  repeat (first | (with_reducible exact Below.refl _ _) | (with_reducible refine below_set ?_ (by omega)) | (with_reducible apply pw_below_drewN) | (with_reducible apply below_alloc) | (with_reducible apply below_drew))
set_option maxHeartbeats 4000000 in
theorem rack_fast (c0 c1 c2 c3 bytes at_ : Int) (h0 : W64 c0) (h3 : W64 c3) (hb : W64 bytes) (hge : c2 ≤ at_) (hs : c1 ≤ c0) (hz : 1 ≤ c0) (w : World) :
    Calls Try.prog 29 #[.agg #[.int .u64 c0, .int .u64 c1, .int .u64 c2, .int .u64 c3], .int .u64 bytes, .int .u64 at_, .bool false] w fun e w' => e = .returned (.agg #[.int .u64 (uHeld (uAdd c0 (uAdd c3 (uMul bytes 1200) / c0))), .int .u64 c1, .int .u64 c2, .int .u64 (uAdd c3 (uMul bytes 1200) % c0)]) ∧ Below w.heap.size w w' := by
  have hu := Try.underlying24
  have hge' : decide (at_ < c2) = false := decide_eq_false (by omega)
  have hs' : decide (c0 < c1) = false := decide_eq_false (by omega)
  have hz' : (c0 == 0) = false := beq_eq_false_iff_ne.2 (by omega)
  have m1 := uMul_w hb (show W64 1200 by omega)
  have hr := uAdd_w h3 m1
  have hq : W64 (uAdd c3 (uMul bytes 1200) / c0) := ⟨Int.ediv_nonneg hr.1 (by omega), Int.le_trans (Int.ediv_le_self _ hr.1) hr.2⟩
  have hw1 : IntKind.u64.wrap ((uAdd c3 (uMul bytes 1200)).tdiv c0) = uAdd c3 (uMul bytes 1200) / c0 := by rw [Int.tdiv_eq_ediv_of_nonneg hr.1, w64 hq]
  have hw2 : (uAdd c3 (uMul bytes 1200)).tmod c0 = uAdd c3 (uMul bytes 1200) % c0 := Int.tmod_eq_emod_of_nonneg hr.1
  have hr' : 0 ≤ uAdd c3 (uMul bytes 1200) := hr.1
  have hr'' : uAdd c3 (uMul bytes 1200) ≤ 18446744073709551615 := hr.2
  go_enter Try.func29, Try.ntmps29
  go_wp2
  go_quiet (first | (go_at_call 43; with_reducible exact wigwagref01_MulT.Q _ _ hb (show W64 1200 by omega) _ _) | (go_at_call 27; with_reducible exact wigwagref01_AddT.Q _ _ h3 m1 _ _))
  go_wp2
  go_region_with (first | ((go_at_call 27); (with_reducible refine (wigwagref01_AddT.C _ _ h0 hq _).mono ?_); rintro e w' ⟨rfl, ⟨nd, rfl⟩⟩) | ((go_at_call 30); (with_reducible refine (wigwagref10_HeldT.C _ _).mono ?_); rintro e w' ⟨rfl, ⟨nd, rfl⟩⟩))
  all_goals
    go_wp2
    refine bodyPost_ret (v := .agg #[.int .u64 (uHeld (uAdd c0 (uAdd c3 (uMul bytes 1200) / c0))), .int .u64 c1, .int .u64 c2, .int .u64 (uAdd c3 (uMul bytes 1200) % c0)]) (by simp [results, Try.results29, go_sem]) rfl ⟨rfl, ?_⟩
    repeat (first | (with_reducible exact Below.refl _ _) | (with_reducible refine below_set ?_ (by omega)) | (with_reducible apply pw_below_drewN) | (with_reducible apply below_alloc) | (with_reducible apply below_drew))
set_option maxHeartbeats 4000000 in
theorem rack_fast0 (c1 c2 c3 bytes at_ : Int) (h3 : W64 c3) (hb : W64 bytes) (hge : c2 ≤ at_) (hs : c1 ≤ 0) (w : World) :
    Calls Try.prog 29 #[.agg #[.int .u64 0, .int .u64 c1, .int .u64 c2, .int .u64 c3], .int .u64 bytes, .int .u64 at_, .bool false] w fun e w' => e = .returned (.agg #[.int .u64 (uHeld (uAdd 0 (uAdd c3 (uMul bytes 1200) / 1))), .int .u64 c1, .int .u64 c2, .int .u64 (uAdd c3 (uMul bytes 1200) % 1)]) ∧ Below w.heap.size w w' := by
  have hu := Try.underlying24
  have hge' : decide (at_ < c2) = false := decide_eq_false (by omega)
  have hs' : decide (0 < c1) = false := decide_eq_false (by omega)
  have m1 := uMul_w hb (show W64 1200 by omega)
  have hr := uAdd_w h3 m1
  have hw1 : IntKind.u64.wrap (uAdd c3 (uMul bytes 1200)) = uAdd c3 (uMul bytes 1200) := w64 hr
  have hr' : 0 ≤ uAdd c3 (uMul bytes 1200) := hr.1
  have hr'' : uAdd c3 (uMul bytes 1200) ≤ 18446744073709551615 := hr.2
  go_enter Try.func29, Try.ntmps29
  go_wp2
  go_quiet (first | (go_at_call 43; with_reducible exact wigwagref01_MulT.Q _ _ hb (show W64 1200 by omega) _ _) | (go_at_call 27; with_reducible exact wigwagref01_AddT.Q _ _ h3 m1 _ _))
  go_wp2
  go_region_with (first | ((go_at_call 27); (with_reducible refine (wigwagref01_AddT.C _ _ (show W64 0 by omega) hr _).mono ?_); rintro e w' ⟨rfl, ⟨nd, rfl⟩⟩) | ((go_at_call 30); (with_reducible refine (wigwagref10_HeldT.C _ _).mono ?_); rintro e w' ⟨rfl, ⟨nd, rfl⟩⟩))
  all_goals
    go_wp2
    refine bodyPost_ret (v := .agg #[.int .u64 (uHeld (uAdd 0 (uAdd c3 (uMul bytes 1200) / 1))), .int .u64 c1, .int .u64 c2, .int .u64 (uAdd c3 (uMul bytes 1200) % 1)]) (by simp [results, Try.results29, go_sem]) rfl ⟨rfl, ?_⟩
    repeat (first | (with_reducible exact Below.refl _ _) | (with_reducible refine below_set ?_ (by omega)) | (with_reducible apply pw_below_drewN) | (with_reducible apply below_alloc) | (with_reducible apply below_drew))
def wigwagref10_Ack.f (a0_0 : Int) (a0_1 : Int) (a0_2 : Int) (a0_3 : Int) (a1 : Int) (a2 : Int) (a3 : Bool) : Option (Int × Int × Int × Int) := if W64 a0_0 ∧ W64 a0_3 ∧ W64 a1 then some (uRenoAck a0_0 a0_1 a0_2 a0_3 a1 a2 a3) else none
theorem wigwagref10_Ack.calls (a0_0 : Int) (a0_1 : Int) (a0_2 : Int) (a0_3 : Int) (a1 : Int) (a2 : Int) (a3 : Bool) (r1 : Int) (r2 : Int) (r3 : Int) (r4 : Int) (w : World) (h : wigwagref10_Ack.f a0_0 a0_1 a0_2 a0_3 a1 a2 a3 = some (r1, r2, r3, r4)) :
    Calls Try.prog 29 #[.agg #[.int .u64 a0_0, .int .u64 a0_1, .int .u64 a0_2, .int .u64 a0_3], .int .u64 a1, .int .u64 a2, .bool a3] w fun e w' => e = .returned (.agg #[.int .u64 r1, .int .u64 r2, .int .u64 r3, .int .u64 r4]) ∧ Below w.heap.size w w' := by
  unfold wigwagref10_Ack.f at h
  split at h
  · rename_i hw
    have h := Option.some.inj h
    unfold uRenoAck at h
    by_cases h1 : a2 < a0_2
    · rw [if_pos (.inr h1)] at h
      cases h
      exact rack_early _ _ _ _ _ _ _ h1 w
    · cases a3 with
      | true =>
        rw [if_pos (.inl rfl)] at h
        cases h
        exact rack_lim _ _ _ _ _ _ (by omega) w
      | false =>
        rw [if_neg (by simp; omega)] at h
        by_cases h2 : a0_0 < a0_1
        · rw [if_pos h2] at h
          cases h
          exact rack_slow _ _ _ _ _ _ hw.1 hw.2.2 (by omega) h2 w
        · rw [if_neg h2] at h
          by_cases h3 : a0_0 = 0
          · subst h3
            cases h
            exact rack_fast0 _ _ _ _ _ hw.2.1 hw.2.2 (by omega) (by omega) w
          · rw [show max a0_0 1 = a0_0 by omega] at h
            cases h
            exact rack_fast _ _ _ _ _ _ hw.1 hw.2.1 hw.2.2 (by omega) (by omega) (by omega) w
  · cases h


end Go.Proofs.Ytaaieijkmhmecaa.PPrT
