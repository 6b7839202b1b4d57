-- Written by a program of this session (wip/tools/xprint.py) for this claim.
import Derived.Test.YtpgffmnbdggpnaaPCvx0
import Derived.Test.YtpgffmnbdggpnaaPCvx8
import Derived.Test.YtpgffmnbdggpnaaPCvx23
import Derived.Test.YtpgffmnbdggpnaaPCvx37
namespace Go.Proofs.Ytpgffmnbdggpnaa.PCv
open Go.RowKit Go.Proofs.YtpgffmnbdggpnaaW.PrintWords Go.Proofs.YtpgffmnbdggpnaaW.PrintLast Go.Proofs.YtpgffmnbdggpnaaW.PrintMore
set_option linter.unusedVariables false
set_option linter.unusedSimpArgs false

-- given
/-! ### cubic_Target: function 28 -/
def uCube (d : Int) : Int := uMulDiv (min d 2097152 * min d 2097152 * min d 2097152) 480 1000000000
def uTarget (c0 most kk t : Int) : Int := min (max (if kk ≤ t then uAdd most (uCube (t - kk)) else uSub most (uCube (uSub kk t))) c0) (uAdd c0 (c0 / 2))
theorem cube_bd {d : Int} (h : W64 d) : 0 ≤ min d 2097152 * min d 2097152 ∧ min d 2097152 * min d 2097152 ≤ 4398046511104 ∧ 0 ≤ min d 2097152 * min d 2097152 * min d 2097152 ∧ min d 2097152 * min d 2097152 * min d 2097152 ≤ 9223372036854775808 := by
  have h0 : 0 ≤ min d 2097152 ∧ min d 2097152 ≤ 2097152 := by omega
  generalize min d 2097152 = m at *
  have e1 := mul_bd (A := 2097152) (B := 2097152) h0.1 h0.2 h0.1 h0.2
  have e2 := mul_bd (a := m * m) (b := m) (A := 4398046511104) (B := 2097152) (by omega) (by omega) h0.1 h0.2
  omega
theorem uCube_w {d : Int} (h : W64 d) : W64 (uCube d) := by
  have := cube_bd h
  exact uMulDiv_w (by omega) (by omega) (by omega)
set_option maxHeartbeats 1000000 in
theorem cubeC (d : Int) (h : W64 d) (w : World) :
    Calls Try.prog 57 #[.int .u64 d] w fun e w' => e = .returned (.int .u64 (uCube d)) ∧ Drawn0 w w' := by
  have hb := cube_bd h
  have h1 : W64 (min d 2097152 * min d 2097152 * min d 2097152) := by omega
  have h2 : W64 480 := by omega
  have h3 : W64 1000000000 := by omega
  have e1 : IntKind.u64.wrap (min d 2097152 * min d 2097152) = min d 2097152 * min d 2097152 := w64 (by omega)
  have e2 : IntKind.u64.wrap (min d 2097152 * min d 2097152 * min d 2097152) = min d 2097152 * min d 2097152 * min d 2097152 := w64 (by omega)
  go_enter Try.func57, Try.ntmps57
  go_wp2_with ((go_at_call 20); (with_reducible refine (fix_MulDivT.C _ _ _ h1 h2 h3 _).mono ?_); rintro e w' ⟨rfl, ⟨nd, rfl⟩⟩)
  go_ret
  exact ⟨rfl, ⟨_, rfl⟩⟩
theorem cubeQ (d : Int) (h : W64 d) (w : World) (n : Nat) : Calls Try.prog 57 #[.int .u64 d] (w.drewN n) fun e w' => e = .returned (.int .u64 (uCube d)) ∧ ∃ m, w' = w.drewN m := quiet_c (cubeC d h) n
set_option maxHeartbeats 4000000 in
theorem cubic_Target.late (c0 c1 c2 : Int) (c3 : Bool) (c4 c5 c6 c7 t : Int) (h0 : W64 c0) (h5 : W64 c5) (h6 : W64 c6) (ht : W64 t) (hge : c6 ≤ t) (w : World) :
    Calls Try.prog 28 #[.agg #[.int .u64 c0, .int .u64 c1, .int .u64 c2, .bool c3, .int .u64 c4, .int .u64 c5, .int .u64 c6, .int .u64 c7], .int .u64 t] w fun e w' => e = .returned (.int .u64 (uTarget c0 c5 c6 t)) ∧ Below w.heap.size w w' := by
  have hu := Try.underlying29
  have hd : decide (c6 ≤ t) = true := decide_eq_true hge
  have q1 := uSub_w h6 ht
  have q2 := uCube_w q1
  have q3 : W64 (t - c6) := by omega
  have q4 := uCube_w q3
  have e3 : IntKind.u64.wrap (t - c6) = t - c6 := w64 q3
  have e4 : IntKind.u64.wrap (c0.tdiv 2) = c0 / 2 := by rw [Int.tdiv_eq_ediv_of_nonneg h0.1, w64 (by omega)]
  have q5 : W64 (c0 / 2) := by omega
  go_enter Try.func28, Try.ntmps28
  go_wp2
  go_quiet (first | (go_at_call 29; with_reducible exact fix_Sub.Q _ _ h6 ht _ _) | (go_at_call 57; with_reducible exact cubeQ _ q1 _ _) | (go_at_call 29; with_reducible exact fix_Sub.Q _ _ h5 q2 _ _))
  generalize hW1 : World.drewN _ nq = W1
  have f0 : W1.cell? ⟨w.heap.size, 0, none⟩ = some (.int .u64 c0) := by subst hW1; go_simp
  have f5 : W1.cell? ⟨w.heap.size, 5, none⟩ = some (.int .u64 c5) := by subst hW1; go_simp
  have f6 : W1.cell? ⟨w.heap.size, 6, none⟩ = some (.int .u64 c6) := by subst hW1; go_simp
  have b1 : Below w.heap.size w W1 := by rw [← hW1]; exact pw_below_drewN (below_alloc (Below.refl _ _) _) _
  clear hW1
  go_wp2
  go_quiet (first | (go_at_call 57; with_reducible exact cubeQ _ q3 _ _) | (go_at_call 25; with_reducible exact fix_Add.Q _ _ h5 q4 _ _))
  generalize hW2 : World.drewN W1 nq = W2
  have g0 : W2.cell? ⟨w.heap.size, 0, none⟩ = some (.int .u64 c0) := by subst hW2; go_simp
  have b2 : Below w.heap.size w W2 := by rw [← hW2]; exact pw_below_drewN b1 _
  clear hW2
  go_wp2
  go_quiet ((go_at_call 25; with_reducible exact fix_Add.Q _ _ h0 q5 _ _))
  go_wp2
  refine bodyPost_ret (v := .int .u64 (uTarget c0 c5 c6 t)) (by simp [results, Try.results28, go_sem, uTarget, if_pos hge]) rfl ⟨rfl, ?_⟩
  repeat (first | (with_reducible exact b2) | (with_reducible exact Below.refl _ _) | (with_reducible refine below_set ?_ (by omega)) | (with_reducible apply pw_below_drewN) | (with_reducible apply below_alloc) | (with_reducible apply below_drew))
set_option maxHeartbeats 4000000 in
theorem cubic_Target.early (c0 c1 c2 : Int) (c3 : Bool) (c4 c5 c6 c7 t : Int) (h0 : W64 c0) (h5 : W64 c5) (h6 : W64 c6) (ht : W64 t) (hlt : ¬ c6 ≤ t) (w : World) :
    Calls Try.prog 28 #[.agg #[.int .u64 c0, .int .u64 c1, .int .u64 c2, .bool c3, .int .u64 c4, .int .u64 c5, .int .u64 c6, .int .u64 c7], .int .u64 t] w fun e w' => e = .returned (.int .u64 (uTarget c0 c5 c6 t)) ∧ Below w.heap.size w w' := by
  have hu := Try.underlying29
  have hd : decide (c6 ≤ t) = false := decide_eq_false hlt
  have q1 := uSub_w h6 ht
  have q2 := uCube_w q1
  have e4 : IntKind.u64.wrap (c0.tdiv 2) = c0 / 2 := by rw [Int.tdiv_eq_ediv_of_nonneg h0.1, w64 (by omega)]
  have q5 : W64 (c0 / 2) := by omega
  go_enter Try.func28, Try.ntmps28
  go_wp2
  go_quiet (first | (go_at_call 29; with_reducible exact fix_Sub.Q _ _ h6 ht _ _) | (go_at_call 57; with_reducible exact cubeQ _ q1 _ _) | (go_at_call 29; with_reducible exact fix_Sub.Q _ _ h5 q2 _ _))
  generalize hW1 : World.drewN _ nq = W1
  have f0 : W1.cell? ⟨w.heap.size, 0, none⟩ = some (.int .u64 c0) := by subst hW1; go_simp
  have f5 : W1.cell? ⟨w.heap.size, 5, none⟩ = some (.int .u64 c5) := by subst hW1; go_simp
  have f6 : W1.cell? ⟨w.heap.size, 6, none⟩ = some (.int .u64 c6) := by subst hW1; go_simp
  have b1 : Below w.heap.size w W1 := by rw [← hW1]; exact pw_below_drewN (below_alloc (Below.refl _ _) _) _
  clear hW1
  go_wp2
  go_quiet ((go_at_call 25; with_reducible exact fix_Add.Q _ _ h0 q5 _ _))
  go_wp2
  refine bodyPost_ret (v := .int .u64 (uTarget c0 c5 c6 t)) (by simp [results, Try.results28, go_sem, uTarget, if_neg (show ¬ c6 ≤ t by omega)]) rfl ⟨rfl, ?_⟩
  repeat (first | (with_reducible exact b1) | (with_reducible exact Below.refl _ _) | (with_reducible refine below_set ?_ (by omega)) | (with_reducible apply pw_below_drewN) | (with_reducible apply below_alloc) | (with_reducible apply below_drew))
def cubic_Target.f (a0_0 a0_1 a0_2 : Int) (a0_3 : Bool) (a0_4 a0_5 a0_6 a0_7 : Int) (a1 : Int) : Option (Int) := if W64 a0_0 ∧ W64 a0_5 ∧ W64 a0_6 ∧ W64 a1 then some (uTarget a0_0 a0_5 a0_6 a1) else none
theorem cubic_Target.calls (a0_0 a0_1 a0_2 : Int) (a0_3 : Bool) (a0_4 a0_5 a0_6 a0_7 : Int) (a1 : Int) (r1 : Int) (w : World) (h : cubic_Target.f a0_0 a0_1 a0_2 a0_3 a0_4 a0_5 a0_6 a0_7 a1 = some r1) :
    Calls Try.prog 28 #[.agg #[.int .u64 a0_0, .int .u64 a0_1, .int .u64 a0_2, .bool a0_3, .int .u64 a0_4, .int .u64 a0_5, .int .u64 a0_6, .int .u64 a0_7], .int .u64 a1] w fun e w' => e = .returned (.int .u64 r1) ∧ Below w.heap.size w w' := by
  unfold cubic_Target.f at h
  split at h
  · rename_i hw
    obtain rfl := Option.some.inj h
    by_cases hk : a0_6 ≤ a1
    · exact cubic_Target.late _ _ _ _ _ _ _ _ _ hw.1 hw.2.1 hw.2.2.1 hw.2.2.2 hk w
    · exact cubic_Target.early _ _ _ _ _ _ _ _ _ hw.1 hw.2.1 hw.2.2.1 hw.2.2.2 hk w
  · cases h


end Go.Proofs.Ytpgffmnbdggpnaa.PCv
