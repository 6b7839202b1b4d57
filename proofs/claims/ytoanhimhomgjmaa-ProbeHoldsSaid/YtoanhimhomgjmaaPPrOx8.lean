-- Written by a program of this session (wip/tools/xprint.py) for this claim.
import Derived.Test.YtoanhimhomgjmaaPPrOx0
import Derived.Test.YtoanhimhomgjmaaPPrOx7
namespace Go.Proofs.Ytoanhimhomgjmaa.PPrO
open Go.RowKit Go.Proofs.YtoanhimhomgjmaaW.PrintWords Go.Proofs.YtoanhimhomgjmaaW.PrintLast Go.Proofs.YtoanhimhomgjmaaW.PrintMore
attribute [local go_sem] max2_int min2_int max_two min_two max_three min_three max_four min_four   -- for this text's walks alone
set_option linter.unusedVariables false
set_option linter.unusedSimpArgs false

/-! ### filt_PushMax: function 28 -/
def filt_PushMax.f (k : Nat) (l0 : List (S52)) (a1 : Int) (a2_0 : Int) (a2_1 : Int) : Option (List (S52)) := if W64 a2_0 ∧ W64 a2_1 then api_Sample_41.f k l0 a2_0 a2_1 a1 (a2_0 * 18446744073709551616 + a2_1) else none
theorem filt_PushMax.mono : ∀ a0 a1 a2 a3 k, LeO (filt_PushMax.f k a0 a1 a2 a3) (filt_PushMax.f (k + 1) a0 a1 a2 a3) := by
  intro a0 a1 a2 a3 k
  unfold filt_PushMax.f
  exact LeO.ite (api_Sample_41.mono _ _ _ _ _ _) (LeO.none _)
set_option maxHeartbeats 1000000 in
theorem filt_PushMax.calls (k : Nat) (A0 : Option Addr) (c0 : Nat) (l0 : List (S52)) (a1 : Int) (a2_0 : Int) (a2_1 : Int) (r : List (S52)) (w : World) (hr0 : Kd.C k52 w A0 l0.length l0) (hc0 : l0.length ≤ c0) (h : filt_PushMax.f k l0 a1 a2_0 a2_1 = some r) :
    Calls Try.prog 28 #[.slice A0 l0.length c0, .int .u64 a1, .agg #[.int .u64 a2_0, .int .u64 a2_1]] w fun e w' => ∃ v0_ : Value, e = .returned (v0_) ∧ Kd.R k52 52 w' w.heap.size (fun _ => True) v0_ r ∧ Below w.heap.size w w' := by
  have hu52 := Try.underlying52
  have hmf : ∀ (fn : Fn) (first cap : Array Value) (w : World), (Instr.makeFunc fn first cap).run Try.prog w = .ok (.func fn first cap) w := fun _ _ _ _ => rfl
  unfold filt_PushMax.f at h
  split at h
  · rename_i hw
    obtain ⟨⟨h0, h1⟩, h2, h3⟩ := hw
    have e0 : (a2_0 * 18446744073709551616 + a2_1) / 18446744073709551616 = a2_0 := by omega
    have e1 : (a2_0 * 18446744073709551616 + a2_1) % 18446744073709551616 = a2_1 := by omega
    generalize a2_0 * 18446744073709551616 + a2_1 = E at *
    go_enter Try.func28, Try.ntmps28
    have k2 : ((w.alloc (.cells #[.int .u64 a1] 24)).alloc (.cells #[.int .u64 a2_0, .int .u64 a2_1] 52)).cell? ⟨w.heap.size, 0, none⟩ = some (.int .u64 a1) := by go_simp
    have k0 : ((w.alloc (.cells #[.int .u64 a1] 24)).alloc (.cells #[.int .u64 a2_0, .int .u64 a2_1] 52)).cell? ⟨w.heap.size + 1, 0, none⟩ = some (.int .u64 a2_0) := by go_simp
    have k1 : ((w.alloc (.cells #[.int .u64 a1] 24)).alloc (.cells #[.int .u64 a2_0, .int .u64 a2_1] 52)).cell? ⟨w.heap.size + 1, 1, none⟩ = some (.int .u64 a2_1) := by go_simp
    have kb : Below w.heap.size w ((w.alloc (.cells #[.int .u64 a1] 24)).alloc (.cells #[.int .u64 a2_0, .int .u64 a2_1] 52)) := below_alloc (below_alloc (Below.refl _ _) _) _
    go_wp2_with ((go_at_call 41); (refine Calls.mono (api_Sample_41.calls k A0 c0 l0 a2_0 a2_1 a1 E r w.heap.size (w.heap.size + 1) _ k2 (by rw [e0]; exact k0) (by rw [e1]; exact k1) (Kd.C_below hr0 kb) hc0 h) ?_); rintro e w6 ⟨v, rfl, hr, hb6⟩)
    go_ret
    exact ⟨_, rfl, Kd.R_lower hr (below_size kb), below_step kb hb6⟩
  · cases h


/-! ### probe_Ack_1: function 29 -/
/-- The closure 'becomes': what the printer is shown in its place has one result that nobody reads. -/
def probe_Ack_1.f (_ _ _ : Int) : Option Int := some 0
set_option maxRecDepth 100000 in
set_option maxHeartbeats 1000000 in
theorem probe_Ack_1.C (s p n : Int) (gg gp : Nat) (w : World) {cp : Array Value} (k0 : w.cell? ⟨gg, 0, none⟩ = some (.int .u64 n)) (hp : w.heap[gp]? = some (.cells cp 26 (0, 0))) (hz : 8 < cp.size) (hne : gg ≠ gp) :
    Calls Try.prog 29 #[.int .i64 s, .int .u64 p, .pointer (some ⟨gg, 0, none⟩), .pointer (some ⟨gp, 0, none⟩)] w fun e w' => e = .returned (.tuple #[]) ∧ ∃ nd, w' = (((w.drewN nd).setCell ⟨gp, 0, none⟩ (.int .i64 s)).setCell ⟨gp, 7, none⟩ (.int .u64 p)).setCell ⟨gp, 8, none⟩ (.int .u64 n) := by
  obtain ⟨x0, e0⟩ : ∃ x, cp[0]? = some x := ⟨_, Array.getElem?_eq_getElem (by omega)⟩
  obtain ⟨x7, e7⟩ : ∃ x, cp[7]? = some x := ⟨_, Array.getElem?_eq_getElem (by omega)⟩
  obtain ⟨x8, e8⟩ : ∃ x, cp[8]? = some x := ⟨_, Array.getElem?_eq_getElem (by omega)⟩
  go_enter Try.func29, Try.ntmps29
  refine start_ (n := 10) (S := fun w' => w'.cell? ⟨gg, 0, none⟩ = some (.int .u64 n)) (ds := []) #[false, false, false, false, false, false, false, false, false, false] (by kernel_rfl) rfl rfl k0 (fun hHeld => ?_)
  refine pure_ (i := 0) (N := some 6) (v := ?_) (a' := ?_) #[true, false, false, false, false, false, false, false, false, false] rfl rfl (by kernel_rfl) (fun _ _ _ h => h) (Or.inl ⟨by rfl, ?_⟩) ?_ ?_
  rotate_left
  · intro w'
    go_simp
    with_reducible rfl
  rotate_left
  · simp only [Act.put, List.setIfInBounds_toArray, List.set_cons_zero, List.set_cons_succ, i64_w, i32_w]
    rfl
  refine pure_ (i := 1) (N := some 7) (v := ?_) (a' := ?_) #[true, true, false, false, false, false, false, false, false, false] rfl rfl (by kernel_rfl) (fun _ _ _ h => h) (Or.inl ⟨by rfl, ?_⟩) ?_ ?_
  rotate_left
  · intro w'
    go_simp
    with_reducible rfl
  rotate_left
  · simp only [Act.put, List.setIfInBounds_toArray, List.set_cons_zero, List.set_cons_succ, i64_w, i32_w]
    rfl
  refine pure_ (i := 2) (N := some 8) (v := ?_) (a' := ?_) #[true, true, true, false, false, false, false, false, false, false] rfl rfl (by kernel_rfl) (fun _ _ _ h => h) (Or.inl ⟨by rfl, ?_⟩) ?_ ?_
  rotate_left
  · intro w'
    go_simp
    with_reducible rfl
  rotate_left
  · simp only [Act.put, List.setIfInBounds_toArray, List.set_cons_zero, List.set_cons_succ, i64_w, i32_w]
    rfl
  refine take_ (i := 3) (N := some 9) (v := ?_) (a' := ?_) #[true, true, true, true, false, false, false, false, false, false] rfl rfl (by kernel_rfl) (fun _ _ _ h => h) (Or.inl ⟨by rfl, ?_⟩) hHeld ?_ ?_
  rotate_left
  · intro w' s0
    go_simp
    with_reducible rfl
  rotate_left
  · simp only [Act.put, List.setIfInBounds_toArray, List.set_cons_zero, List.set_cons_succ, i64_w, i32_w]
    rfl
  refine pure_ (i := 4) (N := some 10) (v := ?_) (a' := ?_) #[true, true, true, true, true, false, false, false, false, false] rfl rfl (by kernel_rfl) (fun _ _ _ h => h) (Or.inl ⟨by rfl, ?_⟩) ?_ ?_
  rotate_left
  · intro w'
    go_simp
    with_reducible rfl
  rotate_left
  · simp only [Act.put, List.setIfInBounds_toArray, List.set_cons_zero, List.set_cons_succ, i64_w, i32_w]
    rfl
  refine one_ (i := 5) (N := none) #[true, true, true, true, true, true, false, false, false, false] rfl rfl (by kernel_rfl) (by decide) (fun K hK => ?_)
  have hs0 : w.cell? ⟨gp, 0, none⟩ = some x0 := (blk_cell hp 0).trans e0
  have hf0 := blk_frozen hp 0
  refine skip_ (w1 := ?_) (by rfl) rfl ?_ ?_
  rotate_left
  · go_simp
    rfl
  refine hK.out _ _ ((cell_far (p := ⟨gp, _, none⟩) hne _).trans hHeld) (fun hHeld => ?_)
  clear hK K
  refine pure_ (i := 6) (N := some 11) (v := ?_) (a' := ?_) #[true, true, true, true, true, true, true, false, false, false] rfl rfl (by kernel_rfl) (fun _ _ _ h => h) (Or.inl ⟨by rfl, ?_⟩) ?_ ?_
  rotate_left
  · intro w'
    go_simp
    with_reducible rfl
  rotate_left
  · simp only [Act.put, List.setIfInBounds_toArray, List.set_cons_zero, List.set_cons_succ, i64_w, i32_w]
    rfl
  refine one_ (i := 7) (N := none) #[true, true, true, true, true, true, true, true, false, false] rfl rfl (by kernel_rfl) (by decide) (fun K hK => ?_)
  have hs7 : w.cell? ⟨gp, 7, none⟩ = some x7 := (blk_cell hp 7).trans e7
  have hf7 := blk_frozen hp 7
  refine skip_ (w1 := ?_) (by rfl) rfl ?_ ?_
  rotate_left
  · go_simp
    rfl
  refine hK.out _ _ ((cell_far (p := ⟨gp, _, none⟩) hne _).trans hHeld) (fun hHeld => ?_)
  clear hK K
  refine pure_ (i := 8) (N := some 12) (v := ?_) (a' := ?_) #[true, true, true, true, true, true, true, true, true, false] rfl rfl (by kernel_rfl) (fun _ _ _ h => h) (Or.inl ⟨by rfl, ?_⟩) ?_ ?_
  rotate_left
  · intro w'
    go_simp
    with_reducible rfl
  rotate_left
  · simp only [Act.put, List.setIfInBounds_toArray, List.set_cons_zero, List.set_cons_succ, i64_w, i32_w]
    rfl
  refine one_ (i := 9) (N := none) #[true, true, true, true, true, true, true, true, true, true] rfl rfl (by kernel_rfl) (by decide) (fun K hK => ?_)
  have hs8 : w.cell? ⟨gp, 8, none⟩ = some x8 := (blk_cell hp 8).trans e8
  have hf8 := blk_frozen hp 8
  refine skip_ (w1 := ?_) (by rfl) rfl ?_ ?_
  rotate_left
  · go_simp
    rfl
  refine hK.out _ _ ((cell_far (p := ⟨gp, _, none⟩) hne _).trans hHeld) (fun hHeld => ?_)
  clear hK K
  refine done_ (by kernel_rfl) ?_
  try go_wp2
  first | (go_end0; exact ⟨rfl, 1, rfl⟩) | exact ⟨rfl, rfl, 1, rfl⟩ | exact ⟨_, rfl, rfl, 1, rfl⟩


end Go.Proofs.Ytoanhimhomgjmaa.PPrO
