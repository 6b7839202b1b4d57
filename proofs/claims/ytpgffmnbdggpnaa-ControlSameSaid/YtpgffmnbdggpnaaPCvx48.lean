-- Written by a program of this session (wip/tools/xprint.py) for this claim.
import Derived.Test.YtpgffmnbdggpnaaPCvx0
namespace Go.Proofs.Ytpgffmnbdggpnaa.PCv
open Go.RowKit Go.Proofs.YtpgffmnbdggpnaaW.PrintWords Go.Proofs.YtpgffmnbdggpnaaW.PrintLast Go.Proofs.YtpgffmnbdggpnaaW.PrintMore
set_option linter.unusedVariables false
set_option linter.unusedSimpArgs false

/-! ### probe_Ack_1: function 53 -/
/-- The closure 'becomes': what the printer is shown in its place has one result that nobody reads. -/
def probe_Ack_1.f (_ _ _ : Int) : Option Int := some 0
set_option maxRecDepth 100000 in
set_option maxHeartbeats 1000000 in
theorem probe_Ack_1.C (s p n : Int) (gg gp : Nat) (w : World) {cp : Array Value} (k0 : w.cell? ⟨gg, 0, none⟩ = some (.int .u64 n)) (hp : w.heap[gp]? = some (.cells cp 32 (0, 0))) (hz : 8 < cp.size) (hne : gg ≠ gp) :
    Calls Try.prog 53 #[.int .i64 s, .int .u64 p, .pointer (some ⟨gg, 0, none⟩), .pointer (some ⟨gp, 0, none⟩)] w fun e w' => e = .returned (.tuple #[]) ∧ ∃ nd, w' = (((w.drewN nd).setCell ⟨gp, 0, none⟩ (.int .i64 s)).setCell ⟨gp, 7, none⟩ (.int .u64 p)).setCell ⟨gp, 8, none⟩ (.int .u64 n) := by
  obtain ⟨x0, e0⟩ : ∃ x, cp[0]? = some x := ⟨_, Array.getElem?_eq_getElem (by omega)⟩
  obtain ⟨x7, e7⟩ : ∃ x, cp[7]? = some x := ⟨_, Array.getElem?_eq_getElem (by omega)⟩
  obtain ⟨x8, e8⟩ : ∃ x, cp[8]? = some x := ⟨_, Array.getElem?_eq_getElem (by omega)⟩
  go_enter Try.func53, Try.ntmps53
  refine start_ (n := 10) (S := fun w' => w'.cell? ⟨gg, 0, none⟩ = some (.int .u64 n)) (ds := []) #[false, false, false, false, false, false, false, false, false, false] (by kernel_rfl) rfl rfl k0 (fun hHeld => ?_)
  refine pure_ (i := 0) (N := some 6) (v := ?_) (a' := ?_) #[true, false, false, false, false, false, false, false, false, false] rfl rfl (by kernel_rfl) (fun _ _ _ h => h) (Or.inl ⟨by rfl, ?_⟩) ?_ ?_
  rotate_left
  · intro w'
    go_simp
    with_reducible rfl
  rotate_left
  · simp only [Act.put, List.setIfInBounds_toArray, List.set_cons_zero, List.set_cons_succ, i64_w, i32_w]
    rfl
  refine pure_ (i := 1) (N := some 7) (v := ?_) (a' := ?_) #[true, true, false, false, false, false, false, false, false, false] rfl rfl (by kernel_rfl) (fun _ _ _ h => h) (Or.inl ⟨by rfl, ?_⟩) ?_ ?_
  rotate_left
  · intro w'
    go_simp
    with_reducible rfl
  rotate_left
  · simp only [Act.put, List.setIfInBounds_toArray, List.set_cons_zero, List.set_cons_succ, i64_w, i32_w]
    rfl
  refine pure_ (i := 2) (N := some 8) (v := ?_) (a' := ?_) #[true, true, true, false, false, false, false, false, false, false] rfl rfl (by kernel_rfl) (fun _ _ _ h => h) (Or.inl ⟨by rfl, ?_⟩) ?_ ?_
  rotate_left
  · intro w'
    go_simp
    with_reducible rfl
  rotate_left
  · simp only [Act.put, List.setIfInBounds_toArray, List.set_cons_zero, List.set_cons_succ, i64_w, i32_w]
    rfl
  refine take_ (i := 3) (N := some 9) (v := ?_) (a' := ?_) #[true, true, true, true, false, false, false, false, false, false] rfl rfl (by kernel_rfl) (fun _ _ _ h => h) (Or.inl ⟨by rfl, ?_⟩) hHeld ?_ ?_
  rotate_left
  · intro w' s0
    go_simp
    with_reducible rfl
  rotate_left
  · simp only [Act.put, List.setIfInBounds_toArray, List.set_cons_zero, List.set_cons_succ, i64_w, i32_w]
    rfl
  refine pure_ (i := 4) (N := some 10) (v := ?_) (a' := ?_) #[true, true, true, true, true, false, false, false, false, false] rfl rfl (by kernel_rfl) (fun _ _ _ h => h) (Or.inl ⟨by rfl, ?_⟩) ?_ ?_
  rotate_left
  · intro w'
    go_simp
    with_reducible rfl
  rotate_left
  · simp only [Act.put, List.setIfInBounds_toArray, List.set_cons_zero, List.set_cons_succ, i64_w, i32_w]
    rfl
  refine one_ (i := 5) (N := none) #[true, true, true, true, true, true, false, false, false, false] rfl rfl (by kernel_rfl) (by decide) (fun K hK => ?_)
  have hs0 : w.cell? ⟨gp, 0, none⟩ = some x0 := (blk_cell hp 0).trans e0
  have hf0 := blk_frozen hp 0
  refine skip_ (w1 := ?_) (by rfl) rfl ?_ ?_
  rotate_left
  · go_simp
    rfl
  refine hK.out _ _ ((cell_far (p := ⟨gp, _, none⟩) hne _).trans hHeld) (fun hHeld => ?_)
  clear hK K
  refine pure_ (i := 6) (N := some 11) (v := ?_) (a' := ?_) #[true, true, true, true, true, true, true, false, false, false] rfl rfl (by kernel_rfl) (fun _ _ _ h => h) (Or.inl ⟨by rfl, ?_⟩) ?_ ?_
  rotate_left
  · intro w'
    go_simp
    with_reducible rfl
  rotate_left
  · simp only [Act.put, List.setIfInBounds_toArray, List.set_cons_zero, List.set_cons_succ, i64_w, i32_w]
    rfl
  refine one_ (i := 7) (N := none) #[true, true, true, true, true, true, true, true, false, false] rfl rfl (by kernel_rfl) (by decide) (fun K hK => ?_)
  have hs7 : w.cell? ⟨gp, 7, none⟩ = some x7 := (blk_cell hp 7).trans e7
  have hf7 := blk_frozen hp 7
  refine skip_ (w1 := ?_) (by rfl) rfl ?_ ?_
  rotate_left
  · go_simp
    rfl
  refine hK.out _ _ ((cell_far (p := ⟨gp, _, none⟩) hne _).trans hHeld) (fun hHeld => ?_)
  clear hK K
  refine pure_ (i := 8) (N := some 12) (v := ?_) (a' := ?_) #[true, true, true, true, true, true, true, true, true, false] rfl rfl (by kernel_rfl) (fun _ _ _ h => h) (Or.inl ⟨by rfl, ?_⟩) ?_ ?_
  rotate_left
  · intro w'
    go_simp
    with_reducible rfl
  rotate_left
  · simp only [Act.put, List.setIfInBounds_toArray, List.set_cons_zero, List.set_cons_succ, i64_w, i32_w]
    rfl
  refine one_ (i := 9) (N := none) #[true, true, true, true, true, true, true, true, true, true] rfl rfl (by kernel_rfl) (by decide) (fun K hK => ?_)
  have hs8 : w.cell? ⟨gp, 8, none⟩ = some x8 := (blk_cell hp 8).trans e8
  have hf8 := blk_frozen hp 8
  refine skip_ (w1 := ?_) (by rfl) rfl ?_ ?_
  rotate_left
  · go_simp
    rfl
  refine hK.out _ _ ((cell_far (p := ⟨gp, _, none⟩) hne _).trans hHeld) (fun hHeld => ?_)
  clear hK K
  refine done_ (by kernel_rfl) ?_
  try go_wp2
  first | (go_end0; exact ⟨rfl, 1, rfl⟩) | exact ⟨rfl, rfl, 1, rfl⟩ | exact ⟨_, rfl, rfl, 1, rfl⟩


end Go.Proofs.Ytpgffmnbdggpnaa.PCv
