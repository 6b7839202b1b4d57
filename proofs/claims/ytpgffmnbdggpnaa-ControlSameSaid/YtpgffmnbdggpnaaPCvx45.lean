-- Written by a program of this session (wip/tools/xprint.py) for this claim.
import Derived.Test.YtpgffmnbdggpnaaPCvx0
import Derived.Test.YtpgffmnbdggpnaaPCvx23
namespace Go.Proofs.Ytpgffmnbdggpnaa.PCv
open Go.RowKit Go.Proofs.YtpgffmnbdggpnaaW.PrintWords Go.Proofs.YtpgffmnbdggpnaaW.PrintLast Go.Proofs.YtpgffmnbdggpnaaW.PrintMore
set_option linter.unusedVariables false
set_option linter.unusedSimpArgs false

/-! ### filt_PushMax_1: function 65 -/
/-- The closure of PushMax: 'e' is the sample that it captured, as one number. -/
def filt_PushMax_1.f (x0 x1 a1 e : Int) : Option Bool := (fix_Add.f x0 a1).bind fun t => some (decide (e / 18446744073709551616 ≤ t) && decide (e % 18446744073709551616 < x1))
set_option maxHeartbeats 1000000 in
theorem filt_PushMax_1.C (x0 x1 a1 s0 s1 : Int) (gw gs : Nat) (w : World) (ha : W64 x0) (hb : W64 a1) (hw : w.cell? ⟨gw, 0, none⟩ = some (.int .u64 a1)) (h0 : w.cell? ⟨gs, 0, none⟩ = some (.int .u64 s0)) (h1 : w.cell? ⟨gs, 1, none⟩ = some (.int .u64 s1)) :
    Calls Try.prog 65 #[.agg #[.int .u64 x0, .int .u64 x1], .pointer (some ⟨gw, 0, none⟩), .pointer (some ⟨gs, 0, none⟩)] w fun e w' => e = .returned (.bool (decide (s0 ≤ uAdd x0 a1) && decide (s1 < x1))) ∧ Below w.heap.size w w' := by
  have hu := Try.underlying90
  cases hd : decide (s0 ≤ uAdd x0 a1) <;> (
    go_enter Try.func65, Try.ntmps65
    go_wp2_with (first | ((with_reducible refine gate_dst (N := 3) rfl ?_); refine box_event ?hg (N := 3) ?hd (cs := #[.int .u64 x0, .int .u64 x1]) (t := 90) ?hr ?_; (case hd => rfl); (case hg => rfl); (case hr => first | (go_simp; done) | (go_simp; rfl)); intro gb hg w1 hbox hb1; have k0 : w1.cell? ⟨gb, 0, none⟩ = some (.int .u64 x0) := (blk_cell hbox 0).trans rfl; have k1 : w1.cell? ⟨gb, 1, none⟩ = some (.int .u64 x1) := (blk_cell hbox 1).trans rfl; replace hw := (hb1.cell (World.block_lt_of_cell? w _ hw)).trans hw; replace h0 := (hb1.cell (World.block_lt_of_cell? w _ h0)).trans h0; replace h1 := (hb1.cell (World.block_lt_of_cell? w _ h1)).trans h1; clear hbox hg))
    go_quiet ((go_at_call 25; with_reducible exact fix_Add.Q x0 a1 ha hb w1 _))
    go_wp2
    go_ret
    exact ⟨by simp, pw_below_drewN hb1 _⟩)
theorem filt_PushMax_1.calls (x0 x1 a1 e : Int) (r : Bool) (gw gs : Nat) (w : World) (hw : w.cell? ⟨gw, 0, none⟩ = some (.int .u64 a1)) (h0 : w.cell? ⟨gs, 0, none⟩ = some (.int .u64 (e / 18446744073709551616))) (h1 : w.cell? ⟨gs, 1, none⟩ = some (.int .u64 (e % 18446744073709551616))) (h : filt_PushMax_1.f x0 x1 a1 e = some r) :
    Calls Try.prog 65 #[.agg #[.int .u64 x0, .int .u64 x1], .pointer (some ⟨gw, 0, none⟩), .pointer (some ⟨gs, 0, none⟩)] w fun e w' => e = .returned (.bool r) ∧ Below w.heap.size w w' := by
  unfold filt_PushMax_1.f fix_Add.f at h
  split at h
  · rename_i hw2
    simp only [Option.bind_some, Option.some.injEq] at h
    subst h
    exact filt_PushMax_1.C x0 x1 a1 _ _ gw gs w hw2.1 hw2.2 hw h0 h1
  · simp at h


end Go.Proofs.Ytpgffmnbdggpnaa.PCv
