-- Written by a program of this session (wip/tools/xprint.py) for this claim.
import Derived.Test.YtoanhimhomgjmaaPPrOx0
namespace Go.Proofs.Ytoanhimhomgjmaa.PPrO
open Go.RowKit Go.Proofs.YtoanhimhomgjmaaW.PrintWords Go.Proofs.YtoanhimhomgjmaaW.PrintLast Go.Proofs.YtoanhimhomgjmaaW.PrintMore
attribute [local go_sem] max2_int min2_int max_two min_two max_three min_three max_four min_four   -- for this text's walks alone
set_option linter.unusedVariables false
set_option linter.unusedSimpArgs false

/-! ### fix_Add: function 26 -/
theorem fix_Add.add64 (x y : Int) (hx : 0 ≤ x) (hy : 0 ≤ y) (w : World) : (callFunc 40 #[.int .u64 x, .int .u64 y, .int .u64 0]).run Try.prog w =
    .ok (.value (.tuple #[.int .u64 ((x + y) % 18446744073709551616), .int .u64 ((x + y) / 18446744073709551616)])) w := by
  rw [run_callFunc_extern Try.func40 (by kernel_rfl) (by kernel_rfl) (by kernel_rfl) (e := Go.add64Entry) (by kernel_rfl), Go.run_add64 x y 0 hx hy (by omega) (by omega)]
  simp only [Result.andThen, Int.add_zero]
def fix_Add.f (a0 : Int) (a1 : Int) : Option Int := if W64 a0 ∧ W64 a1 then some (uAdd a0 a1) else none
set_option maxHeartbeats 1000000 in
theorem fix_Add.calls (a0 : Int) (a1 : Int) (r : Int) (w : World) (h : fix_Add.f a0 a1 = some r) :
    Calls Try.prog 26 #[.int .u64 a0, .int .u64 a1] w fun e w' => e = .returned (.int .u64 r) ∧ Drawn0 w w' := by
  unfold fix_Add.f at h
  split at h
  · rename_i hw
    obtain ⟨⟨h0, h1⟩, h2, h3⟩ := hw
    have hr := Lib.hid (Option.some.inj h)
    clear h
    by_cases hc : a0 + a1 ≤ 18446744073709551615
    · have hd : decide (0 < (a0 + a1) / 18446744073709551616) = false := by simp; omega
      go_enter Try.func26, Try.ntmps26
      go_wp2_with (simp only [fix_Add.add64 a0 a1 h0 h2])
      go_ret
      refine ⟨?_, Drawn0.refl _⟩
      exact ret_int (by rw [← hr.out]; unfold uAdd; rw [if_pos hc]; omega)
    · have hd : decide (0 < (a0 + a1) / 18446744073709551616) = true := by simp; omega
      go_enter Try.func26, Try.ntmps26
      go_wp2_with (simp only [fix_Add.add64 a0 a1 h0 h2])
      go_ret
      refine ⟨?_, Drawn0.refl _⟩
      exact ret_int (by rw [← hr.out]; unfold uAdd; rw [if_neg (by omega)])
  · cases h
theorem fix_Add.C (a b : Int) (ha : W64 a) (hb : W64 b) (w : World) : Calls Try.prog 26 #[.int .u64 a, .int .u64 b] w fun e w' => e = .returned (.int .u64 (uAdd a b)) ∧ Drawn0 w w' :=
  fix_Add.calls a b _ w (by unfold fix_Add.f; rw [if_pos ⟨ha, hb⟩])
theorem fix_Add.Q (a b : Int) (ha : W64 a) (hb : W64 b) (w : World) (n : Nat) : Calls Try.prog 26 #[.int .u64 a, .int .u64 b] (w.drewN n) fun e w' => e = .returned (.int .u64 (uAdd a b)) ∧ ∃ m, w' = w.drewN m := quiet_c (fix_Add.C a b ha hb) n


/-! ### reno_Held: function 27 -/
theorem reno_Held.C (a : Int) (w : World) : Calls Try.prog 27 #[.int .u64 a] w fun e w' => e = .returned (.int .u64 (uHeld a)) ∧ Drawn0 w w' := by
  unfold uHeld
  by_cases h : a < 2400
  · rw [if_pos h]
    go_enter Try.func27, Try.ntmps27
    go_wp2
    go_ret
    exact ⟨ret_int (by first | rfl | omega), Drawn0.refl _⟩
  · rw [if_neg h]
    by_cases h' : 16777216 < a
    · rw [if_pos h']
      go_enter Try.func27, Try.ntmps27
      go_wp2
      go_ret
      exact ⟨ret_int (by first | rfl | omega), Drawn0.refl _⟩
    · rw [if_neg h']
      go_enter Try.func27, Try.ntmps27
      go_wp2
      go_ret
      exact ⟨ret_int (by first | rfl | omega), Drawn0.refl _⟩
theorem reno_Held.Q (a : Int) (w : World) (n : Nat) : Calls Try.prog 27 #[.int .u64 a] (w.drewN n) fun e w' => e = .returned (.int .u64 (uHeld a)) ∧ ∃ m, w' = w.drewN m := quiet_c (reno_Held.C a) n
def reno_Held.f (a0 : Int) : Option Int := some (uHeld a0)
theorem reno_Held.calls (a0 : Int) (r : Int) (w : World) (h : reno_Held.f a0 = some r) :
    Calls Try.prog 27 #[.int .u64 a0] w fun e w' => e = .returned (.int .u64 r) ∧ Drawn0 w w' := by
  obtain rfl := Option.some.inj h
  exact reno_Held.C a0 w


/-! ### filt_PushMax_1: function 42 -/
/-- The closure of PushMax: 'e' is the sample that it captured, as one number. -/
def filt_PushMax_1.f (x0 x1 a1 e : Int) : Option Bool := (fix_Add.f x0 a1).bind fun t => some (decide (e / 18446744073709551616 ≤ t) && decide (e % 18446744073709551616 < x1))
set_option maxHeartbeats 1000000 in
theorem filt_PushMax_1.C (x0 x1 a1 s0 s1 : Int) (gw gs : Nat) (w : World) (ha : W64 x0) (hb : W64 a1) (hw : w.cell? ⟨gw, 0, none⟩ = some (.int .u64 a1)) (h0 : w.cell? ⟨gs, 0, none⟩ = some (.int .u64 s0)) (h1 : w.cell? ⟨gs, 1, none⟩ = some (.int .u64 s1)) :
    Calls Try.prog 42 #[.agg #[.int .u64 x0, .int .u64 x1], .pointer (some ⟨gw, 0, none⟩), .pointer (some ⟨gs, 0, none⟩)] w fun e w' => e = .returned (.bool (decide (s0 ≤ uAdd x0 a1) && decide (s1 < x1))) ∧ Below w.heap.size w w' := by
  have hu := Try.underlying52
  cases hd : decide (s0 ≤ uAdd x0 a1) <;> (
    go_enter Try.func42, Try.ntmps42
    go_wp2_with (first | ((with_reducible refine gate_dst (N := 3) rfl ?_); refine box_event ?hg (N := 3) ?hd (cs := #[.int .u64 x0, .int .u64 x1]) (t := 52) ?hr ?_; (case hd => rfl); (case hg => rfl); (case hr => first | (go_simp; done) | (go_simp; rfl)); intro gb hg w1 hbox hb1; have k0 : w1.cell? ⟨gb, 0, none⟩ = some (.int .u64 x0) := (blk_cell hbox 0).trans rfl; have k1 : w1.cell? ⟨gb, 1, none⟩ = some (.int .u64 x1) := (blk_cell hbox 1).trans rfl; replace hw := (hb1.cell (World.block_lt_of_cell? w _ hw)).trans hw; replace h0 := (hb1.cell (World.block_lt_of_cell? w _ h0)).trans h0; replace h1 := (hb1.cell (World.block_lt_of_cell? w _ h1)).trans h1; clear hbox hg))
    go_quiet ((go_at_call 26; with_reducible exact fix_Add.Q x0 a1 ha hb w1 _))
    go_wp2
    go_ret
    exact ⟨by simp, pw_below_drewN hb1 _⟩)
theorem filt_PushMax_1.calls (x0 x1 a1 e : Int) (r : Bool) (gw gs : Nat) (w : World) (hw : w.cell? ⟨gw, 0, none⟩ = some (.int .u64 a1)) (h0 : w.cell? ⟨gs, 0, none⟩ = some (.int .u64 (e / 18446744073709551616))) (h1 : w.cell? ⟨gs, 1, none⟩ = some (.int .u64 (e % 18446744073709551616))) (h : filt_PushMax_1.f x0 x1 a1 e = some r) :
    Calls Try.prog 42 #[.agg #[.int .u64 x0, .int .u64 x1], .pointer (some ⟨gw, 0, none⟩), .pointer (some ⟨gs, 0, none⟩)] w fun e w' => e = .returned (.bool r) ∧ Below w.heap.size w w' := by
  unfold filt_PushMax_1.f fix_Add.f at h
  split at h
  · rename_i hw2
    simp only [Option.bind_some, Option.some.injEq] at h
    subst h
    exact filt_PushMax_1.C x0 x1 a1 _ _ gw gs w hw2.1 hw2.2 hw h0 h1
  · simp at h


end Go.Proofs.Ytoanhimhomgjmaa.PPrO
