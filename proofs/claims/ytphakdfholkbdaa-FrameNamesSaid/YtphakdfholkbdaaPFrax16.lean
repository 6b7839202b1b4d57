-- Written by a program of this session (wip/tools/xprint.py) for this claim.
import Derived.Test.YtphakdfholkbdaaPFrax0
import Derived.Test.YtphakdfholkbdaaPFrax15
namespace Go.Proofs.Ytphakdfholkbdaa.PFra
open Go.RowKit Go.Proofs.YtphakdfholkbdaaW.PrintWords Go.Proofs.YtphakdfholkbdaaW.PrintLast Go.Proofs.YtphakdfholkbdaaW.PrintMore
attribute [local go_sem] max2_int min2_int max_two min_two max_three min_three max_four min_four   -- for this text's walks alone
set_option linter.unusedVariables false
set_option linter.unusedSimpArgs false

/-! ### wigwaglaw05_FrameNames: function 3 -/
def wigwaglaw05_FrameNames.f (k : Nat)  : Option (Bool) := (wigwaglaw05_awake.f k).bind fun t211 => (if t211 = true then (some true) else (none))
theorem wigwaglaw05_FrameNames.mono : ∀ k, LeO (wigwaglaw05_FrameNames.f k ) (wigwaglaw05_FrameNames.f (k + 1) ) := by
  intro  k
  unfold wigwaglaw05_FrameNames.f
  repeat' first
      | (with_reducible exact wigwaglaw05_awake.mono _)
      | (with_reducible exact LeO.refl _)
      | (with_reducible exact LeO.none _)
      | (with_reducible refine LeO.ite ?_ ?_)
      | (with_reducible refine LeO.bind ?_ (fun _ => ?_))
      | exact wigwaglaw05_awake.mono _
      | exact LeO.none _
      | refine LeO.ite ?_ ?_
      | refine LeO.bind ?_ (fun _ => ?_)
set_option maxHeartbeats 8000000 in
set_option maxRecDepth 100000 in
theorem wigwaglaw05_FrameNames.calls (k : Nat)  (r : Bool) (w : World) (h : wigwaglaw05_FrameNames.f k  = some r) :
    Calls Try.prog 3 #[] w fun e w' => e = .returned (.bool r) ∧ Below w.heap.size w w' := by
  have HB := Aside0.mk (Below.refl w.heap.size w)
  have H : ((wigwaglaw05_awake.f k).bind fun t211 => (if t211 = true then (some true) else (none))) = some r := h
  clear h
  replace H := Option.bind_eq_some_iff.mp H
  obtain ⟨t211, A10, H⟩ := H
  replace H : (if t211 = true then (some true) else (none)) = some r := H
  have A1 := Aside0.mk A10
  clear A10
  by_cases c2 : t211 = true
  · subst c2
    have H1 : (some true) = some r := by rw [if_pos rfl] at H; exact H
    clear H
    have H := H1
    clear H1
    obtain rfl := Option.some.inj H
    go_enter Try.func3, Try.ntmps3
    go_wp2_with (first | ((with_reducible refine gate_callee (f := 11) rfl ?_); refine goesL_ (some 4) rfl rfl Try.func11 (by kernel_rfl) rfl #[] rfl (by (try simp only [List.map_toArray, List.map_cons, List.map_nil]); first | done | rfl | (simp only [List.length_drop, List.length_take]; rfl)) ?_; (with_reducible refine (wigwaglaw05_awake.calls k  true _ A1.out).mono ?_); rintro e w3 ⟨rfl, hb⟩; refine ⟨_, rfl, ?_⟩; have n0_ := Aside0.mk (below_step (by repeat (first | (with_reducible first | exact HB.out | apply below_alloc | apply pw_below_drewN | apply below_drew1) | exact HB.out)) hb); clear HB; have HB := n0_; clear n0_; (try clear hb); (try clear hb2); (try clear hk); (try clear hi)))
    go_ret
    exact ⟨by first | rfl | (simp [errW_none, errW_some] <;> rfl) | (simp [*, errW_none, errW_some] <;> rfl), by repeat (first | (with_reducible first | exact HB.out | apply below_alloc | apply pw_below_drewN | apply below_drew1) | exact HB.out)⟩
  · replace c2 := Bool.eq_false_iff.mpr c2
    subst c2
    have H1 : (none) = some r := by rw [if_neg (show ¬ (false = true) by decide)] at H; exact H
    clear H
    have H := H1
    clear H1
    exact absurd H (by simp)

/-- THE ONE PURE STATEMENT of wigwaglaw05_FrameNames: yours. -/
def wigwaglaw05_FrameNames.Pure : Prop := ∃ k, wigwaglaw05_FrameNames.f k  = some true
theorem wigwaglaw05_FrameNames.walk (P : wigwaglaw05_FrameNames.Pure)  (w : World)  :
    Calls Try.prog 3 #[] w fun e w' => e = .returned (.bool true) ∧ Below w.heap.size w w' := by
  obtain ⟨k, h⟩ := P  
  refine (wigwaglaw05_FrameNames.calls k  true w h).mono ?_
  rintro e w' ⟨rfl, hd⟩
  exact ⟨rfl, hd⟩

/-! ### wigwaglaw05_Few: function 12 -/
def wigwaglaw05_Few.f (a0_0 : Int) (a0_1 : Int) (a0_2 : Int) (a0_3 : Int) (a0_4 : Int) (a0_5 : Int) (a0_6 : Int) (a0_7 : Bool) (l0_8 : List Int) (l0_9 : List (S47)) : Option (Bool) := if (l0_9.length : Int) ≤ 100 then (some (decide ((l0_8.length : Int) ≤ 2000))) else (some false)
set_option maxHeartbeats 8000000 in
set_option maxRecDepth 100000 in
theorem wigwaglaw05_Few.calls (a0_0 : Int) (a0_1 : Int) (a0_2 : Int) (a0_3 : Int) (a0_4 : Int) (a0_5 : Int) (a0_6 : Int) (a0_7 : Bool) (A0_8 : Option Addr) (c0_8 : Nat) (l0_8 : List Int) (A0_9 : Option Addr) (c0_9 : Nat) (l0_9 : List (S47)) (r : Bool) (w : World) (hr0_8 : Kd.C (Kd.int .u8) w A0_8 l0_8.length l0_8) (hc0_8 : l0_8.length ≤ c0_8) (hr0_9 : Kd.C k47 w A0_9 l0_9.length l0_9) (hc0_9 : l0_9.length ≤ c0_9) (h : wigwaglaw05_Few.f a0_0 a0_1 a0_2 a0_3 a0_4 a0_5 a0_6 a0_7 l0_8 l0_9 = some r) :
    Calls Try.prog 12 #[.agg #[.int .i64 a0_0, .int .u64 a0_1, .int .u64 a0_2, .int .u64 a0_3, .int .u64 a0_4, .int .u64 a0_5, .int .u64 a0_6, .bool a0_7, .slice A0_8 l0_8.length c0_8, .slice A0_9 l0_9.length c0_9]] w fun e w' => e = .returned (.bool r) ∧ Below w.heap.size w w' := by
  have hu27 := Try.underlying27
  have HR0_8 := Aside0.mk hr0_8
  have HC0_8 := Aside0.mk hc0_8
  clear hr0_8 hc0_8
  have HR0_9 := Aside0.mk hr0_9
  have HC0_9 := Aside0.mk hc0_9
  clear hr0_9 hc0_9
  have HB := Aside0.mk (Below.refl w.heap.size w)
  have H : (if (l0_9.length : Int) ≤ 100 then (some (decide ((l0_8.length : Int) ≤ 2000))) else (some false)) = some r := h
  clear h
  by_cases c2 : (l0_9.length : Int) ≤ 100
  · rw [if_pos c2] at H
    have c2b0 : decide ((l0_9.length : Int) ≤ 100) = true := decide_eq_true c2
    have c2b1 : decide (l0_9.length ≤ 100) = true := decide_eq_true (by omega)
    clear c2
    obtain rfl := Option.some.inj H
    go_enter Try.func12, Try.ntmps12
    go_wp2_with (first | ((with_reducible refine gate_dst (N := 1) rfl ?_); (try (refine gate_guard (by rfl) ?_; dsimp only)); refine box_event ?hg (N := 1) ?hd (cs := #[.int .i64 a0_0, .int .u64 a0_1, .int .u64 a0_2, .int .u64 a0_3, .int .u64 a0_4, .int .u64 a0_5, .int .u64 a0_6, .bool a0_7, .slice A0_8 l0_8.length c0_8, .slice A0_9 l0_9.length c0_9]) (t := 27) ?hr ?_; (case hd => rfl); (case hg => rfl); (case hr => first | (go_simp; done) | (go_simp; rfl)); intro gb212 hg w3 hbox hb; have n0_ := Aside0.mk (below_step (by repeat (first | (with_reducible first | exact HB.out | apply below_alloc | apply pw_below_drewN | apply below_drew1) | exact HB.out)) hb); have n1_ := Aside0.mk (hbox); have n2_ := Aside0.mk ((by rw [hg]; exact (below_size (by repeat (first | (with_reducible first | exact HB.out | apply below_alloc | apply pw_below_drewN | apply below_drew1) | exact HB.out))) : w.heap.size ≤ gb212)); have n3_ := Aside0.mk ((by rw [hg]; exact (below_size (by repeat (first | (with_reducible first | exact HB.out | apply below_alloc | apply pw_below_drewN | apply below_drew1) | exact HB.out))) : w.heap.size ≤ gb212)); clear HB; have HB := n0_; have BK212 := n1_; have GW212 := n2_; have GE212 := n3_; clear n0_ n1_ n2_ n3_; clear hb hbox hg; have hcz4_0 : w3.cell? ⟨gb212, 0, none⟩ = some (.int .i64 a0_0) := (blk_cell BK212.out 0).trans rfl; have hcz4_1 : w3.cell? ⟨gb212, 1, none⟩ = some (.int .u64 a0_1) := (blk_cell BK212.out 1).trans rfl; have hcz4_2 : w3.cell? ⟨gb212, 2, none⟩ = some (.int .u64 a0_2) := (blk_cell BK212.out 2).trans rfl; have hcz4_3 : w3.cell? ⟨gb212, 3, none⟩ = some (.int .u64 a0_3) := (blk_cell BK212.out 3).trans rfl; have hcz4_4 : w3.cell? ⟨gb212, 4, none⟩ = some (.int .u64 a0_4) := (blk_cell BK212.out 4).trans rfl; have hcz4_5 : w3.cell? ⟨gb212, 5, none⟩ = some (.int .u64 a0_5) := (blk_cell BK212.out 5).trans rfl; have hcz4_6 : w3.cell? ⟨gb212, 6, none⟩ = some (.int .u64 a0_6) := (blk_cell BK212.out 6).trans rfl; have hcz4_7 : w3.cell? ⟨gb212, 7, none⟩ = some (.bool a0_7) := (blk_cell BK212.out 7).trans rfl; have hcz4_8 : w3.cell? ⟨gb212, 8, none⟩ = some (.slice A0_8 l0_8.length c0_8) := (blk_cell BK212.out 8).trans rfl; have hcz4_9 : w3.cell? ⟨gb212, 9, none⟩ = some (.slice A0_9 l0_9.length c0_9) := (blk_cell BK212.out 9).trans rfl; have hfz4_0 := blk_frozen BK212.out 0; have hfz4_1 := blk_frozen BK212.out 1; have hfz4_2 := blk_frozen BK212.out 2; have hfz4_3 := blk_frozen BK212.out 3; have hfz4_4 := blk_frozen BK212.out 4; have hfz4_5 := blk_frozen BK212.out 5; have hfz4_6 := blk_frozen BK212.out 6; have hfz4_7 := blk_frozen BK212.out 7; have hfz4_8 := blk_frozen BK212.out 8; have hfz4_9 := blk_frozen BK212.out 9))
    go_ret
    exact ⟨by first | rfl | (simp [errW_none, errW_some] <;> rfl) | (simp [*, errW_none, errW_some] <;> rfl), by repeat (first | (with_reducible first | exact HB.out | apply below_alloc | apply pw_below_drewN | apply below_drew1 | refine below_set ?_ GE212.out) | exact HB.out)⟩
  · rw [if_neg c2] at H
    have c2b0 : decide ((l0_9.length : Int) ≤ 100) = false := decide_eq_false c2
    have c2b1 : decide (l0_9.length ≤ 100) = false := decide_eq_false (by omega)
    clear c2
    obtain rfl := Option.some.inj H
    go_enter Try.func12, Try.ntmps12
    go_wp2_with (first | ((with_reducible refine gate_dst (N := 1) rfl ?_); (try (refine gate_guard (by rfl) ?_; dsimp only)); refine box_event ?hg (N := 1) ?hd (cs := #[.int .i64 a0_0, .int .u64 a0_1, .int .u64 a0_2, .int .u64 a0_3, .int .u64 a0_4, .int .u64 a0_5, .int .u64 a0_6, .bool a0_7, .slice A0_8 l0_8.length c0_8, .slice A0_9 l0_9.length c0_9]) (t := 27) ?hr ?_; (case hd => rfl); (case hg => rfl); (case hr => first | (go_simp; done) | (go_simp; rfl)); intro gb212 hg w5 hbox hb; have n0_ := Aside0.mk (below_step (by repeat (first | (with_reducible first | exact HB.out | apply below_alloc | apply pw_below_drewN | apply below_drew1) | exact HB.out)) hb); have n1_ := Aside0.mk (hbox); have n2_ := Aside0.mk ((by rw [hg]; exact (below_size (by repeat (first | (with_reducible first | exact HB.out | apply below_alloc | apply pw_below_drewN | apply below_drew1) | exact HB.out))) : w.heap.size ≤ gb212)); have n3_ := Aside0.mk ((by rw [hg]; exact (below_size (by repeat (first | (with_reducible first | exact HB.out | apply below_alloc | apply pw_below_drewN | apply below_drew1) | exact HB.out))) : w.heap.size ≤ gb212)); clear HB; have HB := n0_; have BK212 := n1_; have GW212 := n2_; have GE212 := n3_; clear n0_ n1_ n2_ n3_; clear hb hbox hg; have hcz6_0 : w5.cell? ⟨gb212, 0, none⟩ = some (.int .i64 a0_0) := (blk_cell BK212.out 0).trans rfl; have hcz6_1 : w5.cell? ⟨gb212, 1, none⟩ = some (.int .u64 a0_1) := (blk_cell BK212.out 1).trans rfl; have hcz6_2 : w5.cell? ⟨gb212, 2, none⟩ = some (.int .u64 a0_2) := (blk_cell BK212.out 2).trans rfl; have hcz6_3 : w5.cell? ⟨gb212, 3, none⟩ = some (.int .u64 a0_3) := (blk_cell BK212.out 3).trans rfl; have hcz6_4 : w5.cell? ⟨gb212, 4, none⟩ = some (.int .u64 a0_4) := (blk_cell BK212.out 4).trans rfl; have hcz6_5 : w5.cell? ⟨gb212, 5, none⟩ = some (.int .u64 a0_5) := (blk_cell BK212.out 5).trans rfl; have hcz6_6 : w5.cell? ⟨gb212, 6, none⟩ = some (.int .u64 a0_6) := (blk_cell BK212.out 6).trans rfl; have hcz6_7 : w5.cell? ⟨gb212, 7, none⟩ = some (.bool a0_7) := (blk_cell BK212.out 7).trans rfl; have hcz6_8 : w5.cell? ⟨gb212, 8, none⟩ = some (.slice A0_8 l0_8.length c0_8) := (blk_cell BK212.out 8).trans rfl; have hcz6_9 : w5.cell? ⟨gb212, 9, none⟩ = some (.slice A0_9 l0_9.length c0_9) := (blk_cell BK212.out 9).trans rfl; have hfz6_0 := blk_frozen BK212.out 0; have hfz6_1 := blk_frozen BK212.out 1; have hfz6_2 := blk_frozen BK212.out 2; have hfz6_3 := blk_frozen BK212.out 3; have hfz6_4 := blk_frozen BK212.out 4; have hfz6_5 := blk_frozen BK212.out 5; have hfz6_6 := blk_frozen BK212.out 6; have hfz6_7 := blk_frozen BK212.out 7; have hfz6_8 := blk_frozen BK212.out 8; have hfz6_9 := blk_frozen BK212.out 9))
    go_ret
    exact ⟨by first | rfl | (simp [errW_none, errW_some] <;> rfl) | (simp [*, errW_none, errW_some] <;> rfl), by repeat (first | (with_reducible first | exact HB.out | apply below_alloc | apply pw_below_drewN | apply below_drew1 | refine below_set ?_ GE212.out) | exact HB.out)⟩

-- NOT PRINTED: function 30 (wigwagref05_Fields)

end Go.Proofs.Ytphakdfholkbdaa.PFra
