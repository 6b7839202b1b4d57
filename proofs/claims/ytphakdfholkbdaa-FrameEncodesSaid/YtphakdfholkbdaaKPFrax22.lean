/- PFrax22 -/
import Derived.Test.YtphakdfholkbdaaKA
namespace Go.Proofs.Ytphakdfholkbdaa.PFra
open Go.RowKit Go.Proofs.YtphakdfholkbdaaW.PrintWords Go.Proofs.YtphakdfholkbdaaW.PrintLast Go.Proofs.YtphakdfholkbdaaW.PrintMore
attribute [local go_sem] max2_int min2_int max_two min_two max_three min_three max_four min_four   -- for this text's walks alone
set_option linter.unusedVariables false
set_option linter.unusedSimpArgs false
def wigwagref05_laid.l0 : Nat → List Int → Int → Int → Int → Int → Int → Int → Int → Int → Bool → List Int → List (S47) → Option (List Int)
  | 0, _, _, _, _, _, _, _, _, _, _, _, _ => none
  | k + 1, x5, x6, x245000, x245001, x245002, x245003, x245004, x245005, x245006, x245007, x245008, x245009 => if x6 ≥ 0 then (if 0 ≤ (wrap64 (x6 + 1)) then (if (wrap64 (x6 + 1)) < (x245009.length : Int) then (if 0 ≤ x6 then (if x6 < (x245009.length : Int) then ((some (([IntKind.u64.wrap ((IntKind.u64.wrap (((rd_T47 x245009 (wrap64 (x6 + 1))).f0) - ((rd_T47 x245009 x6).f1))) - 1), IntKind.u64.wrap ((IntKind.u64.wrap (((rd_T47 x245009 x6).f1) - ((rd_T47 x245009 x6).f0))) - 1)] : List Int) : List Int)).bind fun y254 => (if x5.length + y254.length < 17592186044416 then (wigwagref05_laid.l0 k (x5 ++ y254) (wrap64 (x6 - 1)) x245000 x245001 x245002 x245003 x245004 x245005 x245006 x245007 x245008 x245009) else (none))) else (none)) else (none)) else (none)) else (none)) else (if x5.length < 17592186044416 then ((some (x5 ++ [x245005] : List Int)).bind fun y260 => (if x245000 = 3 then (if y260.length < 17592186044416 then (some (y260 ++ [x245006])) else (none)) else (some y260))) else (none))
def wigwagref05_laid.f (k : Nat) (a0_0 : Int) (a0_1 : Int) (a0_2 : Int) (a0_3 : Int) (a0_4 : Int) (a0_5 : Int) (a0_6 : Int) (a0_7 : Bool) (l0_8 : List Int) (l0_9 : List (S47)) : Option (List Int) := if a0_0 = 2 then (if 0 ≤ (wrap64 ((l0_9.length : Int) - 1)) then (if (wrap64 ((l0_9.length : Int) - 1)) < (l0_9.length : Int) then (wigwagref05_laid.l0 k (([IntKind.u64.wrap (a0_0), IntKind.u64.wrap ((l0_9.length : Int)), IntKind.u64.wrap (((rd_T47 l0_9 (wrap64 ((l0_9.length : Int) - 1))).f1) - 1), IntKind.u64.wrap ((IntKind.u64.wrap (((rd_T47 l0_9 (wrap64 ((l0_9.length : Int) - 1))).f1) - ((rd_T47 l0_9 (wrap64 ((l0_9.length : Int) - 1))).f0))) - 1)] : List Int)) (wrap64 ((l0_9.length : Int) - 2)) a0_0 a0_1 a0_2 a0_3 a0_4 a0_5 a0_6 a0_7 l0_8 l0_9) else (none)) else (none)) else (if a0_0 = 3 then (if 0 ≤ (wrap64 ((l0_9.length : Int) - 1)) then (if (wrap64 ((l0_9.length : Int) - 1)) < (l0_9.length : Int) then (wigwagref05_laid.l0 k (([IntKind.u64.wrap (a0_0), IntKind.u64.wrap ((l0_9.length : Int)), IntKind.u64.wrap (((rd_T47 l0_9 (wrap64 ((l0_9.length : Int) - 1))).f1) - 1), IntKind.u64.wrap ((IntKind.u64.wrap (((rd_T47 l0_9 (wrap64 ((l0_9.length : Int) - 1))).f1) - ((rd_T47 l0_9 (wrap64 ((l0_9.length : Int) - 1))).f0))) - 1)] : List Int)) (wrap64 ((l0_9.length : Int) - 2)) a0_0 a0_1 a0_2 a0_3 a0_4 a0_5 a0_6 a0_7 l0_8 l0_9) else (none)) else (none)) else (if a0_0 = 4 then (some (([4, a0_1, a0_4, a0_3] : List Int))) else (if a0_0 = 5 then (some (([5, a0_1, a0_4] : List Int))) else (if a0_0 = 6 then (some (([6, a0_3, a0_2, a0_1] : List Int))) else (if a0_0 = 14 then (if a0_7 = true then (some (([15, a0_1, a0_2, IntKind.u64.wrap ((l0_8.length : Int))] : List Int))) else (some (([14, a0_1, a0_2, IntKind.u64.wrap ((l0_8.length : Int))] : List Int)))) else (if a0_0 = 16 then (some (([IntKind.u64.wrap (a0_0), a0_3] : List Int))) else (if a0_0 = 18 then (some (([IntKind.u64.wrap (a0_0), a0_3] : List Int))) else (if a0_0 = 20 then (some (([IntKind.u64.wrap (a0_0), a0_3] : List Int))) else (if a0_0 = 17 then (some (([IntKind.u64.wrap (a0_0), a0_1, a0_3] : List Int))) else (if a0_0 = 21 then (some (([IntKind.u64.wrap (a0_0), a0_1, a0_3] : List Int))) else (if a0_0 = 28 then (some (([28, a0_4] : List Int))) else (some (([IntKind.u64.wrap (a0_0)] : List Int))))))))))))))
def wigwagref05_laid.T10 : Bool × List (List Nat × List Nat) := (true, [([], []), ([], []), ([1], [1]), ([], []), ([3], [3]), ([2, 4], [2, 4]), ([5], [5]), ([6], [6]), ([], []), ([8], [8]), ([], []), ([9, 10], [9, 10]), ([11], [11]), ([12], [12]), ([7, 13], [7, 13]), ([14], [14]), ([], []), ([16], [16]), ([], []), ([17, 18], [17, 18]), ([19], [19]), ([20], [20]), ([], []), ([22], [22]), ([], []), ([23, 24], [23, 24]), ([25], [25]), ([26], [26]), ([21, 27], [21, 27]), ([28], [28]), ([15, 29], [15, 29]), ([0, 30], [0, 30]), ([31, 31, 0, 1, 2, 3, 4, 5, 6, 7, 8, 9, 10, 11, 12, 13, 14, 15, 16, 17, 18, 19, 20, 21, 22, 23, 24, 25, 26, 27, 28, 29, 30, 31], [0, 31])])
def wigwagref05_laid.B10 : List Nat := [0, 0, 2, 0, 8, 30, 62, 126, 0, 256, 0, 1792, 3840, 7936, 16382, 32766, 0, 65536, 0, 458752, 983040, 2031616, 0, 4194304, 0, 29360128, 62914560, 130023424, 268369920, 536805376, 1073741822, 2147483647, 4294967295]
theorem wigwagref05_laid.tab10 : rtab .any (opsOf Try.f28 10) = wigwagref05_laid.T10 := by kernel_rfl
theorem wigwagref05_laid.bits10 : waitsOk wigwagref05_laid.T10.2 wigwagref05_laid.B10 = true := by kernel_rfl
set_option maxHeartbeats 8000000 in
set_option maxRecDepth 100000 in
theorem wigwagref05_laid.calls (k : Nat) (a0_0 : Int) (a0_1 : Int) (a0_2 : Int) (a0_3 : Int) (a0_4 : Int) (a0_5 : Int) (a0_6 : Int) (a0_7 : Bool) (A0_8 : Option Addr) (c0_8 : Nat) (l0_8 : List Int) (A0_9 : Option Addr) (c0_9 : Nat) (l0_9 : List (S47)) (r : List Int) (w : World) (hr0_8 : Kd.C (Kd.int .u8) w A0_8 l0_8.length l0_8) (hc0_8 : l0_8.length ≤ c0_8) (hr0_9 : Kd.C k47 w A0_9 l0_9.length l0_9) (hc0_9 : l0_9.length ≤ c0_9) (h : wigwagref05_laid.f k a0_0 a0_1 a0_2 a0_3 a0_4 a0_5 a0_6 a0_7 l0_8 l0_9 = some r) :
    Calls Try.prog 28 #[.agg #[.int .i64 a0_0, .int .u64 a0_1, .int .u64 a0_2, .int .u64 a0_3, .int .u64 a0_4, .int .u64 a0_5, .int .u64 a0_6, .bool a0_7, .slice A0_8 l0_8.length c0_8, .slice A0_9 l0_9.length c0_9]] w fun e w' => ∃ v0_ : Value, e = .returned (v0_) ∧ Kd.R (Kd.int .u64) 23 w' w.heap.size (fun _ => True) v0_ r ∧ Below w.heap.size w w' := by
  have hu27 := Try.underlying27
  have hu47 := Try.underlying47
  have HR0_8 := Aside0.mk hr0_8
  have HC0_8 := Aside0.mk hc0_8
  clear hr0_8 hc0_8
  have HR0_9 := Aside0.mk hr0_9
  have HC0_9 := Aside0.mk hc0_9
  clear hr0_9 hc0_9
  have HB := Aside0.mk (Below.refl w.heap.size w)
  have H : (if a0_0 = 2 then (if 0 ≤ (wrap64 ((l0_9.length : Int) - 1)) then (if (wrap64 ((l0_9.length : Int) - 1)) < (l0_9.length : Int) then (wigwagref05_laid.l0 k (([IntKind.u64.wrap (a0_0), IntKind.u64.wrap ((l0_9.length : Int)), IntKind.u64.wrap (((rd_T47 l0_9 (wrap64 ((l0_9.length : Int) - 1))).f1) - 1), IntKind.u64.wrap ((IntKind.u64.wrap (((rd_T47 l0_9 (wrap64 ((l0_9.length : Int) - 1))).f1) - ((rd_T47 l0_9 (wrap64 ((l0_9.length : Int) - 1))).f0))) - 1)] : List Int)) (wrap64 ((l0_9.length : Int) - 2)) a0_0 a0_1 a0_2 a0_3 a0_4 a0_5 a0_6 a0_7 l0_8 l0_9) else (none)) else (none)) else (if a0_0 = 3 then (if 0 ≤ (wrap64 ((l0_9.length : Int) - 1)) then (if (wrap64 ((l0_9.length : Int) - 1)) < (l0_9.length : Int) then (wigwagref05_laid.l0 k (([IntKind.u64.wrap (a0_0), IntKind.u64.wrap ((l0_9.length : Int)), IntKind.u64.wrap (((rd_T47 l0_9 (wrap64 ((l0_9.length : Int) - 1))).f1) - 1), IntKind.u64.wrap ((IntKind.u64.wrap (((rd_T47 l0_9 (wrap64 ((l0_9.length : Int) - 1))).f1) - ((rd_T47 l0_9 (wrap64 ((l0_9.length : Int) - 1))).f0))) - 1)] : List Int)) (wrap64 ((l0_9.length : Int) - 2)) a0_0 a0_1 a0_2 a0_3 a0_4 a0_5 a0_6 a0_7 l0_8 l0_9) else (none)) else (none)) else (if a0_0 = 4 then (some (([4, a0_1, a0_4, a0_3] : List Int))) else (if a0_0 = 5 then (some (([5, a0_1, a0_4] : List Int))) else (if a0_0 = 6 then (some (([6, a0_3, a0_2, a0_1] : List Int))) else (if a0_0 = 14 then (if a0_7 = true then (some (([15, a0_1, a0_2, IntKind.u64.wrap ((l0_8.length : Int))] : List Int))) else (some (([14, a0_1, a0_2, IntKind.u64.wrap ((l0_8.length : Int))] : List Int)))) else (if a0_0 = 16 then (some (([IntKind.u64.wrap (a0_0), a0_3] : List Int))) else (if a0_0 = 18 then (some (([IntKind.u64.wrap (a0_0), a0_3] : List Int))) else (if a0_0 = 20 then (some (([IntKind.u64.wrap (a0_0), a0_3] : List Int))) else (if a0_0 = 17 then (some (([IntKind.u64.wrap (a0_0), a0_1, a0_3] : List Int))) else (if a0_0 = 21 then (some (([IntKind.u64.wrap (a0_0), a0_1, a0_3] : List Int))) else (if a0_0 = 28 then (some (([28, a0_4] : List Int))) else (some (([IntKind.u64.wrap (a0_0)] : List Int))))))))))))))) = some r := h
  clear h
  by_cases c2 : a0_0 = 2
  · rw [if_pos c2] at H
    have c2b0 : (a0_0 == 2) = true := beq_iff_eq.mpr c2
    have c2b1 : (a0_0 != 2) = false := bne_eq_false_iff_eq.mpr c2
    clear c2
    obtain ⟨ji3, hji3⟩ : ∃ j_ : Int, (wrap64 ((l0_9.length : Int) - 1)) = j_ := ⟨_, rfl⟩
    replace H : (if 0 ≤ (ji3) then (if (ji3) < (l0_9.length : Int) then (wigwagref05_laid.l0 k (([IntKind.u64.wrap (a0_0), IntKind.u64.wrap ((l0_9.length : Int)), IntKind.u64.wrap (((rd_T47 l0_9 (ji3)).f1) - 1), IntKind.u64.wrap ((IntKind.u64.wrap (((rd_T47 l0_9 (ji3)).f1) - ((rd_T47 l0_9 (ji3)).f0))) - 1)] : List Int)) (wrap64 ((l0_9.length : Int) - 2)) a0_0 a0_1 a0_2 a0_3 a0_4 a0_5 a0_6 a0_7 l0_8 l0_9) else (none)) else (none)) = some r := by first | (rw [hji3] at H; exact H) | (simp only [hji3] at H ⊢; exact H)
    have hji3w : (IntKind.i64.wrap ((l0_9.length : Int) - 1)) = ji3 := (i64_w _).trans hji3
    by_cases c4 : 0 ≤ (ji3)
    · rw [if_pos c4] at H
      have c4b0 : decide (0 ≤ (ji3)) = true := decide_eq_true c4
      clear c4
      by_cases c5 : (ji3) < (l0_9.length : Int)
      · rw [if_pos c5] at H
        have c5b0 : decide ((ji3) < (l0_9.length : Int)) = true := decide_eq_true c5
        clear c5
        obtain ⟨y247, hy247⟩ : ∃ y_ : List Int, y_ = (([IntKind.u64.wrap (a0_0), IntKind.u64.wrap ((l0_9.length : Int)), IntKind.u64.wrap (((rd_T47 l0_9 (ji3)).f1) - 1), IntKind.u64.wrap ((IntKind.u64.wrap (((rd_T47 l0_9 (ji3)).f1) - ((rd_T47 l0_9 (ji3)).f0))) - 1)] : List Int)) := ⟨_, rfl⟩
        replace H : (wigwagref05_laid.l0 k y247 (wrap64 ((l0_9.length : Int) - 2)) a0_0 a0_1 a0_2 a0_3 a0_4 a0_5 a0_6 a0_7 l0_8 l0_9) = some r := by first | (rw [hy247]; with_reducible exact H) | (have H2_ := (Option.bind_some _ _).symm.trans H; rw [hy247]; with_reducible exact H2_) | (have H2_ := (Option.bind_some _ _).symm.trans H; with_reducible exact H2_) | with_reducible exact H | (rw [hy247]; exact H) | exact H
        have Ny247 := Aside0.mk hy247
        clear hy247
        have H' := Aside0.mk H
        clear H
        go_enter Try.func28, Try.ntmps28
        go_wp2_with (first | ((with_reducible refine gate_dst (N := 1) rfl ?_); refine box_event ?hg (N := 1) ?hd (cs := #[.int .i64 a0_0, .int .u64 a0_1, .int .u64 a0_2, .int .u64 a0_3, .int .u64 a0_4, .int .u64 a0_5, .int .u64 a0_6, .bool a0_7, .slice A0_8 l0_8.length c0_8, .slice A0_9 l0_9.length c0_9]) (t := 27) ?hr ?_; (case hd => rfl); (case hg => rfl); (case hr => first | (go_simp; done) | (go_simp; rfl)); intro gb244 hg w6 hbox hb; have n0_ := Aside0.mk (below_step (by repeat (first | (with_reducible first | exact HB.out | apply below_alloc | apply pw_below_drewN | apply below_drew1) | exact HB.out)) hb); have n1_ := Aside0.mk (hbox); have n2_ := Aside0.mk ((by rw [hg]; exact (below_size (by repeat (first | (with_reducible first | exact HB.out | apply below_alloc | apply pw_below_drewN | apply below_drew1) | exact HB.out))) : w.heap.size ≤ gb244)); have n3_ := Aside0.mk ((by rw [hg]; exact (below_size (by repeat (first | (with_reducible first | exact HB.out | apply below_alloc | apply pw_below_drewN | apply below_drew1) | exact HB.out))) : w.heap.size ≤ gb244)); clear HB; have HB := n0_; have BK244 := n1_; have GW244 := n2_; have GE244 := n3_; clear n0_ n1_ n2_ n3_; clear hb hbox hg; have hcz7_0 : w6.cell? ⟨gb244, 0, none⟩ = some (.int .i64 a0_0) := (blk_cell BK244.out 0).trans rfl; have hcz7_1 : w6.cell? ⟨gb244, 1, none⟩ = some (.int .u64 a0_1) := (blk_cell BK244.out 1).trans rfl; have hcz7_2 : w6.cell? ⟨gb244, 2, none⟩ = some (.int .u64 a0_2) := (blk_cell BK244.out 2).trans rfl; have hcz7_3 : w6.cell? ⟨gb244, 3, none⟩ = some (.int .u64 a0_3) := (blk_cell BK244.out 3).trans rfl; have hcz7_4 : w6.cell? ⟨gb244, 4, none⟩ = some (.int .u64 a0_4) := (blk_cell BK244.out 4).trans rfl; have hcz7_5 : w6.cell? ⟨gb244, 5, none⟩ = some (.int .u64 a0_5) := (blk_cell BK244.out 5).trans rfl; have hcz7_6 : w6.cell? ⟨gb244, 6, none⟩ = some (.int .u64 a0_6) := (blk_cell BK244.out 6).trans rfl; have hcz7_7 : w6.cell? ⟨gb244, 7, none⟩ = some (.bool a0_7) := (blk_cell BK244.out 7).trans rfl; have hcz7_8 : w6.cell? ⟨gb244, 8, none⟩ = some (.slice A0_8 l0_8.length c0_8) := (blk_cell BK244.out 8).trans rfl; have hcz7_9 : w6.cell? ⟨gb244, 9, none⟩ = some (.slice A0_9 l0_9.length c0_9) := (blk_cell BK244.out 9).trans rfl; have hfz7_0 := blk_frozen BK244.out 0; have hfz7_1 := blk_frozen BK244.out 1; have hfz7_2 := blk_frozen BK244.out 2; have hfz7_3 := blk_frozen BK244.out 3; have hfz7_4 := blk_frozen BK244.out 4; have hfz7_5 := blk_frozen BK244.out 5; have hfz7_6 := blk_frozen BK244.out 6; have hfz7_7 := blk_frozen BK244.out 7; have hfz7_8 := blk_frozen BK244.out 8; have hfz7_9 := blk_frozen BK244.out 9; have p245 : 0 ≤ ((ji3) : Int) := of_decide_eq_true (by first | (with_reducible assumption) | assumption); have q245 : (ji3) < (l0_9.length : Int) := of_decide_eq_true (by first | (with_reducible assumption) | assumption); obtain ⟨ad245, e245, hx245_0, hx245_1⟩ := at_T47 HR0_9.out (ji3) p245 q245; cases e245; replace hx245_0 := (HB.out.cell (World.block_lt_of_cell? w _ hx245_0)).trans hx245_0; replace hx245_1 := (HB.out.cell (World.block_lt_of_cell? w _ hx245_1)).trans hx245_1; replace p245 := eq_true p245; replace q245 := eq_true q245) | ((with_reducible refine gate_dst (N := 4) rfl ?_); refine box_event ?hg (N := 4) ?hd (cs := #[.int .u64 0, .int .u64 0]) (t := 47) ?hr ?_; (case hd => rfl); (case hg => rfl); (case hr => first | (go_simp; done) | (go_simp; rfl)); intro gb246 hg w8 hbox hb; have n0_ := Aside0.mk (blk_below (g := gb244) (o := .cells #[.int .i64 a0_0, .int .u64 a0_1, .int .u64 a0_2, .int .u64 a0_3, .int .u64 a0_4, .int .u64 a0_5, .int .u64 a0_6, .bool a0_7, .slice A0_8 l0_8.length c0_8, .slice (some ad245) l0_9.length c0_9] 27 (0, 0)) (by (with_reducible repeat (first | refine blk_drewN ?_ _ | refine blk_drew ?_ | refine blk_alloc ?_ _)); exact BK244.out) hb); have n1_ := Aside0.mk (below_step (by repeat (first | (with_reducible first | exact HB.out | apply below_alloc | apply pw_below_drewN | apply below_drew1 | refine below_set ?_ GE244.out) | exact HB.out)) hb); have n2_ := Aside0.mk (hbox); have n3_ := Aside0.mk ((by rw [hg]; exact (below_size (by repeat (first | (with_reducible first | exact HB.out | apply below_alloc | apply pw_below_drewN | apply below_drew1 | refine below_set ?_ GE244.out) | exact HB.out))) : w.heap.size ≤ gb246)); have n4_ := Aside0.mk ((by rw [hg]; exact (below_size (by repeat (first | (with_reducible first | exact HB.out | apply below_alloc | apply pw_below_drewN | apply below_drew1 | refine below_set ?_ GE244.out) | exact HB.out))) : w.heap.size ≤ gb246)); have n5_ := Aside0.mk ((by rw [hg]; exact Nat.ne_of_lt (blk_lt (g := gb244) (o := .cells #[.int .i64 a0_0, .int .u64 a0_1, .int .u64 a0_2, .int .u64 a0_3, .int .u64 a0_4, .int .u64 a0_5, .int .u64 a0_6, .bool a0_7, .slice A0_8 l0_8.length c0_8, .slice (some ad245) l0_9.length c0_9] 27 (0, 0)) (by (with_reducible repeat (first | refine blk_drewN ?_ _ | refine blk_drew ?_ | refine blk_alloc ?_ _)); exact BK244.out)) : gb244 ≠ gb246)); have n6_ := Aside0.mk ((by rw [hg]; exact Nat.ne_of_gt (blk_lt (g := gb244) (o := .cells #[.int .i64 a0_0, .int .u64 a0_1, .int .u64 a0_2, .int .u64 a0_3, .int .u64 a0_4, .int .u64 a0_5, .int .u64 a0_6, .bool a0_7, .slice A0_8 l0_8.length c0_8, .slice (some ad245) l0_9.length c0_9] 27 (0, 0)) (by (with_reducible repeat (first | refine blk_drewN ?_ _ | refine blk_drew ?_ | refine blk_alloc ?_ _)); exact BK244.out)) : gb246 ≠ gb244)); clear BK244; clear HB; have BK244 := n0_; have HB := n1_; have BK246 := n2_; have GW246 := n3_; have GE246 := n4_; have NB244_246 := n5_; have NB246_244 := n6_; clear n0_ n1_ n2_ n3_ n4_ n5_ n6_; clear hb hbox hg; have hnb9 := NB246_244.out; have hnc9 := NB244_246.out; have hcz10_0 : w8.cell? ⟨gb246, 0, none⟩ = some (.int .u64 0) := (blk_cell BK246.out 0).trans rfl; have hcz10_1 : w8.cell? ⟨gb246, 1, none⟩ = some (.int .u64 0) := (blk_cell BK246.out 1).trans rfl; have hfz10_0 := blk_frozen BK246.out 0; have hfz10_1 := blk_frozen BK246.out 1; have hcz11_0 : w8.cell? ⟨gb244, 0, none⟩ = some (.int .i64 a0_0) := (blk_cell BK244.out 0).trans rfl; have hcz11_1 : w8.cell? ⟨gb244, 1, none⟩ = some (.int .u64 a0_1) := (blk_cell BK244.out 1).trans rfl; have hcz11_2 : w8.cell? ⟨gb244, 2, none⟩ = some (.int .u64 a0_2) := (blk_cell BK244.out 2).trans rfl; have hcz11_3 : w8.cell? ⟨gb244, 3, none⟩ = some (.int .u64 a0_3) := (blk_cell BK244.out 3).trans rfl; have hcz11_4 : w8.cell? ⟨gb244, 4, none⟩ = some (.int .u64 a0_4) := (blk_cell BK244.out 4).trans rfl; have hcz11_5 : w8.cell? ⟨gb244, 5, none⟩ = some (.int .u64 a0_5) := (blk_cell BK244.out 5).trans rfl; have hcz11_6 : w8.cell? ⟨gb244, 6, none⟩ = some (.int .u64 a0_6) := (blk_cell BK244.out 6).trans rfl; have hcz11_7 : w8.cell? ⟨gb244, 7, none⟩ = some (.bool a0_7) := (blk_cell BK244.out 7).trans rfl; have hcz11_8 : w8.cell? ⟨gb244, 8, none⟩ = some (.slice A0_8 l0_8.length c0_8) := (blk_cell BK244.out 8).trans rfl; have hcz11_9 : w8.cell? ⟨gb244, 9, none⟩ = some (.slice (some ad245) l0_9.length c0_9) := (blk_cell BK244.out 9).trans rfl; have hfz11_0 := blk_frozen BK244.out 0; have hfz11_1 := blk_frozen BK244.out 1; have hfz11_2 := blk_frozen BK244.out 2; have hfz11_3 := blk_frozen BK244.out 3; have hfz11_4 := blk_frozen BK244.out 4; have hfz11_5 := blk_frozen BK244.out 5; have hfz11_6 := blk_frozen BK244.out 6; have hfz11_7 := blk_frozen BK244.out 7; have hfz11_8 := blk_frozen BK244.out 8; have hfz11_9 := blk_frozen BK244.out 9) | ((with_reducible refine gate_dst (N := 36) rfl ?_); refine Kd.R_lit (Kd.int .u64) _ 23 ?hg (N := 36) ?hd (xs := ([IntKind.u64.wrap (a0_0), IntKind.u64.wrap ((l0_9.length : Int)), IntKind.u64.wrap (((rd_T47 l0_9 (ji3)).f1) - 1), IntKind.u64.wrap ((IntKind.u64.wrap (((rd_T47 l0_9 (ji3)).f1) - ((rd_T47 l0_9 (ji3)).f0))) - 1)] : List Int)) (inner := [.int .u64 (IntKind.u64.wrap (a0_0)), .int .u64 (IntKind.u64.wrap ((l0_9.length : Int))), .int .u64 (IntKind.u64.wrap (((rd_T47 l0_9 (ji3)).f1) - 1)), .int .u64 (IntKind.u64.wrap ((IntKind.u64.wrap (((rd_T47 l0_9 (ji3)).f1) - ((rd_T47 l0_9 (ji3)).f0))) - 1))]) (ok := fun _ => True) (okp := fun _ => True) ?hr ?hp (fun _ hk => hk) trivial (Below.refl _ _) (Nat.le_refl _) (by simp) ?_; (case hd => rfl); (case hg => rfl); (case hr => first | (go_simp; done) | (go_simp; rfl)); (case hp => exact (Reps.one (show Kd.M (Kd.int .u64) _ _ _ (IntKind.u64.wrap (a0_0)) [.int .u64 (IntKind.u64.wrap (a0_0))] from rfl) (Reps.one (show Kd.M (Kd.int .u64) _ _ _ (IntKind.u64.wrap ((l0_9.length : Int))) [.int .u64 (IntKind.u64.wrap ((l0_9.length : Int)))] from rfl) (Reps.one (show Kd.M (Kd.int .u64) _ _ _ (IntKind.u64.wrap (((rd_T47 l0_9 (ji3)).f1) - 1)) [.int .u64 (IntKind.u64.wrap (((rd_T47 l0_9 (ji3)).f1) - 1))] from rfl) (Reps.one (show Kd.M (Kd.int .u64) _ _ _ (IntKind.u64.wrap ((IntKind.u64.wrap (((rd_T47 l0_9 (ji3)).f1) - ((rd_T47 l0_9 (ji3)).f0))) - 1)) [.int .u64 (IntKind.u64.wrap ((IntKind.u64.wrap (((rd_T47 l0_9 (ji3)).f1) - ((rd_T47 l0_9 (ji3)).f0))) - 1))] from rfl) (Reps.none _ _)))))); intro v248 w12 ho13 hb hg_ hnew_; clear hg_ hnew_; (first | rw [← Ny247.out] at ho13 | (simp only [Int.reduceToNat] at ho13; rw [← Ny247.out] at ho13)); have n0_ := Aside0.mk (Kd.R_lower ho13 (below_size (by repeat (first | (with_reducible first | exact HB.out | apply below_alloc | apply pw_below_drewN | apply below_drew1 | refine below_set ?_ GE244.out | refine below_set ?_ GE246.out) | exact HB.out)))); have n1_ := Aside0.mk (blk_below (g := gb244) (o := .cells #[.int .i64 a0_0, .int .u64 a0_1, .int .u64 a0_2, .int .u64 a0_3, .int .u64 a0_4, .int .u64 a0_5, .int .u64 a0_6, .bool a0_7, .slice A0_8 l0_8.length c0_8, .slice (some ad245) l0_9.length c0_9] 27 (0, 0)) (by (with_reducible repeat (first | refine blk_drewN ?_ _ | refine blk_drew ?_ | refine blk_alloc ?_ _)); refine blk_far ?_ NB244_246.out _; (with_reducible repeat (first | refine blk_drewN ?_ _ | refine blk_drew ?_ | refine blk_alloc ?_ _)); refine blk_far ?_ NB244_246.out _; (with_reducible repeat (first | refine blk_drewN ?_ _ | refine blk_drew ?_ | refine blk_alloc ?_ _)); exact BK244.out) hb); have n2_ := Aside0.mk (blk_below (g := gb246) (o := .cells #[.int .u64 ((rd_T47 l0_9 (ji3)).f0), .int .u64 ((rd_T47 l0_9 (ji3)).f1)] 47 (0, 0)) (by (with_reducible repeat (first | refine blk_drewN ?_ _ | refine blk_drew ?_ | refine blk_alloc ?_ _)); refine blk_put (cs := #[.int .u64 ((rd_T47 l0_9 (ji3)).f0), .int .u64 0]) ?_ 1 _ rfl; (with_reducible repeat (first | refine blk_drewN ?_ _ | refine blk_drew ?_ | refine blk_alloc ?_ _)); refine blk_put (cs := #[.int .u64 0, .int .u64 0]) ?_ 0 _ rfl; (with_reducible repeat (first | refine blk_drewN ?_ _ | refine blk_drew ?_ | refine blk_alloc ?_ _)); exact BK246.out) hb); have n3_ := Aside0.mk (below_step (by repeat (first | (with_reducible first | exact HB.out | apply below_alloc | apply pw_below_drewN | apply below_drew1 | refine below_set ?_ GE244.out | refine below_set ?_ GE246.out) | exact HB.out)) hb); clear BK244; clear BK246; clear HB; have HO249 := n0_; have BK244 := n1_; have BK246 := n2_; have HB := n3_; clear n0_ n1_ n2_ n3_; clear hb ho13))
        go_loopg [5, 6] k (fun kq v5 v6 w' => ∃ (x5_1 : List Int) (x6_1 : Int), v6 = .int .i64 x6_1 ∧ Aside0 (wigwagref05_laid.l0 kq x5_1 x6_1 a0_0 a0_1 a0_2 a0_3 a0_4 a0_5 a0_6 a0_7 l0_8 l0_9 = some r) ∧ Aside0 (kq ≤ k) ∧ Aside0 (Kd.R (Kd.int .u64) 23 w' w.heap.size (fun _ => True) v5 x5_1) ∧ Aside0 (w'.heap[gb244]? = some (.cells #[.int .i64 a0_0, .int .u64 a0_1, .int .u64 a0_2, .int .u64 a0_3, .int .u64 a0_4, .int .u64 a0_5, .int .u64 a0_6, .bool a0_7, (.slice A0_8 l0_8.length c0_8), (.slice (some ad245) l0_9.length c0_9)] 27 (0, 0))) ∧ Aside0 (w'.heap[gb246]? = some (.cells #[.int .u64 ((rd_T47 l0_9 (ji3)).f0), .int .u64 ((rd_T47 l0_9 (ji3)).f1)] 47 (0, 0))) ∧ Aside0 (Below w.heap.size w w'))
        case atStart => exact ⟨(y247), (wrap64 ((l0_9.length : Int) - 2)), (by first | rfl | (simp; done) | (simp [*]; done)), H', ⟨Nat.le_refl _⟩, ⟨by (with_reducible repeat (first | apply Kd.R_alloc | apply Kd.R_drewN | apply Kd.R_drew)); exact HO249.out⟩, ⟨by (with_reducible repeat (first | refine blk_drewN ?_ _ | refine blk_drew ?_ | refine blk_alloc ?_ _)); exact BK244.out⟩, ⟨by (with_reducible repeat (first | refine blk_drewN ?_ _ | refine blk_drew ?_ | refine blk_alloc ?_ _)); exact BK246.out⟩, ⟨by repeat (first | (with_reducible first | exact HB.out | apply below_alloc | apply pw_below_drewN | apply below_drew1 | refine below_set ?_ GE244.out | refine below_set ?_ GE246.out) | exact HB.out)⟩⟩
        case round =>
          clear H'
          try clear c2
          try clear c2b0
          try clear c2b1
          try clear p2
          try clear q2
          try clear hx2
          try clear c4
          try clear c4b0
          try clear c5
          try clear c5b0
          try clear p6
          try clear c9
          try clear hcz10_0
          try clear hcz10_1
          try clear hcz11_0
          try clear hcz11_1
          try clear hcz11_2
          try clear hcz11_3
          try clear hcz11_4
          try clear hcz11_5
          try clear hcz11_6
          try clear hcz11_7
          try clear hcz11_8
          try clear hcz11_9
          try clear hcz7_0
          try clear hcz7_1
          try clear hcz7_2
          try clear hcz7_3
          try clear hcz7_4
          try clear hcz7_5
          try clear hcz7_6
          try clear hcz7_7
          try clear hcz7_8
          try clear hcz7_9
          try clear hfz10_0
          try clear hfz10_1
          try clear hfz11_0
          try clear hfz11_1
          try clear hfz11_2
          try clear hfz11_3
          try clear hfz11_4
          try clear hfz11_5
          try clear hfz11_6
          try clear hfz11_7
          try clear hfz11_8
          try clear hfz11_9
          try clear hfz7_0
          try clear hfz7_1
          try clear hfz7_2
          try clear hfz7_3
          try clear hfz7_4
          try clear hfz7_5
          try clear hfz7_6
          try clear hfz7_7
          try clear hfz7_8
          try clear hfz7_9
          try clear hx245_0
          try clear hx245_1
          try clear p245
          try clear q245
          obtain ⟨x5_1, x6_1, rfl, HA, HK1, HO_5, BK244, BK246, HB⟩ := hrel
          cases gk with
          | zero => exact absurd HA.out (by simp [wigwagref05_laid.l0])
          | succ k1 =>
            have H := HA.out
            clear HA
            simp only [wigwagref05_laid.l0] at H
            by_cases c14 : x6_1 ≥ 0
            · rw [if_pos c14] at H
              have c14b0 : decide (0 ≤ x6_1) = true := decide_eq_true c14
              clear c14
              obtain ⟨ji15, hji15⟩ : ∃ j_ : Int, (wrap64 (x6_1 + 1)) = j_ := ⟨_, rfl⟩
              replace H : (if 0 ≤ (ji15) then (if (ji15) < (l0_9.length : Int) then (if 0 ≤ x6_1 then (if x6_1 < (l0_9.length : Int) then ((some (([IntKind.u64.wrap ((IntKind.u64.wrap (((rd_T47 l0_9 (ji15)).f0) - ((rd_T47 l0_9 x6_1).f1))) - 1), IntKind.u64.wrap ((IntKind.u64.wrap (((rd_T47 l0_9 x6_1).f1) - ((rd_T47 l0_9 x6_1).f0))) - 1)] : List Int) : List Int)).bind fun y254 => (if x5_1.length + y254.length < 17592186044416 then (wigwagref05_laid.l0 k1 (x5_1 ++ y254) (wrap64 (x6_1 - 1)) a0_0 a0_1 a0_2 a0_3 a0_4 a0_5 a0_6 a0_7 l0_8 l0_9) else (none))) else (none)) else (none)) else (none)) else (none)) = some r := by first | (rw [hji15] at H; exact H) | (simp only [hji15] at H ⊢; exact H)
              have hji15w : (IntKind.i64.wrap (x6_1 + 1)) = ji15 := (i64_w _).trans hji15
              by_cases c16 : 0 ≤ (ji15)
              · rw [if_pos c16] at H
                have c16b0 : decide (0 ≤ (ji15)) = true := decide_eq_true c16
                clear c16
                by_cases c17 : (ji15) < (l0_9.length : Int)
                · rw [if_pos c17] at H
                  have c17b0 : decide ((ji15) < (l0_9.length : Int)) = true := decide_eq_true c17
                  clear c17
                  by_cases c18 : 0 ≤ x6_1
                  · rw [if_pos c18] at H
                    have c18b0 : decide (0 ≤ x6_1) = true := decide_eq_true c18
                    clear c18
                    by_cases c19 : x6_1 < (l0_9.length : Int)
                    · rw [if_pos c19] at H
                      have c19b0 : decide (x6_1 < (l0_9.length : Int)) = true := decide_eq_true c19
                      clear c19
                      obtain ⟨y254, hy254⟩ : ∃ y_ : List Int, y_ = (([IntKind.u64.wrap ((IntKind.u64.wrap (((rd_T47 l0_9 (ji15)).f0) - ((rd_T47 l0_9 x6_1).f1))) - 1), IntKind.u64.wrap ((IntKind.u64.wrap (((rd_T47 l0_9 x6_1).f1) - ((rd_T47 l0_9 x6_1).f0))) - 1)] : List Int)) := ⟨_, rfl⟩
                      replace H : (if x5_1.length + y254.length < 17592186044416 then (wigwagref05_laid.l0 k1 (x5_1 ++ y254) (wrap64 (x6_1 - 1)) a0_0 a0_1 a0_2 a0_3 a0_4 a0_5 a0_6 a0_7 l0_8 l0_9) else (none)) = some r := by first | (rw [hy254]; with_reducible exact H) | (have H2_ := (Option.bind_some _ _).symm.trans H; rw [hy254]; with_reducible exact H2_) | (have H2_ := (Option.bind_some _ _).symm.trans H; with_reducible exact H2_) | with_reducible exact H | (rw [hy254]; exact H) | exact H
                      have Ny254 := Aside0.mk hy254
                      clear hy254
                      by_cases c20 : x5_1.length + y254.length < 17592186044416
                      · rw [if_pos c20] at H
                        have LMc20 := Aside0.mk c20
                        clear c20
                        obtain ⟨y257, hy257⟩ : ∃ y_ : List Int, y_ = (x5_1 ++ y254) := ⟨_, rfl⟩
                        replace H : (wigwagref05_laid.l0 k1 y257 (wrap64 (x6_1 - 1)) a0_0 a0_1 a0_2 a0_3 a0_4 a0_5 a0_6 a0_7 l0_8 l0_9) = some r := by first | (rw [hy257]; with_reducible exact H) | (have H2_ := (Option.bind_some _ _).symm.trans H; rw [hy257]; with_reducible exact H2_) | (have H2_ := (Option.bind_some _ _).symm.trans H; with_reducible exact H2_) | with_reducible exact H | (rw [hy257]; exact H) | exact H
                        have Ny257 := Aside0.mk hy257
                        clear hy257
                        have H' := Aside0.mk H
                        clear H
                        try go_wp2
                        have n0_ := Aside0.mk (Kd.R_drew HO_5.out)
                        have n1_ := Aside0.mk (blk_drew BK244.out)
                        have n2_ := Aside0.mk (blk_drew BK246.out)
                        have n3_ := Aside0.mk (below_drew1 HB.out)
                        clear HO_5
                        clear BK244
                        clear BK246
                        clear HB
                        have HO_5 := n0_
                        have BK244 := n1_
                        have BK246 := n2_
                        have HB := n3_
                        clear n0_ n1_ n2_ n3_
                        have p250 : 0 ≤ ((ji15) : Int) := of_decide_eq_true (by first | (with_reducible assumption) | assumption)
                        have q250 : (ji15) < (l0_9.length : Int) := of_decide_eq_true (by first | (with_reducible assumption) | assumption)
                        obtain ⟨ad250, e250, hx250_0, hx250_1⟩ := at_T47 HR0_9.out (ji15) p250 q250
                        have hw250_1 := hx250_1
                        have hw250_0 := hx250_0
                        obtain rfl : ad245 = ad250 := (by injection e250)
                        replace hx250_0 := (HB.out.cell (World.block_lt_of_cell? w _ hx250_0)).trans hx250_0
                        replace hx250_1 := (HB.out.cell (World.block_lt_of_cell? w _ hx250_1)).trans hx250_1
                        replace p250 := eq_true p250
                        replace q250 := eq_true q250
                        have p251 : 0 ≤ (x6_1 : Int) := of_decide_eq_true (by first | (with_reducible assumption) | assumption)
                        have q251 : x6_1 < (l0_9.length : Int) := of_decide_eq_true (by first | (with_reducible assumption) | assumption)
                        obtain ⟨ad251, e251, hx251_0, hx251_1⟩ := at_T47 HR0_9.out x6_1 p251 q251
                        have hw251_1 := hx251_1
                        have hw251_0 := hx251_0
                        obtain rfl : ad245 = ad251 := (by injection e251)
                        replace hx251_0 := (HB.out.cell (World.block_lt_of_cell? w _ hx251_0)).trans hx251_0
                        replace hx251_1 := (HB.out.cell (World.block_lt_of_cell? w _ hx251_1)).trans hx251_1
                        replace p251 := eq_true p251
                        replace q251 := eq_true q251
                        have p252 : 0 ≤ (x6_1 : Int) := of_decide_eq_true (by first | (with_reducible assumption) | assumption)
                        have q252 : x6_1 < (l0_9.length : Int) := of_decide_eq_true (by first | (with_reducible assumption) | assumption)
                        obtain ⟨ad252, e252, hx252_0, hx252_1⟩ := at_T47 HR0_9.out x6_1 p252 q252
                        have hw252_1 := hx252_1
                        have hw252_0 := hx252_0
                        obtain rfl : ad245 = ad252 := (by injection e252)
                        replace hx252_0 := (HB.out.cell (World.block_lt_of_cell? w _ hx252_0)).trans hx252_0
                        replace hx252_1 := (HB.out.cell (World.block_lt_of_cell? w _ hx252_1)).trans hx252_1
                        replace p252 := eq_true p252
                        replace q252 := eq_true q252
                        have p253 : 0 ≤ (x6_1 : Int) := of_decide_eq_true (by first | (with_reducible assumption) | assumption)
                        have q253 : x6_1 < (l0_9.length : Int) := of_decide_eq_true (by first | (with_reducible assumption) | assumption)
                        obtain ⟨ad253, e253, hx253_0, hx253_1⟩ := at_T47 HR0_9.out x6_1 p253 q253
                        have hw253_1 := hx253_1
                        have hw253_0 := hx253_0
                        obtain rfl : ad245 = ad253 := (by injection e253)
                        replace hx253_0 := (HB.out.cell (World.block_lt_of_cell? w _ hx253_0)).trans hx253_0
                        replace hx253_1 := (HB.out.cell (World.block_lt_of_cell? w _ hx253_1)).trans hx253_1
                        replace p253 := eq_true p253
                        replace q253 := eq_true q253
                        refine start_ (n := 33) (S := fun w' => w'.cell? ⟨gb244, 0, none⟩ = some (.int .i64 a0_0) ∧ w'.cell? ⟨gb244, 1, none⟩ = some (.int .u64 a0_1) ∧ w'.cell? ⟨gb244, 2, none⟩ = some (.int .u64 a0_2) ∧ w'.cell? ⟨gb244, 3, none⟩ = some (.int .u64 a0_3) ∧ w'.cell? ⟨gb244, 4, none⟩ = some (.int .u64 a0_4) ∧ w'.cell? ⟨gb244, 5, none⟩ = some (.int .u64 a0_5) ∧ w'.cell? ⟨gb244, 6, none⟩ = some (.int .u64 a0_6) ∧ w'.cell? ⟨gb244, 7, none⟩ = some (.bool a0_7) ∧ w'.cell? ⟨gb244, 8, none⟩ = some (.slice A0_8 l0_8.length c0_8) ∧ w'.cell? ⟨gb244, 9, none⟩ = some (.slice (some ad245) l0_9.length c0_9) ∧ w'.cell? (ad245.add (((ji15)).toNat * 2)) = some (.int .u64 ((rd_T47 l0_9 (ji15)).f0)) ∧ w'.cell? ⟨(ad245.add (((ji15)).toNat * 2)).block, (ad245.add (((ji15)).toNat * 2)).off + 1, none⟩ = some (.int .u64 ((rd_T47 l0_9 (ji15)).f1)) ∧ w'.cell? (ad245.add ((x6_1).toNat * 2)) = some (.int .u64 ((rd_T47 l0_9 x6_1).f0)) ∧ w'.cell? ⟨(ad245.add ((x6_1).toNat * 2)).block, (ad245.add ((x6_1).toNat * 2)).off + 1, none⟩ = some (.int .u64 ((rd_T47 l0_9 x6_1).f1)) ∧ w'.cell? (ad245.add ((x6_1).toNat * 2)) = some (.int .u64 ((rd_T47 l0_9 x6_1).f0)) ∧ w'.cell? ⟨(ad245.add ((x6_1).toNat * 2)).block, (ad245.add ((x6_1).toNat * 2)).off + 1, none⟩ = some (.int .u64 ((rd_T47 l0_9 x6_1).f1)) ∧ w'.cell? (ad245.add ((x6_1).toNat * 2)) = some (.int .u64 ((rd_T47 l0_9 x6_1).f0)) ∧ w'.cell? ⟨(ad245.add ((x6_1).toNat * 2)).block, (ad245.add ((x6_1).toNat * 2)).off + 1, none⟩ = some (.int .u64 ((rd_T47 l0_9 x6_1).f1))) (ds := []) #[false, false, false, false, false, false, false, false, false, false, false, false, false, false, false, false, false, false, false, false, false, false, false, false, false, false, false, false, false, false, false, false, false] (by kernel_rfl) rfl rfl ⟨(blk_cell BK244.out 0).trans rfl, (blk_cell BK244.out 1).trans rfl, (blk_cell BK244.out 2).trans rfl, (blk_cell BK244.out 3).trans rfl, (blk_cell BK244.out 4).trans rfl, (blk_cell BK244.out 5).trans rfl, (blk_cell BK244.out 6).trans rfl, (blk_cell BK244.out 7).trans rfl, (blk_cell BK244.out 8).trans rfl, (blk_cell BK244.out 9).trans rfl, ((HB.out.cell (World.block_lt_of_cell? w _ hw250_0)).trans hw250_0), ((HB.out.cell (World.block_lt_of_cell? w _ hw250_1)).trans hw250_1), ((HB.out.cell (World.block_lt_of_cell? w _ hw251_0)).trans hw251_0), ((HB.out.cell (World.block_lt_of_cell? w _ hw251_1)).trans hw251_1), ((HB.out.cell (World.block_lt_of_cell? w _ hw252_0)).trans hw252_0), ((HB.out.cell (World.block_lt_of_cell? w _ hw252_1)).trans hw252_1), ((HB.out.cell (World.block_lt_of_cell? w _ hw253_0)).trans hw253_0), ((HB.out.cell (World.block_lt_of_cell? w _ hw253_1)).trans hw253_1)⟩ (fun hHeld => ?_); refine with_tabW wigwagref05_laid.tab10 wigwagref05_laid.bits10 (fun HT_ HW_ => ?_)
                        generalize wr.drew = w21 at HO_5 BK244 BK246 HB hx250_0 hx250_1 hx251_0 hx251_1 hx252_0 hx252_1 hx253_0 hx253_1 hHeld ⊢
                        refine pure_ (i := 0) (N := some 43) (v := ?_) (a' := ?_) #[true, false, false, false, false, false, false, false, false, false, false, false, false, false, false, false, false, false, false, false, false, false, false, false, false, false, false, false, false, false, false, false, false] rfl rfl (any_of HT_.out (by kernel_rfl)) (fun _ _ _ h => h) (Or.inl ⟨by rfl, ?_⟩) ?_ ?_
                        rotate_left
                        · intro w'
                          go_simp
                          with_reducible rfl
                        rotate_left
                        · simp only [Act.put, List.setIfInBounds_toArray, List.set_cons_zero, List.set_cons_succ, i64_w, i32_w]
                          rfl
                        refine pure_ (i := 1) (N := some 44) (v := ?_) (a' := ?_) #[true, true, false, false, false, false, false, false, false, false, false, false, false, false, false, false, false, false, false, false, false, false, false, false, false, false, false, false, false, false, false, false, false] rfl rfl (any_of HT_.out (by kernel_rfl)) (fun _ _ _ h => h) (Or.inl ⟨by rfl, ?_⟩) ?_ ?_
                        rotate_left
                        · intro w'
                          go_simp
                          with_reducible rfl
                        rotate_left
                        · simp only [Act.put, List.setIfInBounds_toArray, List.set_cons_zero, List.set_cons_succ, i64_w, i32_w]
                          rfl
                        refine pure_ (i := 3) (N := some 46) (v := ?_) (a' := ?_) #[true, true, false, true, false, false, false, false, false, false, false, false, false, false, false, false, false, false, false, false, false, false, false, false, false, false, false, false, false, false, false, false, false] rfl rfl (any_of HT_.out (by kernel_rfl)) (fun _ _ _ h => h) (Or.inl ⟨by rfl, ?_⟩) ?_ ?_
                        rotate_left
                        · intro w'
                          go_simp
                          with_reducible rfl
                        rotate_left
                        · simp only [Act.put, List.setIfInBounds_toArray, List.set_cons_zero, List.set_cons_succ, i64_w, i32_w]
                          rfl
                        refine pure_ (i := 4) (N := some 47) (v := ?_) (a' := ?_) #[true, true, false, true, true, false, false, false, false, false, false, false, false, false, false, false, false, false, false, false, false, false, false, false, false, false, false, false, false, false, false, false, false] rfl rfl (any_of HT_.out (by kernel_rfl)) (fun _ _ _ h => h) (Or.inl ⟨by rfl, ?_⟩) ?_ ?_
                        rotate_left
                        · intro w'
                          go_simp
                          with_reducible rfl
                        rotate_left
                        · simp only [Act.put, List.setIfInBounds_toArray, List.set_cons_zero, List.set_cons_succ, i64_w, i32_w]
                          rfl
                        refine pure_ (i := 8) (N := some 51) (v := ?_) (a' := ?_) #[true, true, false, true, true, false, false, false, true, false, false, false, false, false, false, false, false, false, false, false, false, false, false, false, false, false, false, false, false, false, false, false, false] rfl rfl (any_of HT_.out (by kernel_rfl)) (fun _ _ _ h => h) (Or.inl ⟨by rfl, ?_⟩) ?_ ?_
                        rotate_left
                        · intro w'
                          go_simp
                          with_reducible rfl
                        rotate_left
                        · simp only [Act.put, List.setIfInBounds_toArray, List.set_cons_zero, List.set_cons_succ, i64_w, i32_w]
                          rfl
                        refine pure_ (i := 10) (N := some 53) (v := ?_) (a' := ?_) #[true, true, false, true, true, false, false, false, true, false, true, false, false, false, false, false, false, false, false, false, false, false, false, false, false, false, false, false, false, false, false, false, false] rfl rfl (any_of HT_.out (by kernel_rfl)) (fun _ _ _ h => h) (Or.inl ⟨by rfl, ?_⟩) ?_ ?_
                        rotate_left
                        · intro w'
                          go_simp
                          with_reducible rfl
                        rotate_left
                        · simp only [Act.put, List.setIfInBounds_toArray, List.set_cons_zero, List.set_cons_succ, i64_w, i32_w]
                          rfl
                        refine pure_ (i := 16) (N := some 59) (v := ?_) (a' := ?_) #[true, true, false, true, true, false, false, false, true, false, true, false, false, false, false, false, true, false, false, false, false, false, false, false, false, false, false, false, false, false, false, false, false] rfl rfl (any_of HT_.out (by kernel_rfl)) (fun _ _ _ h => h) (Or.inl ⟨by rfl, ?_⟩) ?_ ?_
                        rotate_left
                        · intro w'
                          go_simp
                          with_reducible rfl
                        rotate_left
                        · simp only [Act.put, List.setIfInBounds_toArray, List.set_cons_zero, List.set_cons_succ, i64_w, i32_w]
                          rfl
                        refine pure_ (i := 18) (N := some 61) (v := ?_) (a' := ?_) #[true, true, false, true, true, false, false, false, true, false, true, false, false, false, false, false, true, false, true, false, false, false, false, false, false, false, false, false, false, false, false, false, false] rfl rfl (any_of HT_.out (by kernel_rfl)) (fun _ _ _ h => h) (Or.inl ⟨by rfl, ?_⟩) ?_ ?_
                        rotate_left
                        · intro w'
                          go_simp
                          with_reducible rfl
                        rotate_left
                        · simp only [Act.put, List.setIfInBounds_toArray, List.set_cons_zero, List.set_cons_succ, i64_w, i32_w]
                          rfl
                        refine pure_ (i := 22) (N := some 65) (v := ?_) (a' := ?_) #[true, true, false, true, true, false, false, false, true, false, true, false, false, false, false, false, true, false, true, false, false, false, true, false, false, false, false, false, false, false, false, false, false] rfl rfl (any_of HT_.out (by kernel_rfl)) (fun _ _ _ h => h) (Or.inl ⟨by rfl, ?_⟩) ?_ ?_
                        rotate_left
                        · intro w'
                          go_simp
                          with_reducible rfl
                        rotate_left
                        · simp only [Act.put, List.setIfInBounds_toArray, List.set_cons_zero, List.set_cons_succ, i64_w, i32_w]
                          rfl
                        refine pure_ (i := 24) (N := some 67) (v := ?_) (a' := ?_) #[true, true, false, true, true, false, false, false, true, false, true, false, false, false, false, false, true, false, true, false, false, false, true, false, true, false, false, false, false, false, false, false, false] rfl rfl (any_of HT_.out (by kernel_rfl)) (fun _ _ _ h => h) (Or.inl ⟨by rfl, ?_⟩) ?_ ?_
                        rotate_left
                        · intro w'
                          go_simp
                          with_reducible rfl
                        rotate_left
                        · simp only [Act.put, List.setIfInBounds_toArray, List.set_cons_zero, List.set_cons_succ, i64_w, i32_w]
                          rfl
                        refine take_ (i := 2) (N := some 45) (v := ?_) (a' := ?_) #[true, true, true, true, true, false, false, false, true, false, true, false, false, false, false, false, true, false, true, false, false, false, true, false, true, false, false, false, false, false, false, false, false] rfl rfl (take_ofW HT_.out HW_.out (by kernel_rfl)) (fun _ _ _ h => h) (Or.inl ⟨by rfl, ?_⟩) hHeld ?_ ?_
                        rotate_left
                        · rintro w' ⟨s0, s1, s2, s3, s4, s5, s6, s7, s8, s9, s10, s11, s12, s13, s14, s15, s16, s17⟩
                          go_simp
                          with_reducible rfl
                        rotate_left
                        · simp only [Act.put, List.setIfInBounds_toArray, List.set_cons_zero, List.set_cons_succ, i64_w, i32_w]
                          rfl
                        refine pure_ (i := 5) (N := some 48) (v := ?_) (a' := ?_) #[true, true, true, true, true, true, false, false, true, false, true, false, false, false, false, false, true, false, true, false, false, false, true, false, true, false, false, false, false, false, false, false, false] rfl rfl (any_of HT_.out (by kernel_rfl)) (fun _ _ _ h => h) (Or.inl ⟨by rfl, ?_⟩) ?_ ?_
                        rotate_left
                        · intro w'
                          go_simp
                          with_reducible rfl
                        rotate_left
                        · simp only [Act.put, List.setIfInBounds_toArray, List.set_cons_zero, List.set_cons_succ, i64_w, i32_w]
                          rfl
                        refine pure_ (i := 6) (N := some 49) (v := ?_) (a' := ?_) #[true, true, true, true, true, true, true, false, true, false, true, false, false, false, false, false, true, false, true, false, false, false, true, false, true, false, false, false, false, false, false, false, false] rfl rfl (any_of HT_.out (by kernel_rfl)) (fun _ _ _ h => h) (Or.inl ⟨by rfl, ?_⟩) ?_ ?_
                        rotate_left
                        · intro w'
                          go_simp
                          with_reducible rfl
                        rotate_left
                        · simp only [Act.put, List.setIfInBounds_toArray, List.set_cons_zero, List.set_cons_succ, i64_w, i32_w]
                          rfl
                        refine take_ (i := 7) (N := some 50) (v := ?_) (a' := ?_) #[true, true, true, true, true, true, true, true, true, false, true, false, false, false, false, false, true, false, true, false, false, false, true, false, true, false, false, false, false, false, false, false, false] rfl rfl (take_ofW HT_.out HW_.out (by kernel_rfl)) (fun _ _ _ h => h) (Or.inl ⟨by rfl, ?_⟩) hHeld ?_ ?_
                        rotate_left
                        · rintro w' ⟨s0, s1, s2, s3, s4, s5, s6, s7, s8, s9, s10, s11, s12, s13, s14, s15, s16, s17⟩
                          go_simp
                          with_reducible rfl
                        rotate_left
                        · simp only [Act.put, List.setIfInBounds_toArray, List.set_cons_zero, List.set_cons_succ, i64_w, i32_w]
                          rfl
                        refine take_ (i := 9) (N := some 52) (v := ?_) (a' := ?_) #[true, true, true, true, true, true, true, true, true, true, true, false, false, false, false, false, true, false, true, false, false, false, true, false, true, false, false, false, false, false, false, false, false] rfl rfl (take_ofW HT_.out HW_.out (by kernel_rfl)) (fun _ _ _ h => h) (Or.inl ⟨by rfl, ?_⟩) hHeld ?_ ?_
                        rotate_left
                        · rintro w' ⟨s0, s1, s2, s3, s4, s5, s6, s7, s8, s9, s10, s11, s12, s13, s14, s15, s16, s17⟩
                          go_simp
                          with_reducible rfl
                        rotate_left
                        · simp only [Act.put, List.setIfInBounds_toArray, List.set_cons_zero, List.set_cons_succ, i64_w, i32_w]
                          rfl
                        refine pure_ (i := 11) (N := some 54) (v := ?_) (a' := ?_) #[true, true, true, true, true, true, true, true, true, true, true, true, false, false, false, false, true, false, true, false, false, false, true, false, true, false, false, false, false, false, false, false, false] rfl rfl (any_of HT_.out (by kernel_rfl)) (fun _ _ _ h => h) (Or.inl ⟨by rfl, ?_⟩) ?_ ?_
                        rotate_left
                        · intro w'
                          go_simp
                          with_reducible rfl
                        rotate_left
                        · simp only [Act.put, List.setIfInBounds_toArray, List.set_cons_zero, List.set_cons_succ, i64_w, i32_w]
                          rfl
                        refine pure_ (i := 12) (N := some 55) (v := ?_) (a' := ?_) #[true, true, true, true, true, true, true, true, true, true, true, true, true, false, false, false, true, false, true, false, false, false, true, false, true, false, false, false, false, false, false, false, false] rfl rfl (any_of HT_.out (by kernel_rfl)) (fun _ _ _ h => h) (Or.inl ⟨by rfl, ?_⟩) ?_ ?_
                        rotate_left
                        · intro w'
                          go_simp
                          with_reducible rfl
                        rotate_left
                        · simp only [Act.put, List.setIfInBounds_toArray, List.set_cons_zero, List.set_cons_succ, i64_w, i32_w]
                          rfl
                        refine take_ (i := 13) (N := some 56) (v := ?_) (a' := ?_) #[true, true, true, true, true, true, true, true, true, true, true, true, true, true, false, false, true, false, true, false, false, false, true, false, true, false, false, false, false, false, false, false, false] rfl rfl (take_ofW HT_.out HW_.out (by kernel_rfl)) (fun _ _ _ h => h) (Or.inl ⟨by rfl, ?_⟩) hHeld ?_ ?_
                        rotate_left
                        · rintro w' ⟨s0, s1, s2, s3, s4, s5, s6, s7, s8, s9, s10, s11, s12, s13, s14, s15, s16, s17⟩
                          go_simp
                          with_reducible rfl
                        rotate_left
                        · simp only [Act.put, List.setIfInBounds_toArray, List.set_cons_zero, List.set_cons_succ, i64_w, i32_w]
                          rfl
                        refine pure_ (i := 14) (N := some 57) (v := ?_) (a' := ?_) #[true, true, true, true, true, true, true, true, true, true, true, true, true, true, true, false, true, false, true, false, false, false, true, false, true, false, false, false, false, false, false, false, false] rfl rfl (any_of HT_.out (by kernel_rfl)) (fun _ _ _ h => h) (Or.inl ⟨by rfl, ?_⟩) ?_ ?_
                        rotate_left
                        · intro w'
                          go_simp
                          with_reducible rfl
                        rotate_left
                        · simp only [Act.put, List.setIfInBounds_toArray, List.set_cons_zero, List.set_cons_succ, i64_w, i32_w]
                          rfl
                        refine pure_ (i := 15) (N := some 58) (v := ?_) (a' := ?_) #[true, true, true, true, true, true, true, true, true, true, true, true, true, true, true, true, true, false, true, false, false, false, true, false, true, false, false, false, false, false, false, false, false] rfl rfl (any_of HT_.out (by kernel_rfl)) (fun _ _ _ h => h) (Or.inl ⟨by rfl, ?_⟩) ?_ ?_
                        rotate_left
                        · intro w'
                          go_simp
                          with_reducible rfl
                        rotate_left
                        · simp only [Act.put, List.setIfInBounds_toArray, List.set_cons_zero, List.set_cons_succ, i64_w, i32_w]
                          rfl
                        refine take_ (i := 17) (N := some 60) (v := ?_) (a' := ?_) #[true, true, true, true, true, true, true, true, true, true, true, true, true, true, true, true, true, true, true, false, false, false, true, false, true, false, false, false, false, false, false, false, false] rfl rfl (take_ofW HT_.out HW_.out (by kernel_rfl)) (fun _ _ _ h => h) (Or.inl ⟨by rfl, ?_⟩) hHeld ?_ ?_
                        rotate_left
                        · rintro w' ⟨s0, s1, s2, s3, s4, s5, s6, s7, s8, s9, s10, s11, s12, s13, s14, s15, s16, s17⟩
                          go_simp
                          with_reducible rfl
                        rotate_left
                        · simp only [Act.put, List.setIfInBounds_toArray, List.set_cons_zero, List.set_cons_succ, i64_w, i32_w]
                          rfl
                        refine pure_ (i := 19) (N := some 62) (v := ?_) (a' := ?_) #[true, true, true, true, true, true, true, true, true, true, true, true, true, true, true, true, true, true, true, true, false, false, true, false, true, false, false, false, false, false, false, false, false] rfl rfl (any_of HT_.out (by kernel_rfl)) (fun _ _ _ h => h) (Or.inl ⟨by rfl, ?_⟩) ?_ ?_
                        rotate_left
                        · intro w'
                          go_simp
                          with_reducible rfl
                        rotate_left
                        · simp only [Act.put, List.setIfInBounds_toArray, List.set_cons_zero, List.set_cons_succ, i64_w, i32_w]
                          rfl
                        refine pure_ (i := 20) (N := some 63) (v := ?_) (a' := ?_) #[true, true, true, true, true, true, true, true, true, true, true, true, true, true, true, true, true, true, true, true, true, false, true, false, true, false, false, false, false, false, false, false, false] rfl rfl (any_of HT_.out (by kernel_rfl)) (fun _ _ _ h => h) (Or.inl ⟨by rfl, ?_⟩) ?_ ?_
                        rotate_left
                        · intro w'
                          go_simp
                          with_reducible rfl
                        rotate_left
                        · simp only [Act.put, List.setIfInBounds_toArray, List.set_cons_zero, List.set_cons_succ, i64_w, i32_w]
                          rfl
                        refine take_ (i := 21) (N := some 64) (v := ?_) (a' := ?_) #[true, true, true, true, true, true, true, true, true, true, true, true, true, true, true, true, true, true, true, true, true, true, true, false, true, false, false, false, false, false, false, false, false] rfl rfl (take_ofW HT_.out HW_.out (by kernel_rfl)) (fun _ _ _ h => h) (Or.inl ⟨by rfl, ?_⟩) hHeld ?_ ?_
                        rotate_left
                        · rintro w' ⟨s0, s1, s2, s3, s4, s5, s6, s7, s8, s9, s10, s11, s12, s13, s14, s15, s16, s17⟩
                          go_simp
                          with_reducible rfl
                        rotate_left
                        · simp only [Act.put, List.setIfInBounds_toArray, List.set_cons_zero, List.set_cons_succ, i64_w, i32_w]
                          rfl
                        refine take_ (i := 23) (N := some 66) (v := ?_) (a' := ?_) #[true, true, true, true, true, true, true, true, true, true, true, true, true, true, true, true, true, true, true, true, true, true, true, true, true, false, false, false, false, false, false, false, false] rfl rfl (take_ofW HT_.out HW_.out (by kernel_rfl)) (fun _ _ _ h => h) (Or.inl ⟨by rfl, ?_⟩) hHeld ?_ ?_
                        rotate_left
                        · rintro w' ⟨s0, s1, s2, s3, s4, s5, s6, s7, s8, s9, s10, s11, s12, s13, s14, s15, s16, s17⟩
                          go_simp
                          with_reducible rfl
                        rotate_left
                        · simp only [Act.put, List.setIfInBounds_toArray, List.set_cons_zero, List.set_cons_succ, i64_w, i32_w]
                          rfl
                        refine pure_ (i := 25) (N := some 68) (v := ?_) (a' := ?_) #[true, true, true, true, true, true, true, true, true, true, true, true, true, true, true, true, true, true, true, true, true, true, true, true, true, true, false, false, false, false, false, false, false] rfl rfl (any_of HT_.out (by kernel_rfl)) (fun _ _ _ h => h) (Or.inl ⟨by rfl, ?_⟩) ?_ ?_
                        rotate_left
                        · intro w'
                          go_simp
                          with_reducible rfl
                        rotate_left
                        · simp only [Act.put, List.setIfInBounds_toArray, List.set_cons_zero, List.set_cons_succ, i64_w, i32_w]
                          rfl
                        refine pure_ (i := 26) (N := some 69) (v := ?_) (a' := ?_) #[true, true, true, true, true, true, true, true, true, true, true, true, true, true, true, true, true, true, true, true, true, true, true, true, true, true, true, false, false, false, false, false, false] rfl rfl (any_of HT_.out (by kernel_rfl)) (fun _ _ _ h => h) (Or.inl ⟨by rfl, ?_⟩) ?_ ?_
                        rotate_left
                        · intro w'
                          go_simp
                          with_reducible rfl
                        rotate_left
                        · simp only [Act.put, List.setIfInBounds_toArray, List.set_cons_zero, List.set_cons_succ, i64_w, i32_w]
                          rfl
                        refine take_ (i := 27) (N := some 70) (v := ?_) (a' := ?_) #[true, true, true, true, true, true, true, true, true, true, true, true, true, true, true, true, true, true, true, true, true, true, true, true, true, true, true, true, false, false, false, false, false] rfl rfl (take_ofW HT_.out HW_.out (by kernel_rfl)) (fun _ _ _ h => h) (Or.inl ⟨by rfl, ?_⟩) hHeld ?_ ?_
                        rotate_left
                        · rintro w' ⟨s0, s1, s2, s3, s4, s5, s6, s7, s8, s9, s10, s11, s12, s13, s14, s15, s16, s17⟩
                          go_simp
                          with_reducible rfl
                        rotate_left
                        · simp only [Act.put, List.setIfInBounds_toArray, List.set_cons_zero, List.set_cons_succ, i64_w, i32_w]
                          rfl
                        refine pure_ (i := 28) (N := some 71) (v := ?_) (a' := ?_) #[true, true, true, true, true, true, true, true, true, true, true, true, true, true, true, true, true, true, true, true, true, true, true, true, true, true, true, true, true, false, false, false, false] rfl rfl (any_of HT_.out (by kernel_rfl)) (fun _ _ _ h => h) (Or.inl ⟨by rfl, ?_⟩) ?_ ?_
                        rotate_left
                        · intro w'
                          go_simp
                          with_reducible rfl
                        rotate_left
                        · simp only [Act.put, List.setIfInBounds_toArray, List.set_cons_zero, List.set_cons_succ, i64_w, i32_w]
                          rfl
                        refine pure_ (i := 29) (N := some 72) (v := ?_) (a' := ?_) #[true, true, true, true, true, true, true, true, true, true, true, true, true, true, true, true, true, true, true, true, true, true, true, true, true, true, true, true, true, true, false, false, false] rfl rfl (any_of HT_.out (by kernel_rfl)) (fun _ _ _ h => h) (Or.inl ⟨by rfl, ?_⟩) ?_ ?_
                        rotate_left
                        · intro w'
                          go_simp
                          with_reducible rfl
                        rotate_left
                        · simp only [Act.put, List.setIfInBounds_toArray, List.set_cons_zero, List.set_cons_succ, i64_w, i32_w]
                          rfl
                        refine one_ (i := 30) (N := some 73) #[true, true, true, true, true, true, true, true, true, true, true, true, true, true, true, true, true, true, true, true, true, true, true, true, true, true, true, true, true, true, true, false, false] rfl rfl (one_of HT_.out (by kernel_rfl)) (by decide) (fun K hK => ?_)
                        refine Kd.R_lit_step (Kd.int .u64) _ 23 ?hg (N := 73) ?hd (xs := ([IntKind.u64.wrap ((IntKind.u64.wrap (((rd_T47 l0_9 (ji15)).f0) - ((rd_T47 l0_9 x6_1).f1))) - 1), IntKind.u64.wrap ((IntKind.u64.wrap (((rd_T47 l0_9 x6_1).f1) - ((rd_T47 l0_9 x6_1).f0))) - 1)] : List Int)) (inner := [.int .u64 (IntKind.u64.wrap ((IntKind.u64.wrap (((rd_T47 l0_9 (ji15)).f0) - ((rd_T47 l0_9 x6_1).f1))) - 1)), .int .u64 (IntKind.u64.wrap ((IntKind.u64.wrap (((rd_T47 l0_9 x6_1).f1) - ((rd_T47 l0_9 x6_1).f0))) - 1))]) (ok := fun _ => True) (okp := fun _ => True) ?hr ?hp (fun _ hk => hk) trivial (Below.refl _ _) (Nat.le_refl _) (by simp) ?_; (case hd => rfl); (case hg => rfl); (case hr => first | (go_simp; done) | (go_simp; rfl)); (case hp => exact (Reps.one (show Kd.M (Kd.int .u64) _ _ _ (IntKind.u64.wrap ((IntKind.u64.wrap (((rd_T47 l0_9 (ji15)).f0) - ((rd_T47 l0_9 x6_1).f1))) - 1)) [.int .u64 (IntKind.u64.wrap ((IntKind.u64.wrap (((rd_T47 l0_9 (ji15)).f0) - ((rd_T47 l0_9 x6_1).f1))) - 1))] from rfl) (Reps.one (show Kd.M (Kd.int .u64) _ _ _ (IntKind.u64.wrap ((IntKind.u64.wrap (((rd_T47 l0_9 x6_1).f1) - ((rd_T47 l0_9 x6_1).f0))) - 1)) [.int .u64 (IntKind.u64.wrap ((IntKind.u64.wrap (((rd_T47 l0_9 x6_1).f1) - ((rd_T47 l0_9 x6_1).f0))) - 1))] from rfl) (Reps.none _ _))))
                        intro v255 w22 ho23 hb hg_ hnew_
                        clear hg_ hnew_
                        (first | rw [← Ny254.out] at ho23 | (simp only [Int.reduceToNat] at ho23; rw [← Ny254.out] at ho23))
                        have n0_ := Aside0.mk (Kd.R_elder' (by (with_reducible repeat (first | apply Kd.R_alloc | apply Kd.R_drewN | apply Kd.R_drew)); exact HO_5.out) (Kd.R_base ho23) hb)
                        have n1_ := Aside0.mk (Kd.R_lower (Kd.R_new' ho23 (Kd.R_lt (by (with_reducible repeat (first | apply Kd.R_alloc | apply Kd.R_drewN | apply Kd.R_drew)); exact HO_5.out))) (below_size (by repeat (first | (with_reducible first | exact HB.out | apply below_alloc | apply pw_below_drewN | apply below_drew1 | refine below_set ?_ GE244.out | refine below_set ?_ GE246.out) | exact HB.out))))
                        have n2_ := Aside0.mk (blk_below (g := gb244) (o := .cells #[.int .i64 a0_0, .int .u64 a0_1, .int .u64 a0_2, .int .u64 a0_3, .int .u64 a0_4, .int .u64 a0_5, .int .u64 a0_6, .bool a0_7, .slice A0_8 l0_8.length c0_8, .slice (some ad245) l0_9.length c0_9] 27 (0, 0)) (by (with_reducible repeat (first | refine blk_drewN ?_ _ | refine blk_drew ?_ | refine blk_alloc ?_ _)); exact BK244.out) hb)
                        have n3_ := Aside0.mk (blk_below (g := gb246) (o := .cells #[.int .u64 ((rd_T47 l0_9 (ji3)).f0), .int .u64 ((rd_T47 l0_9 (ji3)).f1)] 47 (0, 0)) (by (with_reducible repeat (first | refine blk_drewN ?_ _ | refine blk_drew ?_ | refine blk_alloc ?_ _)); exact BK246.out) hb)
                        have n4_ := Aside0.mk (below_step (by repeat (first | (with_reducible first | exact HB.out | apply below_alloc | apply pw_below_drewN | apply below_drew1 | refine below_set ?_ GE244.out | refine below_set ?_ GE246.out) | exact HB.out)) hb)
                        clear HO_5
                        clear BK244
                        clear BK246
                        clear HB
                        have HO_5 := n0_
                        have HO256 := n1_
                        have BK244 := n2_
                        have BK246 := n3_
                        have HB := n4_
                        clear n0_ n1_ n2_ n3_ n4_
                        clear hb ho23
                        obtain ⟨Ao25, co25, eo25⟩ := Kd.R_slice HO256.out
                        (first | subst eo25 | (injection eo25 with f1_ f2_ f3_; have f4_ := f1_.symm; have f5_ := f3_.symm; clear f1_ f2_ f3_; subst f4_; subst f5_))
                        refine hK.out _ _ ⟨(blk_cell BK244.out 0).trans rfl, (blk_cell BK244.out 1).trans rfl, (blk_cell BK244.out 2).trans rfl, (blk_cell BK244.out 3).trans rfl, (blk_cell BK244.out 4).trans rfl, (blk_cell BK244.out 5).trans rfl, (blk_cell BK244.out 6).trans rfl, (blk_cell BK244.out 7).trans rfl, (blk_cell BK244.out 8).trans rfl, (blk_cell BK244.out 9).trans rfl, ((HB.out.cell (World.block_lt_of_cell? w _ hw250_0)).trans hw250_0), ((HB.out.cell (World.block_lt_of_cell? w _ hw250_1)).trans hw250_1), ((HB.out.cell (World.block_lt_of_cell? w _ hw251_0)).trans hw251_0), ((HB.out.cell (World.block_lt_of_cell? w _ hw251_1)).trans hw251_1), ((HB.out.cell (World.block_lt_of_cell? w _ hw252_0)).trans hw252_0), ((HB.out.cell (World.block_lt_of_cell? w _ hw252_1)).trans hw252_1), ((HB.out.cell (World.block_lt_of_cell? w _ hw253_0)).trans hw253_0), ((HB.out.cell (World.block_lt_of_cell? w _ hw253_1)).trans hw253_1)⟩ (fun hHeld => ?_)
                        clear hK K
                        refine norm_ (a' := ?_) ?_ ?_
                        rotate_left
                        · show Act.put _ (some 73) _ = _
                          simp only [Act.put, List.setIfInBounds_toArray, List.set_cons_zero, List.set_cons_succ, i64_w, i32_w]
                          rfl
                        refine one_ (i := 31) (N := some 74) #[true, true, true, true, true, true, true, true, true, true, true, true, true, true, true, true, true, true, true, true, true, true, true, true, true, true, true, true, true, true, true, true, false] rfl rfl (one_of HT_.out (by kernel_rfl)) (by decide) (fun K hK => ?_)
                        refine Kd.R_append_rows_step (Kd.int .u64) (w0 := w) w.heap.size (by rfl) (.tmp 43) (.tmp 73) 62 23 (.int .u64 0) 8 rfl Try.underlying62 info23 rfl (by decide) (by omega) u5 x5_1 y254 _ _ _ (fun k_ => some k_ ≠ (.slice Ao25 y254.length co25 : Value).ownBlock) (fun _ => False) rfl rfl ?aO ?aR (fun _ _ h => h) (fun _ h => h.elim) ?aF ?aB ?aS ?aL ?_
                        (case aR => repeat (first | exact (Kd.R_reads' HO256.out).2.2 | (with_reducible refine Kd.C_alloc ?_ _) | (with_reducible refine Kd.C_drewN ?_ _) | (with_reducible refine Kd.C_drew ?_)))
                        (case aB => exact (by repeat (first | (with_reducible first | exact HB.out | apply below_alloc | apply pw_below_drewN | apply below_drew1 | refine below_set ?_ GE244.out | refine below_set ?_ GE246.out) | exact HB.out)))
                        (case aF => exact (fun k_ hk => Kd.fresh' (Kd.R_lt (by (with_reducible repeat (first | apply Kd.R_alloc | apply Kd.R_drewN | apply Kd.R_drew)); exact HO256.out)) k_ hk))
                        (case aO => exact (by (with_reducible repeat (first | apply Kd.R_alloc | apply Kd.R_drewN | apply Kd.R_drew)); exact Kd.R_mono HO_5.out (fun _ hk => hk.2)))
                        (case aS => exact (below_size (by repeat (first | (with_reducible first | exact HB.out | apply below_alloc | apply pw_below_drewN | apply below_drew1 | refine below_set ?_ GE244.out | refine below_set ?_ GE246.out) | exact HB.out))))
                        (case aL => have := LMc20.out; omega)
                        intro v258 w24 ho hb hg hat
                        rw [← Ny257.out] at ho
                        have n0_ := Aside0.mk (blk_grown (g := gb244) (o := .cells #[.int .i64 a0_0, .int .u64 a0_1, .int .u64 a0_2, .int .u64 a0_3, .int .u64 a0_4, .int .u64 a0_5, .int .u64 a0_6, .bool a0_7, .slice A0_8 l0_8.length c0_8, .slice (some ad245) l0_9.length c0_9] 27 (0, 0)) (by (with_reducible repeat (first | refine blk_drewN ?_ _ | refine blk_drew ?_ | refine blk_alloc ?_ _)); exact BK244.out) hg (Kd.R_ne HO_5.out BK244.out (by decide)))
                        have n1_ := Aside0.mk (blk_grown (g := gb246) (o := .cells #[.int .u64 ((rd_T47 l0_9 (ji3)).f0), .int .u64 ((rd_T47 l0_9 (ji3)).f1)] 47 (0, 0)) (by (with_reducible repeat (first | refine blk_drewN ?_ _ | refine blk_drew ?_ | refine blk_alloc ?_ _)); exact BK246.out) hg (Kd.R_ne HO_5.out BK246.out (by decide)))
                        have n2_ := Aside0.mk (Kd.R_after (ok := (fun _ => True)) (by (with_reducible repeat (first | apply Kd.R_alloc | apply Kd.R_drewN | apply Kd.R_drew)); exact HO256.out) hg hat)
                        have n3_ := Aside0.mk (hb)
                        have n4_ := Aside0.mk (ho)
                        clear BK244
                        clear BK246
                        clear HO256
                        clear HB
                        clear HO_5
                        have BK244 := n0_
                        have BK246 := n1_
                        have HO256 := n2_
                        have HB := n3_
                        have HO259 := n4_
                        clear n0_ n1_ n2_ n3_ n4_
                        clear ho hb hg hat
                        refine hK.out _ _ ⟨(blk_cell BK244.out 0).trans rfl, (blk_cell BK244.out 1).trans rfl, (blk_cell BK244.out 2).trans rfl, (blk_cell BK244.out 3).trans rfl, (blk_cell BK244.out 4).trans rfl, (blk_cell BK244.out 5).trans rfl, (blk_cell BK244.out 6).trans rfl, (blk_cell BK244.out 7).trans rfl, (blk_cell BK244.out 8).trans rfl, (blk_cell BK244.out 9).trans rfl, ((HB.out.cell (World.block_lt_of_cell? w _ hw250_0)).trans hw250_0), ((HB.out.cell (World.block_lt_of_cell? w _ hw250_1)).trans hw250_1), ((HB.out.cell (World.block_lt_of_cell? w _ hw251_0)).trans hw251_0), ((HB.out.cell (World.block_lt_of_cell? w _ hw251_1)).trans hw251_1), ((HB.out.cell (World.block_lt_of_cell? w _ hw252_0)).trans hw252_0), ((HB.out.cell (World.block_lt_of_cell? w _ hw252_1)).trans hw252_1), ((HB.out.cell (World.block_lt_of_cell? w _ hw253_0)).trans hw253_0), ((HB.out.cell (World.block_lt_of_cell? w _ hw253_1)).trans hw253_1)⟩ (fun hHeld => ?_)
                        clear hK K
                        refine norm_ (a' := ?_) ?_ ?_
                        rotate_left
                        · show Act.put _ (some 74) _ = _
                          simp only [Act.put, List.setIfInBounds_toArray, List.set_cons_zero, List.set_cons_succ, i64_w, i32_w]
                          rfl
                        refine pure_ (i := 32) (N := some 5) (v := ?_) (a' := ?_) #[true, true, true, true, true, true, true, true, true, true, true, true, true, true, true, true, true, true, true, true, true, true, true, true, true, true, true, true, true, true, true, true, true] rfl rfl (any_of HT_.out (by kernel_rfl)) (fun _ _ _ h => h) (Or.inl ⟨by rfl, ?_⟩) ?_ ?_
                        rotate_left
                        · intro w'
                          go_simp
                          with_reducible rfl
                        rotate_left
                        · simp only [Act.put, List.setIfInBounds_toArray, List.set_cons_zero, List.set_cons_succ, i64_w, i32_w]
                          rfl
                        refine done_ (done_of HT_.out (by kernel_rfl)) ?_
                        try go_wp2
                        go_roundg k1
                        case measure => have := HK1.out; omega
                        case rel => exact ⟨(y257), (wrap64 (x6_1 - 1)), (by first | rfl | (simp; done) | (simp [*]; done)), H', ⟨by have := HK1.out; omega⟩, ⟨by (with_reducible repeat (first | apply Kd.R_alloc | apply Kd.R_drewN | apply Kd.R_drew)); exact Kd.R_mono HO259.out (fun _ hk => trivial)⟩, ⟨by (with_reducible repeat (first | refine blk_drewN ?_ _ | refine blk_drew ?_ | refine blk_alloc ?_ _)); exact BK244.out⟩, ⟨by (with_reducible repeat (first | refine blk_drewN ?_ _ | refine blk_drew ?_ | refine blk_alloc ?_ _)); exact BK246.out⟩, ⟨by repeat (first | (with_reducible first | exact HB.out | apply below_alloc | apply pw_below_drewN | apply below_drew1 | refine below_set ?_ GE244.out | refine below_set ?_ GE246.out) | exact HB.out)⟩⟩
                      · rw [if_neg c20] at H
                        exact absurd H (by simp)
                    · rw [if_neg c19] at H
                      exact absurd H (by simp)
                  · rw [if_neg c18] at H
                    exact absurd H (by simp)
                · rw [if_neg c17] at H
                  exact absurd H (by simp)
              · rw [if_neg c16] at H
                exact absurd H (by simp)
            · rw [if_neg c14] at H
              have c14b0 : decide (0 ≤ x6_1) = false := decide_eq_false c14
              clear c14
              by_cases c26 : x5_1.length < 17592186044416
              · rw [if_pos c26] at H
                have LMc26 := Aside0.mk c26
                clear c26
                obtain ⟨y260, hy260⟩ : ∃ y_ : List Int, y_ = (x5_1 ++ [a0_5]) := ⟨_, rfl⟩
                replace H : (if a0_0 = 3 then (if y260.length < 17592186044416 then (some (y260 ++ [a0_6])) else (none)) else (some y260)) = some r := by first | (rw [hy260]; with_reducible exact H) | (have H2_ := (Option.bind_some _ _).symm.trans H; rw [hy260]; with_reducible exact H2_) | (have H2_ := (Option.bind_some _ _).symm.trans H; with_reducible exact H2_) | with_reducible exact H | (rw [hy260]; exact H) | exact H
                have Ny260 := Aside0.mk hy260
                clear hy260
                by_cases c27 : a0_0 = 3
                · rw [if_pos c27] at H
                  have c27b0 : (a0_0 == 3) = true := beq_iff_eq.mpr c27
                  have c27b1 : (a0_0 != 3) = false := bne_eq_false_iff_eq.mpr c27
                  clear c27
                  by_cases c28 : y260.length < 17592186044416
                  · rw [if_pos c28] at H
                    have LMc28 := Aside0.mk c28
                    clear c28
                    obtain ⟨y263, hy263⟩ : ∃ y_ : List Int, y_ = (y260 ++ [a0_6]) := ⟨_, rfl⟩
                    replace H : (some y263) = some r := by first | (rw [hy263]; with_reducible exact H) | (have H2_ := (Option.bind_some _ _).symm.trans H; rw [hy263]; with_reducible exact H2_) | (have H2_ := (Option.bind_some _ _).symm.trans H; with_reducible exact H2_) | with_reducible exact H | (rw [hy263]; exact H) | exact H
                    have Ny263 := Aside0.mk hy263
                    clear hy263
                    obtain rfl := Option.some.inj H
                    have hnb29 := NB244_246.out
                    have hnc29 := NB246_244.out
                    have hcz30_0 : wr.cell? ⟨gb244, 0, none⟩ = some (.int .i64 a0_0) := (blk_cell BK244.out 0).trans rfl
                    have hcz30_1 : wr.cell? ⟨gb244, 1, none⟩ = some (.int .u64 a0_1) := (blk_cell BK244.out 1).trans rfl
                    have hcz30_2 : wr.cell? ⟨gb244, 2, none⟩ = some (.int .u64 a0_2) := (blk_cell BK244.out 2).trans rfl
                    have hcz30_3 : wr.cell? ⟨gb244, 3, none⟩ = some (.int .u64 a0_3) := (blk_cell BK244.out 3).trans rfl
                    have hcz30_4 : wr.cell? ⟨gb244, 4, none⟩ = some (.int .u64 a0_4) := (blk_cell BK244.out 4).trans rfl
                    have hcz30_5 : wr.cell? ⟨gb244, 5, none⟩ = some (.int .u64 a0_5) := (blk_cell BK244.out 5).trans rfl
                    have hcz30_6 : wr.cell? ⟨gb244, 6, none⟩ = some (.int .u64 a0_6) := (blk_cell BK244.out 6).trans rfl
                    have hcz30_7 : wr.cell? ⟨gb244, 7, none⟩ = some (.bool a0_7) := (blk_cell BK244.out 7).trans rfl
                    have hcz30_8 : wr.cell? ⟨gb244, 8, none⟩ = some (.slice A0_8 l0_8.length c0_8) := (blk_cell BK244.out 8).trans rfl
                    have hcz30_9 : wr.cell? ⟨gb244, 9, none⟩ = some (.slice (some ad245) l0_9.length c0_9) := (blk_cell BK244.out 9).trans rfl
                    have hfz30_0 := blk_frozen BK244.out 0
                    have hfz30_1 := blk_frozen BK244.out 1
                    have hfz30_2 := blk_frozen BK244.out 2
                    have hfz30_3 := blk_frozen BK244.out 3
                    have hfz30_4 := blk_frozen BK244.out 4
                    have hfz30_5 := blk_frozen BK244.out 5
                    have hfz30_6 := blk_frozen BK244.out 6
                    have hfz30_7 := blk_frozen BK244.out 7
                    have hfz30_8 := blk_frozen BK244.out 8
                    have hfz30_9 := blk_frozen BK244.out 9
                    go_wp2_with (first | ((with_reducible refine gate_builtin (b := .append) (xs := #[.tmp 75, .tmp 78]) rfl ?_); at_builtin; refine Kd.R_append (Kd.int .u64) (w0 := w) w.heap.size rfl (.tmp 75) (.tmp 78) 62 23 (.int .u64 0) 8 rfl Try.underlying62 info23 rfl (by decide) (by omega) u5 x5_1 a0_5 [.int .u64 a0_5] (fun _ => True) (fun _ => False) rfl rfl ?aP (fun _ hk => hk.elim) ?aF ?aO ?aB ?aS ?aL ?_; (case aP => exact rfl); (case aB => exact (by repeat (first | (with_reducible first | exact HB.out | apply below_alloc | apply pw_below_drewN | apply below_drew1 | refine below_set ?_ GE244.out | refine below_set ?_ GE246.out) | exact HB.out))); (case aF => exact (fun _ _ => trivial)); (case aO => exact (by (with_reducible repeat (first | apply Kd.R_alloc | apply Kd.R_drewN | apply Kd.R_drew)); exact HO_5.out)); (case aS => exact (below_size (by repeat (first | (with_reducible first | exact HB.out | apply below_alloc | apply pw_below_drewN | apply below_drew1 | refine below_set ?_ GE244.out | refine below_set ?_ GE246.out) | exact HB.out)))); (case aL => have := LMc26.out; omega); intro v261 w31 ho hb hg hat; rw [← Ny260.out] at ho; have n0_ := Aside0.mk (blk_grown (g := gb244) (o := .cells #[.int .i64 a0_0, .int .u64 a0_1, .int .u64 a0_2, .int .u64 a0_3, .int .u64 a0_4, .int .u64 a0_5, .int .u64 a0_6, .bool a0_7, .slice A0_8 l0_8.length c0_8, .slice (some ad245) l0_9.length c0_9] 27 (0, 0)) (by (with_reducible repeat (first | refine blk_drewN ?_ _ | refine blk_drew ?_ | refine blk_alloc ?_ _)); exact BK244.out) hg (Kd.R_ne HO_5.out BK244.out (by decide))); have n1_ := Aside0.mk (blk_grown (g := gb246) (o := .cells #[.int .u64 ((rd_T47 l0_9 (ji3)).f0), .int .u64 ((rd_T47 l0_9 (ji3)).f1)] 47 (0, 0)) (by (with_reducible repeat (first | refine blk_drewN ?_ _ | refine blk_drew ?_ | refine blk_alloc ?_ _)); exact BK246.out) hg (Kd.R_ne HO_5.out BK246.out (by decide))); have n2_ := Aside0.mk (hb); have n3_ := Aside0.mk (ho); clear BK244; clear BK246; clear HB; clear HO_5; have BK244 := n0_; have BK246 := n1_; have HB := n2_; have HO262 := n3_; clear n0_ n1_ n2_ n3_; clear ho hb hg hat; have hcz32_0 : w31.cell? ⟨gb244, 0, none⟩ = some (.int .i64 a0_0) := (blk_cell BK244.out 0).trans rfl; have hcz32_1 : w31.cell? ⟨gb244, 1, none⟩ = some (.int .u64 a0_1) := (blk_cell BK244.out 1).trans rfl; have hcz32_2 : w31.cell? ⟨gb244, 2, none⟩ = some (.int .u64 a0_2) := (blk_cell BK244.out 2).trans rfl; have hcz32_3 : w31.cell? ⟨gb244, 3, none⟩ = some (.int .u64 a0_3) := (blk_cell BK244.out 3).trans rfl; have hcz32_4 : w31.cell? ⟨gb244, 4, none⟩ = some (.int .u64 a0_4) := (blk_cell BK244.out 4).trans rfl; have hcz32_5 : w31.cell? ⟨gb244, 5, none⟩ = some (.int .u64 a0_5) := (blk_cell BK244.out 5).trans rfl; have hcz32_6 : w31.cell? ⟨gb244, 6, none⟩ = some (.int .u64 a0_6) := (blk_cell BK244.out 6).trans rfl; have hcz32_7 : w31.cell? ⟨gb244, 7, none⟩ = some (.bool a0_7) := (blk_cell BK244.out 7).trans rfl; have hcz32_8 : w31.cell? ⟨gb244, 8, none⟩ = some (.slice A0_8 l0_8.length c0_8) := (blk_cell BK244.out 8).trans rfl; have hcz32_9 : w31.cell? ⟨gb244, 9, none⟩ = some (.slice (some ad245) l0_9.length c0_9) := (blk_cell BK244.out 9).trans rfl; have hfz32_0 := blk_frozen BK244.out 0; have hfz32_1 := blk_frozen BK244.out 1; have hfz32_2 := blk_frozen BK244.out 2; have hfz32_3 := blk_frozen BK244.out 3; have hfz32_4 := blk_frozen BK244.out 4; have hfz32_5 := blk_frozen BK244.out 5; have hfz32_6 := blk_frozen BK244.out 6; have hfz32_7 := blk_frozen BK244.out 7; have hfz32_8 := blk_frozen BK244.out 8; have hfz32_9 := blk_frozen BK244.out 9) | ((with_reducible refine gate_builtin (b := .append) (xs := #[.tmp 83, .tmp 86]) rfl ?_); at_builtin; refine Kd.R_append (Kd.int .u64) (w0 := w) w.heap.size rfl (.tmp 83) (.tmp 86) 62 23 (.int .u64 0) 8 rfl Try.underlying62 info23 rfl (by decide) (by omega) v261 y260 a0_6 [.int .u64 a0_6] (fun _ => True) (fun _ => False) rfl rfl ?aP (fun _ hk => hk.elim) ?aF ?aO ?aB ?aS ?aL ?_; (case aP => exact rfl); (case aB => exact (by repeat (first | (with_reducible first | exact HB.out | apply below_alloc | apply pw_below_drewN | apply below_drew1 | refine below_set ?_ GE244.out | refine below_set ?_ GE246.out) | exact HB.out))); (case aF => exact (fun _ _ => trivial)); (case aO => exact (by (with_reducible repeat (first | apply Kd.R_alloc | apply Kd.R_drewN | apply Kd.R_drew)); exact HO262.out)); (case aS => exact (below_size (by repeat (first | (with_reducible first | exact HB.out | apply below_alloc | apply pw_below_drewN | apply below_drew1 | refine below_set ?_ GE244.out | refine below_set ?_ GE246.out) | exact HB.out)))); (case aL => have := LMc28.out; omega); intro v264 w33 ho hb hg hat; rw [← Ny263.out] at ho; have n0_ := Aside0.mk (blk_grown (g := gb244) (o := .cells #[.int .i64 a0_0, .int .u64 a0_1, .int .u64 a0_2, .int .u64 a0_3, .int .u64 a0_4, .int .u64 a0_5, .int .u64 a0_6, .bool a0_7, .slice A0_8 l0_8.length c0_8, .slice (some ad245) l0_9.length c0_9] 27 (0, 0)) (by (with_reducible repeat (first | refine blk_drewN ?_ _ | refine blk_drew ?_ | refine blk_alloc ?_ _)); exact BK244.out) hg (Kd.R_ne HO262.out BK244.out (by decide))); have n1_ := Aside0.mk (blk_grown (g := gb246) (o := .cells #[.int .u64 ((rd_T47 l0_9 (ji3)).f0), .int .u64 ((rd_T47 l0_9 (ji3)).f1)] 47 (0, 0)) (by (with_reducible repeat (first | refine blk_drewN ?_ _ | refine blk_drew ?_ | refine blk_alloc ?_ _)); exact BK246.out) hg (Kd.R_ne HO262.out BK246.out (by decide))); have n2_ := Aside0.mk (hb); have n3_ := Aside0.mk (ho); clear BK244; clear BK246; clear HB; clear HO262; have BK244 := n0_; have BK246 := n1_; have HB := n2_; have HO265 := n3_; clear n0_ n1_ n2_ n3_; clear ho hb hg hat))
                    go_ret
                    exact ⟨_, by first | rfl | (simp [errW_none, errW_some] <;> rfl) | (simp only [← hji3]; first | rfl | (simp [errW_none, errW_some] <;> rfl)) | (simp [*, errW_none, errW_some] <;> rfl), by (with_reducible repeat (first | apply Kd.R_alloc | apply Kd.R_drewN | apply Kd.R_drew)); exact HO265.out, by repeat (first | (with_reducible first | exact HB.out | apply below_alloc | apply pw_below_drewN | apply below_drew1 | refine below_set ?_ GE244.out | refine below_set ?_ GE246.out) | exact HB.out)⟩
                  · rw [if_neg c28] at H
                    exact absurd H (by simp)
                · rw [if_neg c27] at H
                  have c27b0 : (a0_0 == 3) = false := beq_eq_false_iff_ne.mpr c27
                  have c27b1 : (a0_0 != 3) = true := bne_iff_ne.mpr c27
                  obtain rfl := Option.some.inj H
                  have hnb34 := NB244_246.out
                  have hnc34 := NB246_244.out
                  have hcz35_0 : wr.cell? ⟨gb244, 0, none⟩ = some (.int .i64 a0_0) := (blk_cell BK244.out 0).trans rfl
                  have hcz35_1 : wr.cell? ⟨gb244, 1, none⟩ = some (.int .u64 a0_1) := (blk_cell BK244.out 1).trans rfl
                  have hcz35_2 : wr.cell? ⟨gb244, 2, none⟩ = some (.int .u64 a0_2) := (blk_cell BK244.out 2).trans rfl
                  have hcz35_3 : wr.cell? ⟨gb244, 3, none⟩ = some (.int .u64 a0_3) := (blk_cell BK244.out 3).trans rfl
                  have hcz35_4 : wr.cell? ⟨gb244, 4, none⟩ = some (.int .u64 a0_4) := (blk_cell BK244.out 4).trans rfl
                  have hcz35_5 : wr.cell? ⟨gb244, 5, none⟩ = some (.int .u64 a0_5) := (blk_cell BK244.out 5).trans rfl
                  have hcz35_6 : wr.cell? ⟨gb244, 6, none⟩ = some (.int .u64 a0_6) := (blk_cell BK244.out 6).trans rfl
                  have hcz35_7 : wr.cell? ⟨gb244, 7, none⟩ = some (.bool a0_7) := (blk_cell BK244.out 7).trans rfl
                  have hcz35_8 : wr.cell? ⟨gb244, 8, none⟩ = some (.slice A0_8 l0_8.length c0_8) := (blk_cell BK244.out 8).trans rfl
                  have hcz35_9 : wr.cell? ⟨gb244, 9, none⟩ = some (.slice (some ad245) l0_9.length c0_9) := (blk_cell BK244.out 9).trans rfl
                  have hfz35_0 := blk_frozen BK244.out 0
                  have hfz35_1 := blk_frozen BK244.out 1
                  have hfz35_2 := blk_frozen BK244.out 2
                  have hfz35_3 := blk_frozen BK244.out 3
                  have hfz35_4 := blk_frozen BK244.out 4
                  have hfz35_5 := blk_frozen BK244.out 5
                  have hfz35_6 := blk_frozen BK244.out 6
                  have hfz35_7 := blk_frozen BK244.out 7
                  have hfz35_8 := blk_frozen BK244.out 8
                  have hfz35_9 := blk_frozen BK244.out 9
                  go_wp2_with (first | ((with_reducible refine gate_builtin (b := .append) (xs := #[.tmp 75, .tmp 78]) rfl ?_); at_builtin; refine Kd.R_append (Kd.int .u64) (w0 := w) w.heap.size rfl (.tmp 75) (.tmp 78) 62 23 (.int .u64 0) 8 rfl Try.underlying62 info23 rfl (by decide) (by omega) u5 x5_1 a0_5 [.int .u64 a0_5] (fun _ => True) (fun _ => False) rfl rfl ?aP (fun _ hk => hk.elim) ?aF ?aO ?aB ?aS ?aL ?_; (case aP => exact rfl); (case aB => exact (by repeat (first | (with_reducible first | exact HB.out | apply below_alloc | apply pw_below_drewN | apply below_drew1 | refine below_set ?_ GE244.out | refine below_set ?_ GE246.out) | exact HB.out))); (case aF => exact (fun _ _ => trivial)); (case aO => exact (by (with_reducible repeat (first | apply Kd.R_alloc | apply Kd.R_drewN | apply Kd.R_drew)); exact HO_5.out)); (case aS => exact (below_size (by repeat (first | (with_reducible first | exact HB.out | apply below_alloc | apply pw_below_drewN | apply below_drew1 | refine below_set ?_ GE244.out | refine below_set ?_ GE246.out) | exact HB.out)))); (case aL => have := LMc26.out; omega); intro v261 w36 ho hb hg hat; rw [← Ny260.out] at ho; have n0_ := Aside0.mk (blk_grown (g := gb244) (o := .cells #[.int .i64 a0_0, .int .u64 a0_1, .int .u64 a0_2, .int .u64 a0_3, .int .u64 a0_4, .int .u64 a0_5, .int .u64 a0_6, .bool a0_7, .slice A0_8 l0_8.length c0_8, .slice (some ad245) l0_9.length c0_9] 27 (0, 0)) (by (with_reducible repeat (first | refine blk_drewN ?_ _ | refine blk_drew ?_ | refine blk_alloc ?_ _)); exact BK244.out) hg (Kd.R_ne HO_5.out BK244.out (by decide))); have n1_ := Aside0.mk (blk_grown (g := gb246) (o := .cells #[.int .u64 ((rd_T47 l0_9 (ji3)).f0), .int .u64 ((rd_T47 l0_9 (ji3)).f1)] 47 (0, 0)) (by (with_reducible repeat (first | refine blk_drewN ?_ _ | refine blk_drew ?_ | refine blk_alloc ?_ _)); exact BK246.out) hg (Kd.R_ne HO_5.out BK246.out (by decide))); have n2_ := Aside0.mk (hb); have n3_ := Aside0.mk (ho); clear BK244; clear BK246; clear HB; clear HO_5; have BK244 := n0_; have BK246 := n1_; have HB := n2_; have HO262 := n3_; clear n0_ n1_ n2_ n3_; clear ho hb hg hat; have hcz37_0 : w36.cell? ⟨gb244, 0, none⟩ = some (.int .i64 a0_0) := (blk_cell BK244.out 0).trans rfl; have hcz37_1 : w36.cell? ⟨gb244, 1, none⟩ = some (.int .u64 a0_1) := (blk_cell BK244.out 1).trans rfl; have hcz37_2 : w36.cell? ⟨gb244, 2, none⟩ = some (.int .u64 a0_2) := (blk_cell BK244.out 2).trans rfl; have hcz37_3 : w36.cell? ⟨gb244, 3, none⟩ = some (.int .u64 a0_3) := (blk_cell BK244.out 3).trans rfl; have hcz37_4 : w36.cell? ⟨gb244, 4, none⟩ = some (.int .u64 a0_4) := (blk_cell BK244.out 4).trans rfl; have hcz37_5 : w36.cell? ⟨gb244, 5, none⟩ = some (.int .u64 a0_5) := (blk_cell BK244.out 5).trans rfl; have hcz37_6 : w36.cell? ⟨gb244, 6, none⟩ = some (.int .u64 a0_6) := (blk_cell BK244.out 6).trans rfl; have hcz37_7 : w36.cell? ⟨gb244, 7, none⟩ = some (.bool a0_7) := (blk_cell BK244.out 7).trans rfl; have hcz37_8 : w36.cell? ⟨gb244, 8, none⟩ = some (.slice A0_8 l0_8.length c0_8) := (blk_cell BK244.out 8).trans rfl; have hcz37_9 : w36.cell? ⟨gb244, 9, none⟩ = some (.slice (some ad245) l0_9.length c0_9) := (blk_cell BK244.out 9).trans rfl; have hfz37_0 := blk_frozen BK244.out 0; have hfz37_1 := blk_frozen BK244.out 1; have hfz37_2 := blk_frozen BK244.out 2; have hfz37_3 := blk_frozen BK244.out 3; have hfz37_4 := blk_frozen BK244.out 4; have hfz37_5 := blk_frozen BK244.out 5; have hfz37_6 := blk_frozen BK244.out 6; have hfz37_7 := blk_frozen BK244.out 7; have hfz37_8 := blk_frozen BK244.out 8; have hfz37_9 := blk_frozen BK244.out 9))
                  go_ret
                  exact ⟨_, by first | rfl | (simp [errW_none, errW_some] <;> rfl) | (simp only [← hji3]; first | rfl | (simp [errW_none, errW_some] <;> rfl)) | (simp [*, errW_none, errW_some] <;> rfl), by (with_reducible repeat (first | apply Kd.R_alloc | apply Kd.R_drewN | apply Kd.R_drew)); exact HO262.out, by repeat (first | (with_reducible first | exact HB.out | apply below_alloc | apply pw_below_drewN | apply below_drew1 | refine below_set ?_ GE244.out | refine below_set ?_ GE246.out) | exact HB.out)⟩
              · rw [if_neg c26] at H
                exact absurd H (by simp)
      · rw [if_neg c5] at H
        exact absurd H (by simp)
    · rw [if_neg c4] at H
      exact absurd H (by simp)
  · rw [if_neg c2] at H
    have c2b0 : (a0_0 == 2) = false := beq_eq_false_iff_ne.mpr c2
    have c2b1 : (a0_0 != 2) = true := bne_iff_ne.mpr c2
    by_cases c38 : a0_0 = 3
    · rw [if_pos c38] at H
      have c38b0 : (a0_0 == 3) = true := beq_iff_eq.mpr c38
      have c38b1 : (a0_0 != 3) = false := bne_eq_false_iff_eq.mpr c38
      clear c38
      obtain ⟨ji39, hji39⟩ : ∃ j_ : Int, (wrap64 ((l0_9.length : Int) - 1)) = j_ := ⟨_, rfl⟩
      replace H : (if 0 ≤ (ji39) then (if (ji39) < (l0_9.length : Int) then (wigwagref05_laid.l0 k (([IntKind.u64.wrap (a0_0), IntKind.u64.wrap ((l0_9.length : Int)), IntKind.u64.wrap (((rd_T47 l0_9 (ji39)).f1) - 1), IntKind.u64.wrap ((IntKind.u64.wrap (((rd_T47 l0_9 (ji39)).f1) - ((rd_T47 l0_9 (ji39)).f0))) - 1)] : List Int)) (wrap64 ((l0_9.length : Int) - 2)) a0_0 a0_1 a0_2 a0_3 a0_4 a0_5 a0_6 a0_7 l0_8 l0_9) else (none)) else (none)) = some r := by first | (rw [hji39] at H; exact H) | (simp only [hji39] at H ⊢; exact H)
      have hji39w : (IntKind.i64.wrap ((l0_9.length : Int) - 1)) = ji39 := (i64_w _).trans hji39
      by_cases c40 : 0 ≤ (ji39)
      · rw [if_pos c40] at H
        have c40b0 : decide (0 ≤ (ji39)) = true := decide_eq_true c40
        clear c40
        by_cases c41 : (ji39) < (l0_9.length : Int)
        · rw [if_pos c41] at H
          have c41b0 : decide ((ji39) < (l0_9.length : Int)) = true := decide_eq_true c41
          clear c41
          obtain ⟨y268, hy268⟩ : ∃ y_ : List Int, y_ = (([IntKind.u64.wrap (a0_0), IntKind.u64.wrap ((l0_9.length : Int)), IntKind.u64.wrap (((rd_T47 l0_9 (ji39)).f1) - 1), IntKind.u64.wrap ((IntKind.u64.wrap (((rd_T47 l0_9 (ji39)).f1) - ((rd_T47 l0_9 (ji39)).f0))) - 1)] : List Int)) := ⟨_, rfl⟩
          replace H : (wigwagref05_laid.l0 k y268 (wrap64 ((l0_9.length : Int) - 2)) a0_0 a0_1 a0_2 a0_3 a0_4 a0_5 a0_6 a0_7 l0_8 l0_9) = some r := by first | (rw [hy268]; with_reducible exact H) | (have H2_ := (Option.bind_some _ _).symm.trans H; rw [hy268]; with_reducible exact H2_) | (have H2_ := (Option.bind_some _ _).symm.trans H; with_reducible exact H2_) | with_reducible exact H | (rw [hy268]; exact H) | exact H
          have Ny268 := Aside0.mk hy268
          clear hy268
          have H' := Aside0.mk H
          clear H
          go_enter Try.func28, Try.ntmps28
          go_wp2_with (first | ((with_reducible refine gate_dst (N := 1) rfl ?_); refine box_event ?hg (N := 1) ?hd (cs := #[.int .i64 a0_0, .int .u64 a0_1, .int .u64 a0_2, .int .u64 a0_3, .int .u64 a0_4, .int .u64 a0_5, .int .u64 a0_6, .bool a0_7, .slice A0_8 l0_8.length c0_8, .slice A0_9 l0_9.length c0_9]) (t := 27) ?hr ?_; (case hd => rfl); (case hg => rfl); (case hr => first | (go_simp; done) | (go_simp; rfl)); intro gb244 hg w42 hbox hb; have n0_ := Aside0.mk (below_step (by repeat (first | (with_reducible first | exact HB.out | apply below_alloc | apply pw_below_drewN | apply below_drew1) | exact HB.out)) hb); have n1_ := Aside0.mk (hbox); have n2_ := Aside0.mk ((by rw [hg]; exact (below_size (by repeat (first | (with_reducible first | exact HB.out | apply below_alloc | apply pw_below_drewN | apply below_drew1) | exact HB.out))) : w.heap.size ≤ gb244)); have n3_ := Aside0.mk ((by rw [hg]; exact (below_size (by repeat (first | (with_reducible first | exact HB.out | apply below_alloc | apply pw_below_drewN | apply below_drew1) | exact HB.out))) : w.heap.size ≤ gb244)); clear HB; have HB := n0_; have BK244 := n1_; have GW244 := n2_; have GE244 := n3_; clear n0_ n1_ n2_ n3_; clear hb hbox hg; have hcz43_0 : w42.cell? ⟨gb244, 0, none⟩ = some (.int .i64 a0_0) := (blk_cell BK244.out 0).trans rfl; have hcz43_1 : w42.cell? ⟨gb244, 1, none⟩ = some (.int .u64 a0_1) := (blk_cell BK244.out 1).trans rfl; have hcz43_2 : w42.cell? ⟨gb244, 2, none⟩ = some (.int .u64 a0_2) := (blk_cell BK244.out 2).trans rfl; have hcz43_3 : w42.cell? ⟨gb244, 3, none⟩ = some (.int .u64 a0_3) := (blk_cell BK244.out 3).trans rfl; have hcz43_4 : w42.cell? ⟨gb244, 4, none⟩ = some (.int .u64 a0_4) := (blk_cell BK244.out 4).trans rfl; have hcz43_5 : w42.cell? ⟨gb244, 5, none⟩ = some (.int .u64 a0_5) := (blk_cell BK244.out 5).trans rfl; have hcz43_6 : w42.cell? ⟨gb244, 6, none⟩ = some (.int .u64 a0_6) := (blk_cell BK244.out 6).trans rfl; have hcz43_7 : w42.cell? ⟨gb244, 7, none⟩ = some (.bool a0_7) := (blk_cell BK244.out 7).trans rfl; have hcz43_8 : w42.cell? ⟨gb244, 8, none⟩ = some (.slice A0_8 l0_8.length c0_8) := (blk_cell BK244.out 8).trans rfl; have hcz43_9 : w42.cell? ⟨gb244, 9, none⟩ = some (.slice A0_9 l0_9.length c0_9) := (blk_cell BK244.out 9).trans rfl; have hfz43_0 := blk_frozen BK244.out 0; have hfz43_1 := blk_frozen BK244.out 1; have hfz43_2 := blk_frozen BK244.out 2; have hfz43_3 := blk_frozen BK244.out 3; have hfz43_4 := blk_frozen BK244.out 4; have hfz43_5 := blk_frozen BK244.out 5; have hfz43_6 := blk_frozen BK244.out 6; have hfz43_7 := blk_frozen BK244.out 7; have hfz43_8 := blk_frozen BK244.out 8; have hfz43_9 := blk_frozen BK244.out 9; have p266 : 0 ≤ ((ji39) : Int) := of_decide_eq_true (by first | (with_reducible assumption) | assumption); have q266 : (ji39) < (l0_9.length : Int) := of_decide_eq_true (by first | (with_reducible assumption) | assumption); obtain ⟨ad266, e266, hx266_0, hx266_1⟩ := at_T47 HR0_9.out (ji39) p266 q266; cases e266; replace hx266_0 := (HB.out.cell (World.block_lt_of_cell? w _ hx266_0)).trans hx266_0; replace hx266_1 := (HB.out.cell (World.block_lt_of_cell? w _ hx266_1)).trans hx266_1; replace p266 := eq_true p266; replace q266 := eq_true q266) | ((with_reducible refine gate_dst (N := 4) rfl ?_); refine box_event ?hg (N := 4) ?hd (cs := #[.int .u64 0, .int .u64 0]) (t := 47) ?hr ?_; (case hd => rfl); (case hg => rfl); (case hr => first | (go_simp; done) | (go_simp; rfl)); intro gb267 hg w44 hbox hb; have n0_ := Aside0.mk (blk_below (g := gb244) (o := .cells #[.int .i64 a0_0, .int .u64 a0_1, .int .u64 a0_2, .int .u64 a0_3, .int .u64 a0_4, .int .u64 a0_5, .int .u64 a0_6, .bool a0_7, .slice A0_8 l0_8.length c0_8, .slice (some ad266) l0_9.length c0_9] 27 (0, 0)) (by (with_reducible repeat (first | refine blk_drewN ?_ _ | refine blk_drew ?_ | refine blk_alloc ?_ _)); exact BK244.out) hb); have n1_ := Aside0.mk (below_step (by repeat (first | (with_reducible first | exact HB.out | apply below_alloc | apply pw_below_drewN | apply below_drew1 | refine below_set ?_ GE244.out) | exact HB.out)) hb); have n2_ := Aside0.mk (hbox); have n3_ := Aside0.mk ((by rw [hg]; exact (below_size (by repeat (first | (with_reducible first | exact HB.out | apply below_alloc | apply pw_below_drewN | apply below_drew1 | refine below_set ?_ GE244.out) | exact HB.out))) : w.heap.size ≤ gb267)); have n4_ := Aside0.mk ((by rw [hg]; exact (below_size (by repeat (first | (with_reducible first | exact HB.out | apply below_alloc | apply pw_below_drewN | apply below_drew1 | refine below_set ?_ GE244.out) | exact HB.out))) : w.heap.size ≤ gb267)); have n5_ := Aside0.mk ((by rw [hg]; exact Nat.ne_of_lt (blk_lt (g := gb244) (o := .cells #[.int .i64 a0_0, .int .u64 a0_1, .int .u64 a0_2, .int .u64 a0_3, .int .u64 a0_4, .int .u64 a0_5, .int .u64 a0_6, .bool a0_7, .slice A0_8 l0_8.length c0_8, .slice (some ad266) l0_9.length c0_9] 27 (0, 0)) (by (with_reducible repeat (first | refine blk_drewN ?_ _ | refine blk_drew ?_ | refine blk_alloc ?_ _)); exact BK244.out)) : gb244 ≠ gb267)); have n6_ := Aside0.mk ((by rw [hg]; exact Nat.ne_of_gt (blk_lt (g := gb244) (o := .cells #[.int .i64 a0_0, .int .u64 a0_1, .int .u64 a0_2, .int .u64 a0_3, .int .u64 a0_4, .int .u64 a0_5, .int .u64 a0_6, .bool a0_7, .slice A0_8 l0_8.length c0_8, .slice (some ad266) l0_9.length c0_9] 27 (0, 0)) (by (with_reducible repeat (first | refine blk_drewN ?_ _ | refine blk_drew ?_ | refine blk_alloc ?_ _)); exact BK244.out)) : gb267 ≠ gb244)); clear BK244; clear HB; have BK244 := n0_; have HB := n1_; have BK267 := n2_; have GW267 := n3_; have GE267 := n4_; have NB244_267 := n5_; have NB267_244 := n6_; clear n0_ n1_ n2_ n3_ n4_ n5_ n6_; clear hb hbox hg; have hnb45 := NB267_244.out; have hnc45 := NB244_267.out; have hcz46_0 : w44.cell? ⟨gb267, 0, none⟩ = some (.int .u64 0) := (blk_cell BK267.out 0).trans rfl; have hcz46_1 : w44.cell? ⟨gb267, 1, none⟩ = some (.int .u64 0) := (blk_cell BK267.out 1).trans rfl; have hfz46_0 := blk_frozen BK267.out 0; have hfz46_1 := blk_frozen BK267.out 1; have hcz47_0 : w44.cell? ⟨gb244, 0, none⟩ = some (.int .i64 a0_0) := (blk_cell BK244.out 0).trans rfl; have hcz47_1 : w44.cell? ⟨gb244, 1, none⟩ = some (.int .u64 a0_1) := (blk_cell BK244.out 1).trans rfl; have hcz47_2 : w44.cell? ⟨gb244, 2, none⟩ = some (.int .u64 a0_2) := (blk_cell BK244.out 2).trans rfl; have hcz47_3 : w44.cell? ⟨gb244, 3, none⟩ = some (.int .u64 a0_3) := (blk_cell BK244.out 3).trans rfl; have hcz47_4 : w44.cell? ⟨gb244, 4, none⟩ = some (.int .u64 a0_4) := (blk_cell BK244.out 4).trans rfl; have hcz47_5 : w44.cell? ⟨gb244, 5, none⟩ = some (.int .u64 a0_5) := (blk_cell BK244.out 5).trans rfl; have hcz47_6 : w44.cell? ⟨gb244, 6, none⟩ = some (.int .u64 a0_6) := (blk_cell BK244.out 6).trans rfl; have hcz47_7 : w44.cell? ⟨gb244, 7, none⟩ = some (.bool a0_7) := (blk_cell BK244.out 7).trans rfl; have hcz47_8 : w44.cell? ⟨gb244, 8, none⟩ = some (.slice A0_8 l0_8.length c0_8) := (blk_cell BK244.out 8).trans rfl; have hcz47_9 : w44.cell? ⟨gb244, 9, none⟩ = some (.slice (some ad266) l0_9.length c0_9) := (blk_cell BK244.out 9).trans rfl; have hfz47_0 := blk_frozen BK244.out 0; have hfz47_1 := blk_frozen BK244.out 1; have hfz47_2 := blk_frozen BK244.out 2; have hfz47_3 := blk_frozen BK244.out 3; have hfz47_4 := blk_frozen BK244.out 4; have hfz47_5 := blk_frozen BK244.out 5; have hfz47_6 := blk_frozen BK244.out 6; have hfz47_7 := blk_frozen BK244.out 7; have hfz47_8 := blk_frozen BK244.out 8; have hfz47_9 := blk_frozen BK244.out 9) | ((with_reducible refine gate_dst (N := 36) rfl ?_); refine Kd.R_lit (Kd.int .u64) _ 23 ?hg (N := 36) ?hd (xs := ([IntKind.u64.wrap (a0_0), IntKind.u64.wrap ((l0_9.length : Int)), IntKind.u64.wrap (((rd_T47 l0_9 (ji39)).f1) - 1), IntKind.u64.wrap ((IntKind.u64.wrap (((rd_T47 l0_9 (ji39)).f1) - ((rd_T47 l0_9 (ji39)).f0))) - 1)] : List Int)) (inner := [.int .u64 (IntKind.u64.wrap (a0_0)), .int .u64 (IntKind.u64.wrap ((l0_9.length : Int))), .int .u64 (IntKind.u64.wrap (((rd_T47 l0_9 (ji39)).f1) - 1)), .int .u64 (IntKind.u64.wrap ((IntKind.u64.wrap (((rd_T47 l0_9 (ji39)).f1) - ((rd_T47 l0_9 (ji39)).f0))) - 1))]) (ok := fun _ => True) (okp := fun _ => True) ?hr ?hp (fun _ hk => hk) trivial (Below.refl _ _) (Nat.le_refl _) (by simp) ?_; (case hd => rfl); (case hg => rfl); (case hr => first | (go_simp; done) | (go_simp; rfl)); (case hp => exact (Reps.one (show Kd.M (Kd.int .u64) _ _ _ (IntKind.u64.wrap (a0_0)) [.int .u64 (IntKind.u64.wrap (a0_0))] from rfl) (Reps.one (show Kd.M (Kd.int .u64) _ _ _ (IntKind.u64.wrap ((l0_9.length : Int))) [.int .u64 (IntKind.u64.wrap ((l0_9.length : Int)))] from rfl) (Reps.one (show Kd.M (Kd.int .u64) _ _ _ (IntKind.u64.wrap (((rd_T47 l0_9 (ji39)).f1) - 1)) [.int .u64 (IntKind.u64.wrap (((rd_T47 l0_9 (ji39)).f1) - 1))] from rfl) (Reps.one (show Kd.M (Kd.int .u64) _ _ _ (IntKind.u64.wrap ((IntKind.u64.wrap (((rd_T47 l0_9 (ji39)).f1) - ((rd_T47 l0_9 (ji39)).f0))) - 1)) [.int .u64 (IntKind.u64.wrap ((IntKind.u64.wrap (((rd_T47 l0_9 (ji39)).f1) - ((rd_T47 l0_9 (ji39)).f0))) - 1))] from rfl) (Reps.none _ _)))))); intro v269 w48 ho49 hb hg_ hnew_; clear hg_ hnew_; (first | rw [← Ny268.out] at ho49 | (simp only [Int.reduceToNat] at ho49; rw [← Ny268.out] at ho49)); have n0_ := Aside0.mk (Kd.R_lower ho49 (below_size (by repeat (first | (with_reducible first | exact HB.out | apply below_alloc | apply pw_below_drewN | apply below_drew1 | refine below_set ?_ GE244.out | refine below_set ?_ GE267.out) | exact HB.out)))); have n1_ := Aside0.mk (blk_below (g := gb244) (o := .cells #[.int .i64 a0_0, .int .u64 a0_1, .int .u64 a0_2, .int .u64 a0_3, .int .u64 a0_4, .int .u64 a0_5, .int .u64 a0_6, .bool a0_7, .slice A0_8 l0_8.length c0_8, .slice (some ad266) l0_9.length c0_9] 27 (0, 0)) (by (with_reducible repeat (first | refine blk_drewN ?_ _ | refine blk_drew ?_ | refine blk_alloc ?_ _)); refine blk_far ?_ NB244_267.out _; (with_reducible repeat (first | refine blk_drewN ?_ _ | refine blk_drew ?_ | refine blk_alloc ?_ _)); refine blk_far ?_ NB244_267.out _; (with_reducible repeat (first | refine blk_drewN ?_ _ | refine blk_drew ?_ | refine blk_alloc ?_ _)); exact BK244.out) hb); have n2_ := Aside0.mk (blk_below (g := gb267) (o := .cells #[.int .u64 ((rd_T47 l0_9 (ji39)).f0), .int .u64 ((rd_T47 l0_9 (ji39)).f1)] 47 (0, 0)) (by (with_reducible repeat (first | refine blk_drewN ?_ _ | refine blk_drew ?_ | refine blk_alloc ?_ _)); refine blk_put (cs := #[.int .u64 ((rd_T47 l0_9 (ji39)).f0), .int .u64 0]) ?_ 1 _ rfl; (with_reducible repeat (first | refine blk_drewN ?_ _ | refine blk_drew ?_ | refine blk_alloc ?_ _)); refine blk_put (cs := #[.int .u64 0, .int .u64 0]) ?_ 0 _ rfl; (with_reducible repeat (first | refine blk_drewN ?_ _ | refine blk_drew ?_ | refine blk_alloc ?_ _)); exact BK267.out) hb); have n3_ := Aside0.mk (below_step (by repeat (first | (with_reducible first | exact HB.out | apply below_alloc | apply pw_below_drewN | apply below_drew1 | refine below_set ?_ GE244.out | refine below_set ?_ GE267.out) | exact HB.out)) hb); clear BK244; clear BK267; clear HB; have HO270 := n0_; have BK244 := n1_; have BK267 := n2_; have HB := n3_; clear n0_ n1_ n2_ n3_; clear hb ho49))
          go_loopg [5, 6] k (fun kq v5 v6 w' => ∃ (x5_1 : List Int) (x6_1 : Int), v6 = .int .i64 x6_1 ∧ Aside0 (wigwagref05_laid.l0 kq x5_1 x6_1 a0_0 a0_1 a0_2 a0_3 a0_4 a0_5 a0_6 a0_7 l0_8 l0_9 = some r) ∧ Aside0 (kq ≤ k) ∧ Aside0 (Kd.R (Kd.int .u64) 23 w' w.heap.size (fun _ => True) v5 x5_1) ∧ Aside0 (w'.heap[gb244]? = some (.cells #[.int .i64 a0_0, .int .u64 a0_1, .int .u64 a0_2, .int .u64 a0_3, .int .u64 a0_4, .int .u64 a0_5, .int .u64 a0_6, .bool a0_7, (.slice A0_8 l0_8.length c0_8), (.slice (some ad266) l0_9.length c0_9)] 27 (0, 0))) ∧ Aside0 (Below w.heap.size w w'))
          case atStart => exact ⟨(y268), (wrap64 ((l0_9.length : Int) - 2)), (by first | rfl | (simp; done) | (simp [*]; done)), H', ⟨Nat.le_refl _⟩, ⟨by (with_reducible repeat (first | apply Kd.R_alloc | apply Kd.R_drewN | apply Kd.R_drew)); exact HO270.out⟩, ⟨by (with_reducible repeat (first | refine blk_drewN ?_ _ | refine blk_drew ?_ | refine blk_alloc ?_ _)); exact BK244.out⟩, ⟨by repeat (first | (with_reducible first | exact HB.out | apply below_alloc | apply pw_below_drewN | apply below_drew1 | refine below_set ?_ GE244.out | refine below_set ?_ GE267.out) | exact HB.out)⟩⟩
          case round =>
            clear H'
            try clear c1
            try clear c2
            try clear c2b0
            try clear c2b1
            try clear p2
            try clear q2
            try clear hx2
            try clear c3
            try clear c4
            try clear c4b0
            try clear c5
            try clear c5b0
            try clear p6
            try clear c9
            try clear c14
            try clear c14b0
            try clear c16
            try clear c16b0
            try clear c17
            try clear c17b0
            try clear c18
            try clear c18b0
            try clear c19
            try clear c19b0
            try clear c20
            try clear p24
            try clear q24
            try clear hx24
            try clear p25
            try clear q25
            try clear hx25
            try clear c26
            try clear p26
            try clear q26
            try clear hx26
            try clear c27
            try clear c27b0
            try clear c27b1
            try clear c28
            try clear c29
            try clear c34
            try clear c38
            try clear c38b0
            try clear c38b1
            try clear c40
            try clear c40b0
            try clear c41
            try clear c41b0
            try clear c45
            try clear hcz10_0
            try clear hcz10_1
            try clear hcz11_0
            try clear hcz11_1
            try clear hcz11_2
            try clear hcz11_3
            try clear hcz11_4
            try clear hcz11_5
            try clear hcz11_6
            try clear hcz11_7
            try clear hcz11_8
            try clear hcz11_9
            try clear hcz30_0
            try clear hcz30_1
            try clear hcz30_2
            try clear hcz30_3
            try clear hcz30_4
            try clear hcz30_5
            try clear hcz30_6
            try clear hcz30_7
            try clear hcz30_8
            try clear hcz30_9
            try clear hcz32_0
            try clear hcz32_1
            try clear hcz32_2
            try clear hcz32_3
            try clear hcz32_4
            try clear hcz32_5
            try clear hcz32_6
            try clear hcz32_7
            try clear hcz32_8
            try clear hcz32_9
            try clear hcz35_0
            try clear hcz35_1
            try clear hcz35_2
            try clear hcz35_3
            try clear hcz35_4
            try clear hcz35_5
            try clear hcz35_6
            try clear hcz35_7
            try clear hcz35_8
            try clear hcz35_9
            try clear hcz37_0
            try clear hcz37_1
            try clear hcz37_2
            try clear hcz37_3
            try clear hcz37_4
            try clear hcz37_5
            try clear hcz37_6
            try clear hcz37_7
            try clear hcz37_8
            try clear hcz37_9
            try clear hcz43_0
            try clear hcz43_1
            try clear hcz43_2
            try clear hcz43_3
            try clear hcz43_4
            try clear hcz43_5
            try clear hcz43_6
            try clear hcz43_7
            try clear hcz43_8
            try clear hcz43_9
            try clear hcz46_0
            try clear hcz46_1
            try clear hcz47_0
            try clear hcz47_1
            try clear hcz47_2
            try clear hcz47_3
            try clear hcz47_4
            try clear hcz47_5
            try clear hcz47_6
            try clear hcz47_7
            try clear hcz47_8
            try clear hcz47_9
            try clear hcz7_0
            try clear hcz7_1
            try clear hcz7_2
            try clear hcz7_3
            try clear hcz7_4
            try clear hcz7_5
            try clear hcz7_6
            try clear hcz7_7
            try clear hcz7_8
            try clear hcz7_9
            try clear hfz10_0
            try clear hfz10_1
            try clear hfz11_0
            try clear hfz11_1
            try clear hfz11_2
            try clear hfz11_3
            try clear hfz11_4
            try clear hfz11_5
            try clear hfz11_6
            try clear hfz11_7
            try clear hfz11_8
            try clear hfz11_9
            try clear hfz30_0
            try clear hfz30_1
            try clear hfz30_2
            try clear hfz30_3
            try clear hfz30_4
            try clear hfz30_5
            try clear hfz30_6
            try clear hfz30_7
            try clear hfz30_8
            try clear hfz30_9
            try clear hfz32_0
            try clear hfz32_1
            try clear hfz32_2
            try clear hfz32_3
            try clear hfz32_4
            try clear hfz32_5
            try clear hfz32_6
            try clear hfz32_7
            try clear hfz32_8
            try clear hfz32_9
            try clear hfz35_0
            try clear hfz35_1
            try clear hfz35_2
            try clear hfz35_3
            try clear hfz35_4
            try clear hfz35_5
            try clear hfz35_6
            try clear hfz35_7
            try clear hfz35_8
            try clear hfz35_9
            try clear hfz37_0
            try clear hfz37_1
            try clear hfz37_2
            try clear hfz37_3
            try clear hfz37_4
            try clear hfz37_5
            try clear hfz37_6
            try clear hfz37_7
            try clear hfz37_8
            try clear hfz37_9
            try clear hfz43_0
            try clear hfz43_1
            try clear hfz43_2
            try clear hfz43_3
            try clear hfz43_4
            try clear hfz43_5
            try clear hfz43_6
            try clear hfz43_7
            try clear hfz43_8
            try clear hfz43_9
            try clear hfz46_0
            try clear hfz46_1
            try clear hfz47_0
            try clear hfz47_1
            try clear hfz47_2
            try clear hfz47_3
            try clear hfz47_4
            try clear hfz47_5
            try clear hfz47_6
            try clear hfz47_7
            try clear hfz47_8
            try clear hfz47_9
            try clear hfz7_0
            try clear hfz7_1
            try clear hfz7_2
            try clear hfz7_3
            try clear hfz7_4
            try clear hfz7_5
            try clear hfz7_6
            try clear hfz7_7
            try clear hfz7_8
            try clear hfz7_9
            try clear hx245_0
            try clear hx245_1
            try clear hx250_0
            try clear hx250_1
            try clear hx251_0
            try clear hx251_1
            try clear hx252_0
            try clear hx252_1
            try clear hx253_0
            try clear hx253_1
            try clear hx266_0
            try clear hx266_1
            try clear p245
            try clear p250
            try clear p251
            try clear p252
            try clear p253
            try clear p266
            try clear p6
            try clear q245
            try clear q250
            try clear q251
            try clear q252
            try clear q253
            try clear q266
            obtain ⟨x5_1, x6_1, rfl, HA, HK1, HO_5, BK244, HB⟩ := hrel
            cases gk with
            | zero => exact absurd HA.out (by simp [wigwagref05_laid.l0])
            | succ k1 =>
              have H := HA.out
              clear HA
              simp only [wigwagref05_laid.l0] at H
              by_cases c50 : x6_1 ≥ 0
              · rw [if_pos c50] at H
                have c50b0 : decide (0 ≤ x6_1) = true := decide_eq_true c50
                clear c50
                obtain ⟨ji51, hji51⟩ : ∃ j_ : Int, (wrap64 (x6_1 + 1)) = j_ := ⟨_, rfl⟩
                replace H : (if 0 ≤ (ji51) then (if (ji51) < (l0_9.length : Int) then (if 0 ≤ x6_1 then (if x6_1 < (l0_9.length : Int) then ((some (([IntKind.u64.wrap ((IntKind.u64.wrap (((rd_T47 l0_9 (ji51)).f0) - ((rd_T47 l0_9 x6_1).f1))) - 1), IntKind.u64.wrap ((IntKind.u64.wrap (((rd_T47 l0_9 x6_1).f1) - ((rd_T47 l0_9 x6_1).f0))) - 1)] : List Int) : List Int)).bind fun y254 => (if x5_1.length + y254.length < 17592186044416 then (wigwagref05_laid.l0 k1 (x5_1 ++ y254) (wrap64 (x6_1 - 1)) a0_0 a0_1 a0_2 a0_3 a0_4 a0_5 a0_6 a0_7 l0_8 l0_9) else (none))) else (none)) else (none)) else (none)) else (none)) = some r := by first | (rw [hji51] at H; exact H) | (simp only [hji51] at H ⊢; exact H)
                have hji51w : (IntKind.i64.wrap (x6_1 + 1)) = ji51 := (i64_w _).trans hji51
                by_cases c52 : 0 ≤ (ji51)
                · rw [if_pos c52] at H
                  have c52b0 : decide (0 ≤ (ji51)) = true := decide_eq_true c52
                  clear c52
                  by_cases c53 : (ji51) < (l0_9.length : Int)
                  · rw [if_pos c53] at H
                    have c53b0 : decide ((ji51) < (l0_9.length : Int)) = true := decide_eq_true c53
                    clear c53
                    by_cases c54 : 0 ≤ x6_1
                    · rw [if_pos c54] at H
                      have c54b0 : decide (0 ≤ x6_1) = true := decide_eq_true c54
                      clear c54
                      by_cases c55 : x6_1 < (l0_9.length : Int)
                      · rw [if_pos c55] at H
                        have c55b0 : decide (x6_1 < (l0_9.length : Int)) = true := decide_eq_true c55
                        clear c55
                        obtain ⟨y254, hy254⟩ : ∃ y_ : List Int, y_ = (([IntKind.u64.wrap ((IntKind.u64.wrap (((rd_T47 l0_9 (ji51)).f0) - ((rd_T47 l0_9 x6_1).f1))) - 1), IntKind.u64.wrap ((IntKind.u64.wrap (((rd_T47 l0_9 x6_1).f1) - ((rd_T47 l0_9 x6_1).f0))) - 1)] : List Int)) := ⟨_, rfl⟩
                        replace H : (if x5_1.length + y254.length < 17592186044416 then (wigwagref05_laid.l0 k1 (x5_1 ++ y254) (wrap64 (x6_1 - 1)) a0_0 a0_1 a0_2 a0_3 a0_4 a0_5 a0_6 a0_7 l0_8 l0_9) else (none)) = some r := by first | (rw [hy254]; with_reducible exact H) | (have H2_ := (Option.bind_some _ _).symm.trans H; rw [hy254]; with_reducible exact H2_) | (have H2_ := (Option.bind_some _ _).symm.trans H; with_reducible exact H2_) | with_reducible exact H | (rw [hy254]; exact H) | exact H
                        have Ny254 := Aside0.mk hy254
                        clear hy254
                        by_cases c56 : x5_1.length + y254.length < 17592186044416
                        · rw [if_pos c56] at H
                          have LMc56 := Aside0.mk c56
                          clear c56
                          obtain ⟨y257, hy257⟩ : ∃ y_ : List Int, y_ = (x5_1 ++ y254) := ⟨_, rfl⟩
                          replace H : (wigwagref05_laid.l0 k1 y257 (wrap64 (x6_1 - 1)) a0_0 a0_1 a0_2 a0_3 a0_4 a0_5 a0_6 a0_7 l0_8 l0_9) = some r := by first | (rw [hy257]; with_reducible exact H) | (have H2_ := (Option.bind_some _ _).symm.trans H; rw [hy257]; with_reducible exact H2_) | (have H2_ := (Option.bind_some _ _).symm.trans H; with_reducible exact H2_) | with_reducible exact H | (rw [hy257]; exact H) | exact H
                          have Ny257 := Aside0.mk hy257
                          clear hy257
                          have H' := Aside0.mk H
                          clear H
                          try go_wp2
                          have n0_ := Aside0.mk (Kd.R_drew HO_5.out)
                          have n1_ := Aside0.mk (blk_drew BK244.out)
                          have n2_ := Aside0.mk (below_drew1 HB.out)
                          clear HO_5
                          clear BK244
                          clear HB
                          have HO_5 := n0_
                          have BK244 := n1_
                          have HB := n2_
                          clear n0_ n1_ n2_
                          have p250 : 0 ≤ ((ji51) : Int) := of_decide_eq_true (by first | (with_reducible assumption) | assumption)
                          have q250 : (ji51) < (l0_9.length : Int) := of_decide_eq_true (by first | (with_reducible assumption) | assumption)
                          obtain ⟨ad250, e250, hx250_0, hx250_1⟩ := at_T47 HR0_9.out (ji51) p250 q250
                          have hw250_1 := hx250_1
                          have hw250_0 := hx250_0
                          obtain rfl : ad266 = ad250 := (by injection e250)
                          replace hx250_0 := (HB.out.cell (World.block_lt_of_cell? w _ hx250_0)).trans hx250_0
                          replace hx250_1 := (HB.out.cell (World.block_lt_of_cell? w _ hx250_1)).trans hx250_1
                          replace p250 := eq_true p250
                          replace q250 := eq_true q250
                          have p251 : 0 ≤ (x6_1 : Int) := of_decide_eq_true (by first | (with_reducible assumption) | assumption)
                          have q251 : x6_1 < (l0_9.length : Int) := of_decide_eq_true (by first | (with_reducible assumption) | assumption)
                          obtain ⟨ad251, e251, hx251_0, hx251_1⟩ := at_T47 HR0_9.out x6_1 p251 q251
                          have hw251_1 := hx251_1
                          have hw251_0 := hx251_0
                          obtain rfl : ad266 = ad251 := (by injection e251)
                          replace hx251_0 := (HB.out.cell (World.block_lt_of_cell? w _ hx251_0)).trans hx251_0
                          replace hx251_1 := (HB.out.cell (World.block_lt_of_cell? w _ hx251_1)).trans hx251_1
                          replace p251 := eq_true p251
                          replace q251 := eq_true q251
                          have p252 : 0 ≤ (x6_1 : Int) := of_decide_eq_true (by first | (with_reducible assumption) | assumption)
                          have q252 : x6_1 < (l0_9.length : Int) := of_decide_eq_true (by first | (with_reducible assumption) | assumption)
                          obtain ⟨ad252, e252, hx252_0, hx252_1⟩ := at_T47 HR0_9.out x6_1 p252 q252
                          have hw252_1 := hx252_1
                          have hw252_0 := hx252_0
                          obtain rfl : ad266 = ad252 := (by injection e252)
                          replace hx252_0 := (HB.out.cell (World.block_lt_of_cell? w _ hx252_0)).trans hx252_0
                          replace hx252_1 := (HB.out.cell (World.block_lt_of_cell? w _ hx252_1)).trans hx252_1
                          replace p252 := eq_true p252
                          replace q252 := eq_true q252
                          have p253 : 0 ≤ (x6_1 : Int) := of_decide_eq_true (by first | (with_reducible assumption) | assumption)
                          have q253 : x6_1 < (l0_9.length : Int) := of_decide_eq_true (by first | (with_reducible assumption) | assumption)
                          obtain ⟨ad253, e253, hx253_0, hx253_1⟩ := at_T47 HR0_9.out x6_1 p253 q253
                          have hw253_1 := hx253_1
                          have hw253_0 := hx253_0
                          obtain rfl : ad266 = ad253 := (by injection e253)
                          replace hx253_0 := (HB.out.cell (World.block_lt_of_cell? w _ hx253_0)).trans hx253_0
                          replace hx253_1 := (HB.out.cell (World.block_lt_of_cell? w _ hx253_1)).trans hx253_1
                          replace p253 := eq_true p253
                          replace q253 := eq_true q253
                          refine start_ (n := 33) (S := fun w' => w'.cell? ⟨gb244, 0, none⟩ = some (.int .i64 a0_0) ∧ w'.cell? ⟨gb244, 1, none⟩ = some (.int .u64 a0_1) ∧ w'.cell? ⟨gb244, 2, none⟩ = some (.int .u64 a0_2) ∧ w'.cell? ⟨gb244, 3, none⟩ = some (.int .u64 a0_3) ∧ w'.cell? ⟨gb244, 4, none⟩ = some (.int .u64 a0_4) ∧ w'.cell? ⟨gb244, 5, none⟩ = some (.int .u64 a0_5) ∧ w'.cell? ⟨gb244, 6, none⟩ = some (.int .u64 a0_6) ∧ w'.cell? ⟨gb244, 7, none⟩ = some (.bool a0_7) ∧ w'.cell? ⟨gb244, 8, none⟩ = some (.slice A0_8 l0_8.length c0_8) ∧ w'.cell? ⟨gb244, 9, none⟩ = some (.slice (some ad266) l0_9.length c0_9) ∧ w'.cell? (ad266.add (((ji51)).toNat * 2)) = some (.int .u64 ((rd_T47 l0_9 (ji51)).f0)) ∧ w'.cell? ⟨(ad266.add (((ji51)).toNat * 2)).block, (ad266.add (((ji51)).toNat * 2)).off + 1, none⟩ = some (.int .u64 ((rd_T47 l0_9 (ji51)).f1)) ∧ w'.cell? (ad266.add ((x6_1).toNat * 2)) = some (.int .u64 ((rd_T47 l0_9 x6_1).f0)) ∧ w'.cell? ⟨(ad266.add ((x6_1).toNat * 2)).block, (ad266.add ((x6_1).toNat * 2)).off + 1, none⟩ = some (.int .u64 ((rd_T47 l0_9 x6_1).f1)) ∧ w'.cell? (ad266.add ((x6_1).toNat * 2)) = some (.int .u64 ((rd_T47 l0_9 x6_1).f0)) ∧ w'.cell? ⟨(ad266.add ((x6_1).toNat * 2)).block, (ad266.add ((x6_1).toNat * 2)).off + 1, none⟩ = some (.int .u64 ((rd_T47 l0_9 x6_1).f1)) ∧ w'.cell? (ad266.add ((x6_1).toNat * 2)) = some (.int .u64 ((rd_T47 l0_9 x6_1).f0)) ∧ w'.cell? ⟨(ad266.add ((x6_1).toNat * 2)).block, (ad266.add ((x6_1).toNat * 2)).off + 1, none⟩ = some (.int .u64 ((rd_T47 l0_9 x6_1).f1))) (ds := []) #[false, false, false, false, false, false, false, false, false, false, false, false, false, false, false, false, false, false, false, false, false, false, false, false, false, false, false, false, false, false, false, false, false] (by kernel_rfl) rfl rfl ⟨(blk_cell BK244.out 0).trans rfl, (blk_cell BK244.out 1).trans rfl, (blk_cell BK244.out 2).trans rfl, (blk_cell BK244.out 3).trans rfl, (blk_cell BK244.out 4).trans rfl, (blk_cell BK244.out 5).trans rfl, (blk_cell BK244.out 6).trans rfl, (blk_cell BK244.out 7).trans rfl, (blk_cell BK244.out 8).trans rfl, (blk_cell BK244.out 9).trans rfl, ((HB.out.cell (World.block_lt_of_cell? w _ hw250_0)).trans hw250_0), ((HB.out.cell (World.block_lt_of_cell? w _ hw250_1)).trans hw250_1), ((HB.out.cell (World.block_lt_of_cell? w _ hw251_0)).trans hw251_0), ((HB.out.cell (World.block_lt_of_cell? w _ hw251_1)).trans hw251_1), ((HB.out.cell (World.block_lt_of_cell? w _ hw252_0)).trans hw252_0), ((HB.out.cell (World.block_lt_of_cell? w _ hw252_1)).trans hw252_1), ((HB.out.cell (World.block_lt_of_cell? w _ hw253_0)).trans hw253_0), ((HB.out.cell (World.block_lt_of_cell? w _ hw253_1)).trans hw253_1)⟩ (fun hHeld => ?_); refine with_tabW wigwagref05_laid.tab10 wigwagref05_laid.bits10 (fun HT_ HW_ => ?_)
                          generalize wr.drew = w57 at HO_5 BK244 HB hx250_0 hx250_1 hx251_0 hx251_1 hx252_0 hx252_1 hx253_0 hx253_1 hHeld ⊢
                          refine pure_ (i := 0) (N := some 43) (v := ?_) (a' := ?_) #[true, false, false, false, false, false, false, false, false, false, false, false, false, false, false, false, false, false, false, false, false, false, false, false, false, false, false, false, false, false, false, false, false] rfl rfl (any_of HT_.out (by kernel_rfl)) (fun _ _ _ h => h) (Or.inl ⟨by rfl, ?_⟩) ?_ ?_
                          rotate_left
                          · intro w'
                            go_simp
                            with_reducible rfl
                          rotate_left
                          · simp only [Act.put, List.setIfInBounds_toArray, List.set_cons_zero, List.set_cons_succ, i64_w, i32_w]
                            rfl
                          refine pure_ (i := 1) (N := some 44) (v := ?_) (a' := ?_) #[true, true, false, false, false, false, false, false, false, false, false, false, false, false, false, false, false, false, false, false, false, false, false, false, false, false, false, false, false, false, false, false, false] rfl rfl (any_of HT_.out (by kernel_rfl)) (fun _ _ _ h => h) (Or.inl ⟨by rfl, ?_⟩) ?_ ?_
                          rotate_left
                          · intro w'
                            go_simp
                            with_reducible rfl
                          rotate_left
                          · simp only [Act.put, List.setIfInBounds_toArray, List.set_cons_zero, List.set_cons_succ, i64_w, i32_w]
                            rfl
                          refine pure_ (i := 3) (N := some 46) (v := ?_) (a' := ?_) #[true, true, false, true, false, false, false, false, false, false, false, false, false, false, false, false, false, false, false, false, false, false, false, false, false, false, false, false, false, false, false, false, false] rfl rfl (any_of HT_.out (by kernel_rfl)) (fun _ _ _ h => h) (Or.inl ⟨by rfl, ?_⟩) ?_ ?_
                          rotate_left
                          · intro w'
                            go_simp
                            with_reducible rfl
                          rotate_left
                          · simp only [Act.put, List.setIfInBounds_toArray, List.set_cons_zero, List.set_cons_succ, i64_w, i32_w]
                            rfl
                          refine pure_ (i := 4) (N := some 47) (v := ?_) (a' := ?_) #[true, true, false, true, true, false, false, false, false, false, false, false, false, false, false, false, false, false, false, false, false, false, false, false, false, false, false, false, false, false, false, false, false] rfl rfl (any_of HT_.out (by kernel_rfl)) (fun _ _ _ h => h) (Or.inl ⟨by rfl, ?_⟩) ?_ ?_
                          rotate_left
                          · intro w'
                            go_simp
                            with_reducible rfl
                          rotate_left
                          · simp only [Act.put, List.setIfInBounds_toArray, List.set_cons_zero, List.set_cons_succ, i64_w, i32_w]
                            rfl
                          refine pure_ (i := 8) (N := some 51) (v := ?_) (a' := ?_) #[true, true, false, true, true, false, false, false, true, false, false, false, false, false, false, false, false, false, false, false, false, false, false, false, false, false, false, false, false, false, false, false, false] rfl rfl (any_of HT_.out (by kernel_rfl)) (fun _ _ _ h => h) (Or.inl ⟨by rfl, ?_⟩) ?_ ?_
                          rotate_left
                          · intro w'
                            go_simp
                            with_reducible rfl
                          rotate_left
                          · simp only [Act.put, List.setIfInBounds_toArray, List.set_cons_zero, List.set_cons_succ, i64_w, i32_w]
                            rfl
                          refine pure_ (i := 10) (N := some 53) (v := ?_) (a' := ?_) #[true, true, false, true, true, false, false, false, true, false, true, false, false, false, false, false, false, false, false, false, false, false, false, false, false, false, false, false, false, false, false, false, false] rfl rfl (any_of HT_.out (by kernel_rfl)) (fun _ _ _ h => h) (Or.inl ⟨by rfl, ?_⟩) ?_ ?_
                          rotate_left
                          · intro w'
                            go_simp
                            with_reducible rfl
                          rotate_left
                          · simp only [Act.put, List.setIfInBounds_toArray, List.set_cons_zero, List.set_cons_succ, i64_w, i32_w]
                            rfl
                          refine pure_ (i := 16) (N := some 59) (v := ?_) (a' := ?_) #[true, true, false, true, true, false, false, false, true, false, true, false, false, false, false, false, true, false, false, false, false, false, false, false, false, false, false, false, false, false, false, false, false] rfl rfl (any_of HT_.out (by kernel_rfl)) (fun _ _ _ h => h) (Or.inl ⟨by rfl, ?_⟩) ?_ ?_
                          rotate_left
                          · intro w'
                            go_simp
                            with_reducible rfl
                          rotate_left
                          · simp only [Act.put, List.setIfInBounds_toArray, List.set_cons_zero, List.set_cons_succ, i64_w, i32_w]
                            rfl
                          refine pure_ (i := 18) (N := some 61) (v := ?_) (a' := ?_) #[true, true, false, true, true, false, false, false, true, false, true, false, false, false, false, false, true, false, true, false, false, false, false, false, false, false, false, false, false, false, false, false, false] rfl rfl (any_of HT_.out (by kernel_rfl)) (fun _ _ _ h => h) (Or.inl ⟨by rfl, ?_⟩) ?_ ?_
                          rotate_left
                          · intro w'
                            go_simp
                            with_reducible rfl
                          rotate_left
                          · simp only [Act.put, List.setIfInBounds_toArray, List.set_cons_zero, List.set_cons_succ, i64_w, i32_w]
                            rfl
                          refine pure_ (i := 22) (N := some 65) (v := ?_) (a' := ?_) #[true, true, false, true, true, false, false, false, true, false, true, false, false, false, false, false, true, false, true, false, false, false, true, false, false, false, false, false, false, false, false, false, false] rfl rfl (any_of HT_.out (by kernel_rfl)) (fun _ _ _ h => h) (Or.inl ⟨by rfl, ?_⟩) ?_ ?_
                          rotate_left
                          · intro w'
                            go_simp
                            with_reducible rfl
                          rotate_left
                          · simp only [Act.put, List.setIfInBounds_toArray, List.set_cons_zero, List.set_cons_succ, i64_w, i32_w]
                            rfl
                          refine pure_ (i := 24) (N := some 67) (v := ?_) (a' := ?_) #[true, true, false, true, true, false, false, false, true, false, true, false, false, false, false, false, true, false, true, false, false, false, true, false, true, false, false, false, false, false, false, false, false] rfl rfl (any_of HT_.out (by kernel_rfl)) (fun _ _ _ h => h) (Or.inl ⟨by rfl, ?_⟩) ?_ ?_
                          rotate_left
                          · intro w'
                            go_simp
                            with_reducible rfl
                          rotate_left
                          · simp only [Act.put, List.setIfInBounds_toArray, List.set_cons_zero, List.set_cons_succ, i64_w, i32_w]
                            rfl
                          refine take_ (i := 2) (N := some 45) (v := ?_) (a' := ?_) #[true, true, true, true, true, false, false, false, true, false, true, false, false, false, false, false, true, false, true, false, false, false, true, false, true, false, false, false, false, false, false, false, false] rfl rfl (take_ofW HT_.out HW_.out (by kernel_rfl)) (fun _ _ _ h => h) (Or.inl ⟨by rfl, ?_⟩) hHeld ?_ ?_
                          rotate_left
                          · rintro w' ⟨s0, s1, s2, s3, s4, s5, s6, s7, s8, s9, s10, s11, s12, s13, s14, s15, s16, s17⟩
                            go_simp
                            with_reducible rfl
                          rotate_left
                          · simp only [Act.put, List.setIfInBounds_toArray, List.set_cons_zero, List.set_cons_succ, i64_w, i32_w]
                            rfl
                          refine pure_ (i := 5) (N := some 48) (v := ?_) (a' := ?_) #[true, true, true, true, true, true, false, false, true, false, true, false, false, false, false, false, true, false, true, false, false, false, true, false, true, false, false, false, false, false, false, false, false] rfl rfl (any_of HT_.out (by kernel_rfl)) (fun _ _ _ h => h) (Or.inl ⟨by rfl, ?_⟩) ?_ ?_
                          rotate_left
                          · intro w'
                            go_simp
                            with_reducible rfl
                          rotate_left
                          · simp only [Act.put, List.setIfInBounds_toArray, List.set_cons_zero, List.set_cons_succ, i64_w, i32_w]
                            rfl
                          refine pure_ (i := 6) (N := some 49) (v := ?_) (a' := ?_) #[true, true, true, true, true, true, true, false, true, false, true, false, false, false, false, false, true, false, true, false, false, false, true, false, true, false, false, false, false, false, false, false, false] rfl rfl (any_of HT_.out (by kernel_rfl)) (fun _ _ _ h => h) (Or.inl ⟨by rfl, ?_⟩) ?_ ?_
                          rotate_left
                          · intro w'
                            go_simp
                            with_reducible rfl
                          rotate_left
                          · simp only [Act.put, List.setIfInBounds_toArray, List.set_cons_zero, List.set_cons_succ, i64_w, i32_w]
                            rfl
                          refine take_ (i := 7) (N := some 50) (v := ?_) (a' := ?_) #[true, true, true, true, true, true, true, true, true, false, true, false, false, false, false, false, true, false, true, false, false, false, true, false, true, false, false, false, false, false, false, false, false] rfl rfl (take_ofW HT_.out HW_.out (by kernel_rfl)) (fun _ _ _ h => h) (Or.inl ⟨by rfl, ?_⟩) hHeld ?_ ?_
                          rotate_left
                          · rintro w' ⟨s0, s1, s2, s3, s4, s5, s6, s7, s8, s9, s10, s11, s12, s13, s14, s15, s16, s17⟩
                            go_simp
                            with_reducible rfl
                          rotate_left
                          · simp only [Act.put, List.setIfInBounds_toArray, List.set_cons_zero, List.set_cons_succ, i64_w, i32_w]
                            rfl
                          refine take_ (i := 9) (N := some 52) (v := ?_) (a' := ?_) #[true, true, true, true, true, true, true, true, true, true, true, false, false, false, false, false, true, false, true, false, false, false, true, false, true, false, false, false, false, false, false, false, false] rfl rfl (take_ofW HT_.out HW_.out (by kernel_rfl)) (fun _ _ _ h => h) (Or.inl ⟨by rfl, ?_⟩) hHeld ?_ ?_
                          rotate_left
                          · rintro w' ⟨s0, s1, s2, s3, s4, s5, s6, s7, s8, s9, s10, s11, s12, s13, s14, s15, s16, s17⟩
                            go_simp
                            with_reducible rfl
                          rotate_left
                          · simp only [Act.put, List.setIfInBounds_toArray, List.set_cons_zero, List.set_cons_succ, i64_w, i32_w]
                            rfl
                          refine pure_ (i := 11) (N := some 54) (v := ?_) (a' := ?_) #[true, true, true, true, true, true, true, true, true, true, true, true, false, false, false, false, true, false, true, false, false, false, true, false, true, false, false, false, false, false, false, false, false] rfl rfl (any_of HT_.out (by kernel_rfl)) (fun _ _ _ h => h) (Or.inl ⟨by rfl, ?_⟩) ?_ ?_
                          rotate_left
                          · intro w'
                            go_simp
                            with_reducible rfl
                          rotate_left
                          · simp only [Act.put, List.setIfInBounds_toArray, List.set_cons_zero, List.set_cons_succ, i64_w, i32_w]
                            rfl
                          refine pure_ (i := 12) (N := some 55) (v := ?_) (a' := ?_) #[true, true, true, true, true, true, true, true, true, true, true, true, true, false, false, false, true, false, true, false, false, false, true, false, true, false, false, false, false, false, false, false, false] rfl rfl (any_of HT_.out (by kernel_rfl)) (fun _ _ _ h => h) (Or.inl ⟨by rfl, ?_⟩) ?_ ?_
                          rotate_left
                          · intro w'
                            go_simp
                            with_reducible rfl
                          rotate_left
                          · simp only [Act.put, List.setIfInBounds_toArray, List.set_cons_zero, List.set_cons_succ, i64_w, i32_w]
                            rfl
                          refine take_ (i := 13) (N := some 56) (v := ?_) (a' := ?_) #[true, true, true, true, true, true, true, true, true, true, true, true, true, true, false, false, true, false, true, false, false, false, true, false, true, false, false, false, false, false, false, false, false] rfl rfl (take_ofW HT_.out HW_.out (by kernel_rfl)) (fun _ _ _ h => h) (Or.inl ⟨by rfl, ?_⟩) hHeld ?_ ?_
                          rotate_left
                          · rintro w' ⟨s0, s1, s2, s3, s4, s5, s6, s7, s8, s9, s10, s11, s12, s13, s14, s15, s16, s17⟩
                            go_simp
                            with_reducible rfl
                          rotate_left
                          · simp only [Act.put, List.setIfInBounds_toArray, List.set_cons_zero, List.set_cons_succ, i64_w, i32_w]
                            rfl
                          refine pure_ (i := 14) (N := some 57) (v := ?_) (a' := ?_) #[true, true, true, true, true, true, true, true, true, true, true, true, true, true, true, false, true, false, true, false, false, false, true, false, true, false, false, false, false, false, false, false, false] rfl rfl (any_of HT_.out (by kernel_rfl)) (fun _ _ _ h => h) (Or.inl ⟨by rfl, ?_⟩) ?_ ?_
                          rotate_left
                          · intro w'
                            go_simp
                            with_reducible rfl
                          rotate_left
                          · simp only [Act.put, List.setIfInBounds_toArray, List.set_cons_zero, List.set_cons_succ, i64_w, i32_w]
                            rfl
                          refine pure_ (i := 15) (N := some 58) (v := ?_) (a' := ?_) #[true, true, true, true, true, true, true, true, true, true, true, true, true, true, true, true, true, false, true, false, false, false, true, false, true, false, false, false, false, false, false, false, false] rfl rfl (any_of HT_.out (by kernel_rfl)) (fun _ _ _ h => h) (Or.inl ⟨by rfl, ?_⟩) ?_ ?_
                          rotate_left
                          · intro w'
                            go_simp
                            with_reducible rfl
                          rotate_left
                          · simp only [Act.put, List.setIfInBounds_toArray, List.set_cons_zero, List.set_cons_succ, i64_w, i32_w]
                            rfl
                          refine take_ (i := 17) (N := some 60) (v := ?_) (a' := ?_) #[true, true, true, true, true, true, true, true, true, true, true, true, true, true, true, true, true, true, true, false, false, false, true, false, true, false, false, false, false, false, false, false, false] rfl rfl (take_ofW HT_.out HW_.out (by kernel_rfl)) (fun _ _ _ h => h) (Or.inl ⟨by rfl, ?_⟩) hHeld ?_ ?_
                          rotate_left
                          · rintro w' ⟨s0, s1, s2, s3, s4, s5, s6, s7, s8, s9, s10, s11, s12, s13, s14, s15, s16, s17⟩
                            go_simp
                            with_reducible rfl
                          rotate_left
                          · simp only [Act.put, List.setIfInBounds_toArray, List.set_cons_zero, List.set_cons_succ, i64_w, i32_w]
                            rfl
                          refine pure_ (i := 19) (N := some 62) (v := ?_) (a' := ?_) #[true, true, true, true, true, true, true, true, true, true, true, true, true, true, true, true, true, true, true, true, false, false, true, false, true, false, false, false, false, false, false, false, false] rfl rfl (any_of HT_.out (by kernel_rfl)) (fun _ _ _ h => h) (Or.inl ⟨by rfl, ?_⟩) ?_ ?_
                          rotate_left
                          · intro w'
                            go_simp
                            with_reducible rfl
                          rotate_left
                          · simp only [Act.put, List.setIfInBounds_toArray, List.set_cons_zero, List.set_cons_succ, i64_w, i32_w]
                            rfl
                          refine pure_ (i := 20) (N := some 63) (v := ?_) (a' := ?_) #[true, true, true, true, true, true, true, true, true, true, true, true, true, true, true, true, true, true, true, true, true, false, true, false, true, false, false, false, false, false, false, false, false] rfl rfl (any_of HT_.out (by kernel_rfl)) (fun _ _ _ h => h) (Or.inl ⟨by rfl, ?_⟩) ?_ ?_
                          rotate_left
                          · intro w'
                            go_simp
                            with_reducible rfl
                          rotate_left
                          · simp only [Act.put, List.setIfInBounds_toArray, List.set_cons_zero, List.set_cons_succ, i64_w, i32_w]
                            rfl
                          refine take_ (i := 21) (N := some 64) (v := ?_) (a' := ?_) #[true, true, true, true, true, true, true, true, true, true, true, true, true, true, true, true, true, true, true, true, true, true, true, false, true, false, false, false, false, false, false, false, false] rfl rfl (take_ofW HT_.out HW_.out (by kernel_rfl)) (fun _ _ _ h => h) (Or.inl ⟨by rfl, ?_⟩) hHeld ?_ ?_
                          rotate_left
                          · rintro w' ⟨s0, s1, s2, s3, s4, s5, s6, s7, s8, s9, s10, s11, s12, s13, s14, s15, s16, s17⟩
                            go_simp
                            with_reducible rfl
                          rotate_left
                          · simp only [Act.put, List.setIfInBounds_toArray, List.set_cons_zero, List.set_cons_succ, i64_w, i32_w]
                            rfl
                          refine take_ (i := 23) (N := some 66) (v := ?_) (a' := ?_) #[true, true, true, true, true, true, true, true, true, true, true, true, true, true, true, true, true, true, true, true, true, true, true, true, true, false, false, false, false, false, false, false, false] rfl rfl (take_ofW HT_.out HW_.out (by kernel_rfl)) (fun _ _ _ h => h) (Or.inl ⟨by rfl, ?_⟩) hHeld ?_ ?_
                          rotate_left
                          · rintro w' ⟨s0, s1, s2, s3, s4, s5, s6, s7, s8, s9, s10, s11, s12, s13, s14, s15, s16, s17⟩
                            go_simp
                            with_reducible rfl
                          rotate_left
                          · simp only [Act.put, List.setIfInBounds_toArray, List.set_cons_zero, List.set_cons_succ, i64_w, i32_w]
                            rfl
                          refine pure_ (i := 25) (N := some 68) (v := ?_) (a' := ?_) #[true, true, true, true, true, true, true, true, true, true, true, true, true, true, true, true, true, true, true, true, true, true, true, true, true, true, false, false, false, false, false, false, false] rfl rfl (any_of HT_.out (by kernel_rfl)) (fun _ _ _ h => h) (Or.inl ⟨by rfl, ?_⟩) ?_ ?_
                          rotate_left
                          · intro w'
                            go_simp
                            with_reducible rfl
                          rotate_left
                          · simp only [Act.put, List.setIfInBounds_toArray, List.set_cons_zero, List.set_cons_succ, i64_w, i32_w]
                            rfl
                          refine pure_ (i := 26) (N := some 69) (v := ?_) (a' := ?_) #[true, true, true, true, true, true, true, true, true, true, true, true, true, true, true, true, true, true, true, true, true, true, true, true, true, true, true, false, false, false, false, false, false] rfl rfl (any_of HT_.out (by kernel_rfl)) (fun _ _ _ h => h) (Or.inl ⟨by rfl, ?_⟩) ?_ ?_
                          rotate_left
                          · intro w'
                            go_simp
                            with_reducible rfl
                          rotate_left
                          · simp only [Act.put, List.setIfInBounds_toArray, List.set_cons_zero, List.set_cons_succ, i64_w, i32_w]
                            rfl
                          refine take_ (i := 27) (N := some 70) (v := ?_) (a' := ?_) #[true, true, true, true, true, true, true, true, true, true, true, true, true, true, true, true, true, true, true, true, true, true, true, true, true, true, true, true, false, false, false, false, false] rfl rfl (take_ofW HT_.out HW_.out (by kernel_rfl)) (fun _ _ _ h => h) (Or.inl ⟨by rfl, ?_⟩) hHeld ?_ ?_
                          rotate_left
                          · rintro w' ⟨s0, s1, s2, s3, s4, s5, s6, s7, s8, s9, s10, s11, s12, s13, s14, s15, s16, s17⟩
                            go_simp
                            with_reducible rfl
                          rotate_left
                          · simp only [Act.put, List.setIfInBounds_toArray, List.set_cons_zero, List.set_cons_succ, i64_w, i32_w]
                            rfl
                          refine pure_ (i := 28) (N := some 71) (v := ?_) (a' := ?_) #[true, true, true, true, true, true, true, true, true, true, true, true, true, true, true, true, true, true, true, true, true, true, true, true, true, true, true, true, true, false, false, false, false] rfl rfl (any_of HT_.out (by kernel_rfl)) (fun _ _ _ h => h) (Or.inl ⟨by rfl, ?_⟩) ?_ ?_
                          rotate_left
                          · intro w'
                            go_simp
                            with_reducible rfl
                          rotate_left
                          · simp only [Act.put, List.setIfInBounds_toArray, List.set_cons_zero, List.set_cons_succ, i64_w, i32_w]
                            rfl
                          refine pure_ (i := 29) (N := some 72) (v := ?_) (a' := ?_) #[true, true, true, true, true, true, true, true, true, true, true, true, true, true, true, true, true, true, true, true, true, true, true, true, true, true, true, true, true, true, false, false, false] rfl rfl (any_of HT_.out (by kernel_rfl)) (fun _ _ _ h => h) (Or.inl ⟨by rfl, ?_⟩) ?_ ?_
                          rotate_left
                          · intro w'
                            go_simp
                            with_reducible rfl
                          rotate_left
                          · simp only [Act.put, List.setIfInBounds_toArray, List.set_cons_zero, List.set_cons_succ, i64_w, i32_w]
                            rfl
                          refine one_ (i := 30) (N := some 73) #[true, true, true, true, true, true, true, true, true, true, true, true, true, true, true, true, true, true, true, true, true, true, true, true, true, true, true, true, true, true, true, false, false] rfl rfl (one_of HT_.out (by kernel_rfl)) (by decide) (fun K hK => ?_)
                          refine Kd.R_lit_step (Kd.int .u64) _ 23 ?hg (N := 73) ?hd (xs := ([IntKind.u64.wrap ((IntKind.u64.wrap (((rd_T47 l0_9 (ji51)).f0) - ((rd_T47 l0_9 x6_1).f1))) - 1), IntKind.u64.wrap ((IntKind.u64.wrap (((rd_T47 l0_9 x6_1).f1) - ((rd_T47 l0_9 x6_1).f0))) - 1)] : List Int)) (inner := [.int .u64 (IntKind.u64.wrap ((IntKind.u64.wrap (((rd_T47 l0_9 (ji51)).f0) - ((rd_T47 l0_9 x6_1).f1))) - 1)), .int .u64 (IntKind.u64.wrap ((IntKind.u64.wrap (((rd_T47 l0_9 x6_1).f1) - ((rd_T47 l0_9 x6_1).f0))) - 1))]) (ok := fun _ => True) (okp := fun _ => True) ?hr ?hp (fun _ hk => hk) trivial (Below.refl _ _) (Nat.le_refl _) (by simp) ?_; (case hd => rfl); (case hg => rfl); (case hr => first | (go_simp; done) | (go_simp; rfl)); (case hp => exact (Reps.one (show Kd.M (Kd.int .u64) _ _ _ (IntKind.u64.wrap ((IntKind.u64.wrap (((rd_T47 l0_9 (ji51)).f0) - ((rd_T47 l0_9 x6_1).f1))) - 1)) [.int .u64 (IntKind.u64.wrap ((IntKind.u64.wrap (((rd_T47 l0_9 (ji51)).f0) - ((rd_T47 l0_9 x6_1).f1))) - 1))] from rfl) (Reps.one (show Kd.M (Kd.int .u64) _ _ _ (IntKind.u64.wrap ((IntKind.u64.wrap (((rd_T47 l0_9 x6_1).f1) - ((rd_T47 l0_9 x6_1).f0))) - 1)) [.int .u64 (IntKind.u64.wrap ((IntKind.u64.wrap (((rd_T47 l0_9 x6_1).f1) - ((rd_T47 l0_9 x6_1).f0))) - 1))] from rfl) (Reps.none _ _))))
                          intro v255 w58 ho59 hb hg_ hnew_
                          clear hg_ hnew_
                          (first | rw [← Ny254.out] at ho59 | (simp only [Int.reduceToNat] at ho59; rw [← Ny254.out] at ho59))
                          have n0_ := Aside0.mk (Kd.R_elder' (by (with_reducible repeat (first | apply Kd.R_alloc | apply Kd.R_drewN | apply Kd.R_drew)); exact HO_5.out) (Kd.R_base ho59) hb)
                          have n1_ := Aside0.mk (Kd.R_lower (Kd.R_new' ho59 (Kd.R_lt (by (with_reducible repeat (first | apply Kd.R_alloc | apply Kd.R_drewN | apply Kd.R_drew)); exact HO_5.out))) (below_size (by repeat (first | (with_reducible first | exact HB.out | apply below_alloc | apply pw_below_drewN | apply below_drew1 | refine below_set ?_ GE244.out) | exact HB.out))))
                          have n2_ := Aside0.mk (blk_below (g := gb244) (o := .cells #[.int .i64 a0_0, .int .u64 a0_1, .int .u64 a0_2, .int .u64 a0_3, .int .u64 a0_4, .int .u64 a0_5, .int .u64 a0_6, .bool a0_7, .slice A0_8 l0_8.length c0_8, .slice (some ad266) l0_9.length c0_9] 27 (0, 0)) (by (with_reducible repeat (first | refine blk_drewN ?_ _ | refine blk_drew ?_ | refine blk_alloc ?_ _)); exact BK244.out) hb)
                          have n3_ := Aside0.mk (below_step (by repeat (first | (with_reducible first | exact HB.out | apply below_alloc | apply pw_below_drewN | apply below_drew1 | refine below_set ?_ GE244.out) | exact HB.out)) hb)
                          clear HO_5
                          clear BK244
                          clear HB
                          have HO_5 := n0_
                          have HO256 := n1_
                          have BK244 := n2_
                          have HB := n3_
                          clear n0_ n1_ n2_ n3_
                          clear hb ho59
                          obtain ⟨Ao61, co61, eo61⟩ := Kd.R_slice HO256.out
                          (first | subst eo61 | (injection eo61 with f1_ f2_ f3_; have f4_ := f1_.symm; have f5_ := f3_.symm; clear f1_ f2_ f3_; subst f4_; subst f5_))
                          refine hK.out _ _ ⟨(blk_cell BK244.out 0).trans rfl, (blk_cell BK244.out 1).trans rfl, (blk_cell BK244.out 2).trans rfl, (blk_cell BK244.out 3).trans rfl, (blk_cell BK244.out 4).trans rfl, (blk_cell BK244.out 5).trans rfl, (blk_cell BK244.out 6).trans rfl, (blk_cell BK244.out 7).trans rfl, (blk_cell BK244.out 8).trans rfl, (blk_cell BK244.out 9).trans rfl, ((HB.out.cell (World.block_lt_of_cell? w _ hw250_0)).trans hw250_0), ((HB.out.cell (World.block_lt_of_cell? w _ hw250_1)).trans hw250_1), ((HB.out.cell (World.block_lt_of_cell? w _ hw251_0)).trans hw251_0), ((HB.out.cell (World.block_lt_of_cell? w _ hw251_1)).trans hw251_1), ((HB.out.cell (World.block_lt_of_cell? w _ hw252_0)).trans hw252_0), ((HB.out.cell (World.block_lt_of_cell? w _ hw252_1)).trans hw252_1), ((HB.out.cell (World.block_lt_of_cell? w _ hw253_0)).trans hw253_0), ((HB.out.cell (World.block_lt_of_cell? w _ hw253_1)).trans hw253_1)⟩ (fun hHeld => ?_)
                          clear hK K
                          refine norm_ (a' := ?_) ?_ ?_
                          rotate_left
                          · show Act.put _ (some 73) _ = _
                            simp only [Act.put, List.setIfInBounds_toArray, List.set_cons_zero, List.set_cons_succ, i64_w, i32_w]
                            rfl
                          refine one_ (i := 31) (N := some 74) #[true, true, true, true, true, true, true, true, true, true, true, true, true, true, true, true, true, true, true, true, true, true, true, true, true, true, true, true, true, true, true, true, false] rfl rfl (one_of HT_.out (by kernel_rfl)) (by decide) (fun K hK => ?_)
                          refine Kd.R_append_rows_step (Kd.int .u64) (w0 := w) w.heap.size (by rfl) (.tmp 43) (.tmp 73) 62 23 (.int .u64 0) 8 rfl Try.underlying62 info23 rfl (by decide) (by omega) u5 x5_1 y254 _ _ _ (fun k_ => some k_ ≠ (.slice Ao61 y254.length co61 : Value).ownBlock) (fun _ => False) rfl rfl ?aO ?aR (fun _ _ h => h) (fun _ h => h.elim) ?aF ?aB ?aS ?aL ?_
                          (case aR => repeat (first | exact (Kd.R_reads' HO256.out).2.2 | (with_reducible refine Kd.C_alloc ?_ _) | (with_reducible refine Kd.C_drewN ?_ _) | (with_reducible refine Kd.C_drew ?_)))
                          (case aB => exact (by repeat (first | (with_reducible first | exact HB.out | apply below_alloc | apply pw_below_drewN | apply below_drew1 | refine below_set ?_ GE244.out) | exact HB.out)))
                          (case aF => exact (fun k_ hk => Kd.fresh' (Kd.R_lt (by (with_reducible repeat (first | apply Kd.R_alloc | apply Kd.R_drewN | apply Kd.R_drew)); exact HO256.out)) k_ hk))
                          (case aO => exact (by (with_reducible repeat (first | apply Kd.R_alloc | apply Kd.R_drewN | apply Kd.R_drew)); exact Kd.R_mono HO_5.out (fun _ hk => hk.2)))
                          (case aS => exact (below_size (by repeat (first | (with_reducible first | exact HB.out | apply below_alloc | apply pw_below_drewN | apply below_drew1 | refine below_set ?_ GE244.out) | exact HB.out))))
                          (case aL => have := LMc56.out; omega)
                          intro v258 w60 ho hb hg hat
                          rw [← Ny257.out] at ho
                          have n0_ := Aside0.mk (blk_grown (g := gb244) (o := .cells #[.int .i64 a0_0, .int .u64 a0_1, .int .u64 a0_2, .int .u64 a0_3, .int .u64 a0_4, .int .u64 a0_5, .int .u64 a0_6, .bool a0_7, .slice A0_8 l0_8.length c0_8, .slice (some ad266) l0_9.length c0_9] 27 (0, 0)) (by (with_reducible repeat (first | refine blk_drewN ?_ _ | refine blk_drew ?_ | refine blk_alloc ?_ _)); exact BK244.out) hg (Kd.R_ne HO_5.out BK244.out (by decide)))
                          have n1_ := Aside0.mk (Kd.R_after (ok := (fun _ => True)) (by (with_reducible repeat (first | apply Kd.R_alloc | apply Kd.R_drewN | apply Kd.R_drew)); exact HO256.out) hg hat)
                          have n2_ := Aside0.mk (hb)
                          have n3_ := Aside0.mk (ho)
                          clear BK244
                          clear HO256
                          clear HB
                          clear HO_5
                          have BK244 := n0_
                          have HO256 := n1_
                          have HB := n2_
                          have HO259 := n3_
                          clear n0_ n1_ n2_ n3_
                          clear ho hb hg hat
                          refine hK.out _ _ ⟨(blk_cell BK244.out 0).trans rfl, (blk_cell BK244.out 1).trans rfl, (blk_cell BK244.out 2).trans rfl, (blk_cell BK244.out 3).trans rfl, (blk_cell BK244.out 4).trans rfl, (blk_cell BK244.out 5).trans rfl, (blk_cell BK244.out 6).trans rfl, (blk_cell BK244.out 7).trans rfl, (blk_cell BK244.out 8).trans rfl, (blk_cell BK244.out 9).trans rfl, ((HB.out.cell (World.block_lt_of_cell? w _ hw250_0)).trans hw250_0), ((HB.out.cell (World.block_lt_of_cell? w _ hw250_1)).trans hw250_1), ((HB.out.cell (World.block_lt_of_cell? w _ hw251_0)).trans hw251_0), ((HB.out.cell (World.block_lt_of_cell? w _ hw251_1)).trans hw251_1), ((HB.out.cell (World.block_lt_of_cell? w _ hw252_0)).trans hw252_0), ((HB.out.cell (World.block_lt_of_cell? w _ hw252_1)).trans hw252_1), ((HB.out.cell (World.block_lt_of_cell? w _ hw253_0)).trans hw253_0), ((HB.out.cell (World.block_lt_of_cell? w _ hw253_1)).trans hw253_1)⟩ (fun hHeld => ?_)
                          clear hK K
                          refine norm_ (a' := ?_) ?_ ?_
                          rotate_left
                          · show Act.put _ (some 74) _ = _
                            simp only [Act.put, List.setIfInBounds_toArray, List.set_cons_zero, List.set_cons_succ, i64_w, i32_w]
                            rfl
                          refine pure_ (i := 32) (N := some 5) (v := ?_) (a' := ?_) #[true, true, true, true, true, true, true, true, true, true, true, true, true, true, true, true, true, true, true, true, true, true, true, true, true, true, true, true, true, true, true, true, true] rfl rfl (any_of HT_.out (by kernel_rfl)) (fun _ _ _ h => h) (Or.inl ⟨by rfl, ?_⟩) ?_ ?_
                          rotate_left
                          · intro w'
                            go_simp
                            with_reducible rfl
                          rotate_left
                          · simp only [Act.put, List.setIfInBounds_toArray, List.set_cons_zero, List.set_cons_succ, i64_w, i32_w]
                            rfl
                          refine done_ (done_of HT_.out (by kernel_rfl)) ?_
                          try go_wp2
                          go_roundg k1
                          case measure => have := HK1.out; omega
                          case rel => exact ⟨(y257), (wrap64 (x6_1 - 1)), (by first | rfl | (simp; done) | (simp [*]; done)), H', ⟨by have := HK1.out; omega⟩, ⟨by (with_reducible repeat (first | apply Kd.R_alloc | apply Kd.R_drewN | apply Kd.R_drew)); exact Kd.R_mono HO259.out (fun _ hk => trivial)⟩, ⟨by (with_reducible repeat (first | refine blk_drewN ?_ _ | refine blk_drew ?_ | refine blk_alloc ?_ _)); exact BK244.out⟩, ⟨by repeat (first | (with_reducible first | exact HB.out | apply below_alloc | apply pw_below_drewN | apply below_drew1 | refine below_set ?_ GE244.out) | exact HB.out)⟩⟩
                        · rw [if_neg c56] at H
                          exact absurd H (by simp)
                      · rw [if_neg c55] at H
                        exact absurd H (by simp)
                    · rw [if_neg c54] at H
                      exact absurd H (by simp)
                  · rw [if_neg c53] at H
                    exact absurd H (by simp)
                · rw [if_neg c52] at H
                  exact absurd H (by simp)
              · rw [if_neg c50] at H
                have c50b0 : decide (0 ≤ x6_1) = false := decide_eq_false c50
                clear c50
                by_cases c62 : x5_1.length < 17592186044416
                · rw [if_pos c62] at H
                  have LMc62 := Aside0.mk c62
                  clear c62
                  obtain ⟨y260, hy260⟩ : ∃ y_ : List Int, y_ = (x5_1 ++ [a0_5]) := ⟨_, rfl⟩
                  replace H : (if a0_0 = 3 then (if y260.length < 17592186044416 then (some (y260 ++ [a0_6])) else (none)) else (some y260)) = some r := by first | (rw [hy260]; with_reducible exact H) | (have H2_ := (Option.bind_some _ _).symm.trans H; rw [hy260]; with_reducible exact H2_) | (have H2_ := (Option.bind_some _ _).symm.trans H; with_reducible exact H2_) | with_reducible exact H | (rw [hy260]; exact H) | exact H
                  have Ny260 := Aside0.mk hy260
                  clear hy260
                  by_cases c63 : a0_0 = 3
                  · rw [if_pos c63] at H
                    have c63b0 : (a0_0 == 3) = true := beq_iff_eq.mpr c63
                    have c63b1 : (a0_0 != 3) = false := bne_eq_false_iff_eq.mpr c63
                    clear c63
                    by_cases c64 : y260.length < 17592186044416
                    · rw [if_pos c64] at H
                      have LMc64 := Aside0.mk c64
                      clear c64
                      obtain ⟨y263, hy263⟩ : ∃ y_ : List Int, y_ = (y260 ++ [a0_6]) := ⟨_, rfl⟩
                      replace H : (some y263) = some r := by first | (rw [hy263]; with_reducible exact H) | (have H2_ := (Option.bind_some _ _).symm.trans H; rw [hy263]; with_reducible exact H2_) | (have H2_ := (Option.bind_some _ _).symm.trans H; with_reducible exact H2_) | with_reducible exact H | (rw [hy263]; exact H) | exact H
                      have Ny263 := Aside0.mk hy263
                      clear hy263
                      obtain rfl := Option.some.inj H
                      have hcz65_0 : wr.cell? ⟨gb244, 0, none⟩ = some (.int .i64 a0_0) := (blk_cell BK244.out 0).trans rfl
                      have hcz65_1 : wr.cell? ⟨gb244, 1, none⟩ = some (.int .u64 a0_1) := (blk_cell BK244.out 1).trans rfl
                      have hcz65_2 : wr.cell? ⟨gb244, 2, none⟩ = some (.int .u64 a0_2) := (blk_cell BK244.out 2).trans rfl
                      have hcz65_3 : wr.cell? ⟨gb244, 3, none⟩ = some (.int .u64 a0_3) := (blk_cell BK244.out 3).trans rfl
                      have hcz65_4 : wr.cell? ⟨gb244, 4, none⟩ = some (.int .u64 a0_4) := (blk_cell BK244.out 4).trans rfl
                      have hcz65_5 : wr.cell? ⟨gb244, 5, none⟩ = some (.int .u64 a0_5) := (blk_cell BK244.out 5).trans rfl
                      have hcz65_6 : wr.cell? ⟨gb244, 6, none⟩ = some (.int .u64 a0_6) := (blk_cell BK244.out 6).trans rfl
                      have hcz65_7 : wr.cell? ⟨gb244, 7, none⟩ = some (.bool a0_7) := (blk_cell BK244.out 7).trans rfl
                      have hcz65_8 : wr.cell? ⟨gb244, 8, none⟩ = some (.slice A0_8 l0_8.length c0_8) := (blk_cell BK244.out 8).trans rfl
                      have hcz65_9 : wr.cell? ⟨gb244, 9, none⟩ = some (.slice (some ad266) l0_9.length c0_9) := (blk_cell BK244.out 9).trans rfl
                      have hfz65_0 := blk_frozen BK244.out 0
                      have hfz65_1 := blk_frozen BK244.out 1
                      have hfz65_2 := blk_frozen BK244.out 2
                      have hfz65_3 := blk_frozen BK244.out 3
                      have hfz65_4 := blk_frozen BK244.out 4
                      have hfz65_5 := blk_frozen BK244.out 5
                      have hfz65_6 := blk_frozen BK244.out 6
                      have hfz65_7 := blk_frozen BK244.out 7
                      have hfz65_8 := blk_frozen BK244.out 8
                      have hfz65_9 := blk_frozen BK244.out 9
                      go_wp2_with (first | ((with_reducible refine gate_builtin (b := .append) (xs := #[.tmp 75, .tmp 78]) rfl ?_); at_builtin; refine Kd.R_append (Kd.int .u64) (w0 := w) w.heap.size rfl (.tmp 75) (.tmp 78) 62 23 (.int .u64 0) 8 rfl Try.underlying62 info23 rfl (by decide) (by omega) u5 x5_1 a0_5 [.int .u64 a0_5] (fun _ => True) (fun _ => False) rfl rfl ?aP (fun _ hk => hk.elim) ?aF ?aO ?aB ?aS ?aL ?_; (case aP => exact rfl); (case aB => exact (by repeat (first | (with_reducible first | exact HB.out | apply below_alloc | apply pw_below_drewN | apply below_drew1 | refine below_set ?_ GE244.out) | exact HB.out))); (case aF => exact (fun _ _ => trivial)); (case aO => exact (by (with_reducible repeat (first | apply Kd.R_alloc | apply Kd.R_drewN | apply Kd.R_drew)); exact HO_5.out)); (case aS => exact (below_size (by repeat (first | (with_reducible first | exact HB.out | apply below_alloc | apply pw_below_drewN | apply below_drew1 | refine below_set ?_ GE244.out) | exact HB.out)))); (case aL => have := LMc62.out; omega); intro v261 w66 ho hb hg hat; rw [← Ny260.out] at ho; have n0_ := Aside0.mk (blk_grown (g := gb244) (o := .cells #[.int .i64 a0_0, .int .u64 a0_1, .int .u64 a0_2, .int .u64 a0_3, .int .u64 a0_4, .int .u64 a0_5, .int .u64 a0_6, .bool a0_7, .slice A0_8 l0_8.length c0_8, .slice (some ad266) l0_9.length c0_9] 27 (0, 0)) (by (with_reducible repeat (first | refine blk_drewN ?_ _ | refine blk_drew ?_ | refine blk_alloc ?_ _)); exact BK244.out) hg (Kd.R_ne HO_5.out BK244.out (by decide))); have n1_ := Aside0.mk (hb); have n2_ := Aside0.mk (ho); clear BK244; clear HB; clear HO_5; have BK244 := n0_; have HB := n1_; have HO262 := n2_; clear n0_ n1_ n2_; clear ho hb hg hat; have hcz67_0 : w66.cell? ⟨gb244, 0, none⟩ = some (.int .i64 a0_0) := (blk_cell BK244.out 0).trans rfl; have hcz67_1 : w66.cell? ⟨gb244, 1, none⟩ = some (.int .u64 a0_1) := (blk_cell BK244.out 1).trans rfl; have hcz67_2 : w66.cell? ⟨gb244, 2, none⟩ = some (.int .u64 a0_2) := (blk_cell BK244.out 2).trans rfl; have hcz67_3 : w66.cell? ⟨gb244, 3, none⟩ = some (.int .u64 a0_3) := (blk_cell BK244.out 3).trans rfl; have hcz67_4 : w66.cell? ⟨gb244, 4, none⟩ = some (.int .u64 a0_4) := (blk_cell BK244.out 4).trans rfl; have hcz67_5 : w66.cell? ⟨gb244, 5, none⟩ = some (.int .u64 a0_5) := (blk_cell BK244.out 5).trans rfl; have hcz67_6 : w66.cell? ⟨gb244, 6, none⟩ = some (.int .u64 a0_6) := (blk_cell BK244.out 6).trans rfl; have hcz67_7 : w66.cell? ⟨gb244, 7, none⟩ = some (.bool a0_7) := (blk_cell BK244.out 7).trans rfl; have hcz67_8 : w66.cell? ⟨gb244, 8, none⟩ = some (.slice A0_8 l0_8.length c0_8) := (blk_cell BK244.out 8).trans rfl; have hcz67_9 : w66.cell? ⟨gb244, 9, none⟩ = some (.slice (some ad266) l0_9.length c0_9) := (blk_cell BK244.out 9).trans rfl; have hfz67_0 := blk_frozen BK244.out 0; have hfz67_1 := blk_frozen BK244.out 1; have hfz67_2 := blk_frozen BK244.out 2; have hfz67_3 := blk_frozen BK244.out 3; have hfz67_4 := blk_frozen BK244.out 4; have hfz67_5 := blk_frozen BK244.out 5; have hfz67_6 := blk_frozen BK244.out 6; have hfz67_7 := blk_frozen BK244.out 7; have hfz67_8 := blk_frozen BK244.out 8; have hfz67_9 := blk_frozen BK244.out 9) | ((with_reducible refine gate_builtin (b := .append) (xs := #[.tmp 83, .tmp 86]) rfl ?_); at_builtin; refine Kd.R_append (Kd.int .u64) (w0 := w) w.heap.size rfl (.tmp 83) (.tmp 86) 62 23 (.int .u64 0) 8 rfl Try.underlying62 info23 rfl (by decide) (by omega) v261 y260 a0_6 [.int .u64 a0_6] (fun _ => True) (fun _ => False) rfl rfl ?aP (fun _ hk => hk.elim) ?aF ?aO ?aB ?aS ?aL ?_; (case aP => exact rfl); (case aB => exact (by repeat (first | (with_reducible first | exact HB.out | apply below_alloc | apply pw_below_drewN | apply below_drew1 | refine below_set ?_ GE244.out) | exact HB.out))); (case aF => exact (fun _ _ => trivial)); (case aO => exact (by (with_reducible repeat (first | apply Kd.R_alloc | apply Kd.R_drewN | apply Kd.R_drew)); exact HO262.out)); (case aS => exact (below_size (by repeat (first | (with_reducible first | exact HB.out | apply below_alloc | apply pw_below_drewN | apply below_drew1 | refine below_set ?_ GE244.out) | exact HB.out)))); (case aL => have := LMc64.out; omega); intro v264 w68 ho hb hg hat; rw [← Ny263.out] at ho; have n0_ := Aside0.mk (blk_grown (g := gb244) (o := .cells #[.int .i64 a0_0, .int .u64 a0_1, .int .u64 a0_2, .int .u64 a0_3, .int .u64 a0_4, .int .u64 a0_5, .int .u64 a0_6, .bool a0_7, .slice A0_8 l0_8.length c0_8, .slice (some ad266) l0_9.length c0_9] 27 (0, 0)) (by (with_reducible repeat (first | refine blk_drewN ?_ _ | refine blk_drew ?_ | refine blk_alloc ?_ _)); exact BK244.out) hg (Kd.R_ne HO262.out BK244.out (by decide))); have n1_ := Aside0.mk (hb); have n2_ := Aside0.mk (ho); clear BK244; clear HB; clear HO262; have BK244 := n0_; have HB := n1_; have HO265 := n2_; clear n0_ n1_ n2_; clear ho hb hg hat))
                      go_ret
                      exact ⟨_, by first | rfl | (simp [errW_none, errW_some] <;> rfl) | (simp only [← hji39]; first | rfl | (simp [errW_none, errW_some] <;> rfl)) | (simp [*, errW_none, errW_some] <;> rfl), by (with_reducible repeat (first | apply Kd.R_alloc | apply Kd.R_drewN | apply Kd.R_drew)); exact HO265.out, by repeat (first | (with_reducible first | exact HB.out | apply below_alloc | apply pw_below_drewN | apply below_drew1 | refine below_set ?_ GE244.out) | exact HB.out)⟩
                    · rw [if_neg c64] at H
                      exact absurd H (by simp)
                  · rw [if_neg c63] at H
                    have c63b0 : (a0_0 == 3) = false := beq_eq_false_iff_ne.mpr c63
                    have c63b1 : (a0_0 != 3) = true := bne_iff_ne.mpr c63
                    obtain rfl := Option.some.inj H
                    have hcz69_0 : wr.cell? ⟨gb244, 0, none⟩ = some (.int .i64 a0_0) := (blk_cell BK244.out 0).trans rfl
                    have hcz69_1 : wr.cell? ⟨gb244, 1, none⟩ = some (.int .u64 a0_1) := (blk_cell BK244.out 1).trans rfl
                    have hcz69_2 : wr.cell? ⟨gb244, 2, none⟩ = some (.int .u64 a0_2) := (blk_cell BK244.out 2).trans rfl
                    have hcz69_3 : wr.cell? ⟨gb244, 3, none⟩ = some (.int .u64 a0_3) := (blk_cell BK244.out 3).trans rfl
                    have hcz69_4 : wr.cell? ⟨gb244, 4, none⟩ = some (.int .u64 a0_4) := (blk_cell BK244.out 4).trans rfl
                    have hcz69_5 : wr.cell? ⟨gb244, 5, none⟩ = some (.int .u64 a0_5) := (blk_cell BK244.out 5).trans rfl
                    have hcz69_6 : wr.cell? ⟨gb244, 6, none⟩ = some (.int .u64 a0_6) := (blk_cell BK244.out 6).trans rfl
                    have hcz69_7 : wr.cell? ⟨gb244, 7, none⟩ = some (.bool a0_7) := (blk_cell BK244.out 7).trans rfl
                    have hcz69_8 : wr.cell? ⟨gb244, 8, none⟩ = some (.slice A0_8 l0_8.length c0_8) := (blk_cell BK244.out 8).trans rfl
                    have hcz69_9 : wr.cell? ⟨gb244, 9, none⟩ = some (.slice (some ad266) l0_9.length c0_9) := (blk_cell BK244.out 9).trans rfl
                    have hfz69_0 := blk_frozen BK244.out 0
                    have hfz69_1 := blk_frozen BK244.out 1
                    have hfz69_2 := blk_frozen BK244.out 2
                    have hfz69_3 := blk_frozen BK244.out 3
                    have hfz69_4 := blk_frozen BK244.out 4
                    have hfz69_5 := blk_frozen BK244.out 5
                    have hfz69_6 := blk_frozen BK244.out 6
                    have hfz69_7 := blk_frozen BK244.out 7
                    have hfz69_8 := blk_frozen BK244.out 8
                    have hfz69_9 := blk_frozen BK244.out 9
                    go_wp2_with (first | ((with_reducible refine gate_builtin (b := .append) (xs := #[.tmp 75, .tmp 78]) rfl ?_); at_builtin; refine Kd.R_append (Kd.int .u64) (w0 := w) w.heap.size rfl (.tmp 75) (.tmp 78) 62 23 (.int .u64 0) 8 rfl Try.underlying62 info23 rfl (by decide) (by omega) u5 x5_1 a0_5 [.int .u64 a0_5] (fun _ => True) (fun _ => False) rfl rfl ?aP (fun _ hk => hk.elim) ?aF ?aO ?aB ?aS ?aL ?_; (case aP => exact rfl); (case aB => exact (by repeat (first | (with_reducible first | exact HB.out | apply below_alloc | apply pw_below_drewN | apply below_drew1 | refine below_set ?_ GE244.out) | exact HB.out))); (case aF => exact (fun _ _ => trivial)); (case aO => exact (by (with_reducible repeat (first | apply Kd.R_alloc | apply Kd.R_drewN | apply Kd.R_drew)); exact HO_5.out)); (case aS => exact (below_size (by repeat (first | (with_reducible first | exact HB.out | apply below_alloc | apply pw_below_drewN | apply below_drew1 | refine below_set ?_ GE244.out) | exact HB.out)))); (case aL => have := LMc62.out; omega); intro v261 w70 ho hb hg hat; rw [← Ny260.out] at ho; have n0_ := Aside0.mk (blk_grown (g := gb244) (o := .cells #[.int .i64 a0_0, .int .u64 a0_1, .int .u64 a0_2, .int .u64 a0_3, .int .u64 a0_4, .int .u64 a0_5, .int .u64 a0_6, .bool a0_7, .slice A0_8 l0_8.length c0_8, .slice (some ad266) l0_9.length c0_9] 27 (0, 0)) (by (with_reducible repeat (first | refine blk_drewN ?_ _ | refine blk_drew ?_ | refine blk_alloc ?_ _)); exact BK244.out) hg (Kd.R_ne HO_5.out BK244.out (by decide))); have n1_ := Aside0.mk (hb); have n2_ := Aside0.mk (ho); clear BK244; clear HB; clear HO_5; have BK244 := n0_; have HB := n1_; have HO262 := n2_; clear n0_ n1_ n2_; clear ho hb hg hat; have hcz71_0 : w70.cell? ⟨gb244, 0, none⟩ = some (.int .i64 a0_0) := (blk_cell BK244.out 0).trans rfl; have hcz71_1 : w70.cell? ⟨gb244, 1, none⟩ = some (.int .u64 a0_1) := (blk_cell BK244.out 1).trans rfl; have hcz71_2 : w70.cell? ⟨gb244, 2, none⟩ = some (.int .u64 a0_2) := (blk_cell BK244.out 2).trans rfl; have hcz71_3 : w70.cell? ⟨gb244, 3, none⟩ = some (.int .u64 a0_3) := (blk_cell BK244.out 3).trans rfl; have hcz71_4 : w70.cell? ⟨gb244, 4, none⟩ = some (.int .u64 a0_4) := (blk_cell BK244.out 4).trans rfl; have hcz71_5 : w70.cell? ⟨gb244, 5, none⟩ = some (.int .u64 a0_5) := (blk_cell BK244.out 5).trans rfl; have hcz71_6 : w70.cell? ⟨gb244, 6, none⟩ = some (.int .u64 a0_6) := (blk_cell BK244.out 6).trans rfl; have hcz71_7 : w70.cell? ⟨gb244, 7, none⟩ = some (.bool a0_7) := (blk_cell BK244.out 7).trans rfl; have hcz71_8 : w70.cell? ⟨gb244, 8, none⟩ = some (.slice A0_8 l0_8.length c0_8) := (blk_cell BK244.out 8).trans rfl; have hcz71_9 : w70.cell? ⟨gb244, 9, none⟩ = some (.slice (some ad266) l0_9.length c0_9) := (blk_cell BK244.out 9).trans rfl; have hfz71_0 := blk_frozen BK244.out 0; have hfz71_1 := blk_frozen BK244.out 1; have hfz71_2 := blk_frozen BK244.out 2; have hfz71_3 := blk_frozen BK244.out 3; have hfz71_4 := blk_frozen BK244.out 4; have hfz71_5 := blk_frozen BK244.out 5; have hfz71_6 := blk_frozen BK244.out 6; have hfz71_7 := blk_frozen BK244.out 7; have hfz71_8 := blk_frozen BK244.out 8; have hfz71_9 := blk_frozen BK244.out 9))
                    go_ret
                    exact ⟨_, by first | rfl | (simp [errW_none, errW_some] <;> rfl) | (simp only [← hji39]; first | rfl | (simp [errW_none, errW_some] <;> rfl)) | (simp [*, errW_none, errW_some] <;> rfl), by (with_reducible repeat (first | apply Kd.R_alloc | apply Kd.R_drewN | apply Kd.R_drew)); exact HO262.out, by repeat (first | (with_reducible first | exact HB.out | apply below_alloc | apply pw_below_drewN | apply below_drew1 | refine below_set ?_ GE244.out) | exact HB.out)⟩
                · rw [if_neg c62] at H
                  exact absurd H (by simp)
        · rw [if_neg c41] at H
          exact absurd H (by simp)
      · rw [if_neg c40] at H
        exact absurd H (by simp)
    · rw [if_neg c38] at H
      have c38b0 : (a0_0 == 3) = false := beq_eq_false_iff_ne.mpr c38
      have c38b1 : (a0_0 != 3) = true := bne_iff_ne.mpr c38
      by_cases c72 : a0_0 = 4
      · rw [if_pos c72] at H
        have c72b0 : (a0_0 == 4) = true := beq_iff_eq.mpr c72
        have c72b1 : (a0_0 != 4) = false := bne_eq_false_iff_eq.mpr c72
        clear c72
        obtain ⟨y271, hy271⟩ : ∃ y_ : List Int, y_ = (([4, a0_1, a0_4, a0_3] : List Int)) := ⟨_, rfl⟩
        replace H : (some y271) = some r := by first | (rw [hy271]; with_reducible exact H) | (have H2_ := (Option.bind_some _ _).symm.trans H; rw [hy271]; with_reducible exact H2_) | (have H2_ := (Option.bind_some _ _).symm.trans H; with_reducible exact H2_) | with_reducible exact H | (rw [hy271]; exact H) | exact H
        have Ny271 := Aside0.mk hy271
        clear hy271
        obtain rfl := Option.some.inj H
        go_enter Try.func28, Try.ntmps28
        go_wp2_with (first | ((with_reducible refine gate_dst (N := 1) rfl ?_); refine box_event ?hg (N := 1) ?hd (cs := #[.int .i64 a0_0, .int .u64 a0_1, .int .u64 a0_2, .int .u64 a0_3, .int .u64 a0_4, .int .u64 a0_5, .int .u64 a0_6, .bool a0_7, .slice A0_8 l0_8.length c0_8, .slice A0_9 l0_9.length c0_9]) (t := 27) ?hr ?_; (case hd => rfl); (case hg => rfl); (case hr => first | (go_simp; done) | (go_simp; rfl)); intro gb244 hg w73 hbox hb; have n0_ := Aside0.mk (below_step (by repeat (first | (with_reducible first | exact HB.out | apply below_alloc | apply pw_below_drewN | apply below_drew1) | exact HB.out)) hb); have n1_ := Aside0.mk (hbox); have n2_ := Aside0.mk ((by rw [hg]; exact (below_size (by repeat (first | (with_reducible first | exact HB.out | apply below_alloc | apply pw_below_drewN | apply below_drew1) | exact HB.out))) : w.heap.size ≤ gb244)); have n3_ := Aside0.mk ((by rw [hg]; exact (below_size (by repeat (first | (with_reducible first | exact HB.out | apply below_alloc | apply pw_below_drewN | apply below_drew1) | exact HB.out))) : w.heap.size ≤ gb244)); clear HB; have HB := n0_; have BK244 := n1_; have GW244 := n2_; have GE244 := n3_; clear n0_ n1_ n2_ n3_; clear hb hbox hg; have hcz74_0 : w73.cell? ⟨gb244, 0, none⟩ = some (.int .i64 a0_0) := (blk_cell BK244.out 0).trans rfl; have hcz74_1 : w73.cell? ⟨gb244, 1, none⟩ = some (.int .u64 a0_1) := (blk_cell BK244.out 1).trans rfl; have hcz74_2 : w73.cell? ⟨gb244, 2, none⟩ = some (.int .u64 a0_2) := (blk_cell BK244.out 2).trans rfl; have hcz74_3 : w73.cell? ⟨gb244, 3, none⟩ = some (.int .u64 a0_3) := (blk_cell BK244.out 3).trans rfl; have hcz74_4 : w73.cell? ⟨gb244, 4, none⟩ = some (.int .u64 a0_4) := (blk_cell BK244.out 4).trans rfl; have hcz74_5 : w73.cell? ⟨gb244, 5, none⟩ = some (.int .u64 a0_5) := (blk_cell BK244.out 5).trans rfl; have hcz74_6 : w73.cell? ⟨gb244, 6, none⟩ = some (.int .u64 a0_6) := (blk_cell BK244.out 6).trans rfl; have hcz74_7 : w73.cell? ⟨gb244, 7, none⟩ = some (.bool a0_7) := (blk_cell BK244.out 7).trans rfl; have hcz74_8 : w73.cell? ⟨gb244, 8, none⟩ = some (.slice A0_8 l0_8.length c0_8) := (blk_cell BK244.out 8).trans rfl; have hcz74_9 : w73.cell? ⟨gb244, 9, none⟩ = some (.slice A0_9 l0_9.length c0_9) := (blk_cell BK244.out 9).trans rfl; have hfz74_0 := blk_frozen BK244.out 0; have hfz74_1 := blk_frozen BK244.out 1; have hfz74_2 := blk_frozen BK244.out 2; have hfz74_3 := blk_frozen BK244.out 3; have hfz74_4 := blk_frozen BK244.out 4; have hfz74_5 := blk_frozen BK244.out 5; have hfz74_6 := blk_frozen BK244.out 6; have hfz74_7 := blk_frozen BK244.out 7; have hfz74_8 := blk_frozen BK244.out 8; have hfz74_9 := blk_frozen BK244.out 9) | ((with_reducible refine gate_dst (N := 97) rfl ?_); refine Kd.R_lit (Kd.int .u64) _ 23 ?hg (N := 97) ?hd (xs := ([4, a0_1, a0_4, a0_3] : List Int)) (inner := [.int .u64 4, .int .u64 a0_1, .int .u64 a0_4, .int .u64 a0_3]) (ok := fun _ => True) (okp := fun _ => True) ?hr ?hp (fun _ hk => hk) trivial (Below.refl _ _) (Nat.le_refl _) (by simp) ?_; (case hd => rfl); (case hg => rfl); (case hr => first | (go_simp; done) | (go_simp; rfl)); (case hp => exact (Reps.one (show Kd.M (Kd.int .u64) _ _ _ 4 [.int .u64 4] from rfl) (Reps.one (show Kd.M (Kd.int .u64) _ _ _ a0_1 [.int .u64 a0_1] from rfl) (Reps.one (show Kd.M (Kd.int .u64) _ _ _ a0_4 [.int .u64 a0_4] from rfl) (Reps.one (show Kd.M (Kd.int .u64) _ _ _ a0_3 [.int .u64 a0_3] from rfl) (Reps.none _ _)))))); intro v272 w75 ho76 hb hg_ hnew_; clear hg_ hnew_; (first | rw [← Ny271.out] at ho76 | (simp only [Int.reduceToNat] at ho76; rw [← Ny271.out] at ho76)); have n0_ := Aside0.mk (Kd.R_lower ho76 (below_size (by repeat (first | (with_reducible first | exact HB.out | apply below_alloc | apply pw_below_drewN | apply below_drew1 | refine below_set ?_ GE244.out) | exact HB.out)))); have n1_ := Aside0.mk (blk_below (g := gb244) (o := .cells #[.int .i64 a0_0, .int .u64 a0_1, .int .u64 a0_2, .int .u64 a0_3, .int .u64 a0_4, .int .u64 a0_5, .int .u64 a0_6, .bool a0_7, .slice A0_8 l0_8.length c0_8, .slice A0_9 l0_9.length c0_9] 27 (0, 0)) (by (with_reducible repeat (first | refine blk_drewN ?_ _ | refine blk_drew ?_ | refine blk_alloc ?_ _)); exact BK244.out) hb); have n2_ := Aside0.mk (below_step (by repeat (first | (with_reducible first | exact HB.out | apply below_alloc | apply pw_below_drewN | apply below_drew1 | refine below_set ?_ GE244.out) | exact HB.out)) hb); clear BK244; clear HB; have HO273 := n0_; have BK244 := n1_; have HB := n2_; clear n0_ n1_ n2_; clear hb ho76))
        go_ret
        exact ⟨_, by first | rfl | (simp [errW_none, errW_some] <;> rfl) | (simp [*, errW_none, errW_some] <;> rfl), by (with_reducible repeat (first | apply Kd.R_alloc | apply Kd.R_drewN | apply Kd.R_drew)); exact HO273.out, by repeat (first | (with_reducible first | exact HB.out | apply below_alloc | apply pw_below_drewN | apply below_drew1 | refine below_set ?_ GE244.out) | exact HB.out)⟩
      · rw [if_neg c72] at H
        have c72b0 : (a0_0 == 4) = false := beq_eq_false_iff_ne.mpr c72
        have c72b1 : (a0_0 != 4) = true := bne_iff_ne.mpr c72
        by_cases c77 : a0_0 = 5
        · rw [if_pos c77] at H
          have c77b0 : (a0_0 == 5) = true := beq_iff_eq.mpr c77
          have c77b1 : (a0_0 != 5) = false := bne_eq_false_iff_eq.mpr c77
          clear c77
          obtain ⟨y274, hy274⟩ : ∃ y_ : List Int, y_ = (([5, a0_1, a0_4] : List Int)) := ⟨_, rfl⟩
          replace H : (some y274) = some r := by first | (rw [hy274]; with_reducible exact H) | (have H2_ := (Option.bind_some _ _).symm.trans H; rw [hy274]; with_reducible exact H2_) | (have H2_ := (Option.bind_some _ _).symm.trans H; with_reducible exact H2_) | with_reducible exact H | (rw [hy274]; exact H) | exact H
          have Ny274 := Aside0.mk hy274
          clear hy274
          obtain rfl := Option.some.inj H
          go_enter Try.func28, Try.ntmps28
          go_wp2_with (first | ((with_reducible refine gate_dst (N := 1) rfl ?_); refine box_event ?hg (N := 1) ?hd (cs := #[.int .i64 a0_0, .int .u64 a0_1, .int .u64 a0_2, .int .u64 a0_3, .int .u64 a0_4, .int .u64 a0_5, .int .u64 a0_6, .bool a0_7, .slice A0_8 l0_8.length c0_8, .slice A0_9 l0_9.length c0_9]) (t := 27) ?hr ?_; (case hd => rfl); (case hg => rfl); (case hr => first | (go_simp; done) | (go_simp; rfl)); intro gb244 hg w78 hbox hb; have n0_ := Aside0.mk (below_step (by repeat (first | (with_reducible first | exact HB.out | apply below_alloc | apply pw_below_drewN | apply below_drew1) | exact HB.out)) hb); have n1_ := Aside0.mk (hbox); have n2_ := Aside0.mk ((by rw [hg]; exact (below_size (by repeat (first | (with_reducible first | exact HB.out | apply below_alloc | apply pw_below_drewN | apply below_drew1) | exact HB.out))) : w.heap.size ≤ gb244)); have n3_ := Aside0.mk ((by rw [hg]; exact (below_size (by repeat (first | (with_reducible first | exact HB.out | apply below_alloc | apply pw_below_drewN | apply below_drew1) | exact HB.out))) : w.heap.size ≤ gb244)); clear HB; have HB := n0_; have BK244 := n1_; have GW244 := n2_; have GE244 := n3_; clear n0_ n1_ n2_ n3_; clear hb hbox hg; have hcz79_0 : w78.cell? ⟨gb244, 0, none⟩ = some (.int .i64 a0_0) := (blk_cell BK244.out 0).trans rfl; have hcz79_1 : w78.cell? ⟨gb244, 1, none⟩ = some (.int .u64 a0_1) := (blk_cell BK244.out 1).trans rfl; have hcz79_2 : w78.cell? ⟨gb244, 2, none⟩ = some (.int .u64 a0_2) := (blk_cell BK244.out 2).trans rfl; have hcz79_3 : w78.cell? ⟨gb244, 3, none⟩ = some (.int .u64 a0_3) := (blk_cell BK244.out 3).trans rfl; have hcz79_4 : w78.cell? ⟨gb244, 4, none⟩ = some (.int .u64 a0_4) := (blk_cell BK244.out 4).trans rfl; have hcz79_5 : w78.cell? ⟨gb244, 5, none⟩ = some (.int .u64 a0_5) := (blk_cell BK244.out 5).trans rfl; have hcz79_6 : w78.cell? ⟨gb244, 6, none⟩ = some (.int .u64 a0_6) := (blk_cell BK244.out 6).trans rfl; have hcz79_7 : w78.cell? ⟨gb244, 7, none⟩ = some (.bool a0_7) := (blk_cell BK244.out 7).trans rfl; have hcz79_8 : w78.cell? ⟨gb244, 8, none⟩ = some (.slice A0_8 l0_8.length c0_8) := (blk_cell BK244.out 8).trans rfl; have hcz79_9 : w78.cell? ⟨gb244, 9, none⟩ = some (.slice A0_9 l0_9.length c0_9) := (blk_cell BK244.out 9).trans rfl; have hfz79_0 := blk_frozen BK244.out 0; have hfz79_1 := blk_frozen BK244.out 1; have hfz79_2 := blk_frozen BK244.out 2; have hfz79_3 := blk_frozen BK244.out 3; have hfz79_4 := blk_frozen BK244.out 4; have hfz79_5 := blk_frozen BK244.out 5; have hfz79_6 := blk_frozen BK244.out 6; have hfz79_7 := blk_frozen BK244.out 7; have hfz79_8 := blk_frozen BK244.out 8; have hfz79_9 := blk_frozen BK244.out 9) | ((with_reducible refine gate_dst (N := 104) rfl ?_); refine Kd.R_lit (Kd.int .u64) _ 23 ?hg (N := 104) ?hd (xs := ([5, a0_1, a0_4] : List Int)) (inner := [.int .u64 5, .int .u64 a0_1, .int .u64 a0_4]) (ok := fun _ => True) (okp := fun _ => True) ?hr ?hp (fun _ hk => hk) trivial (Below.refl _ _) (Nat.le_refl _) (by simp) ?_; (case hd => rfl); (case hg => rfl); (case hr => first | (go_simp; done) | (go_simp; rfl)); (case hp => exact (Reps.one (show Kd.M (Kd.int .u64) _ _ _ 5 [.int .u64 5] from rfl) (Reps.one (show Kd.M (Kd.int .u64) _ _ _ a0_1 [.int .u64 a0_1] from rfl) (Reps.one (show Kd.M (Kd.int .u64) _ _ _ a0_4 [.int .u64 a0_4] from rfl) (Reps.none _ _))))); intro v275 w80 ho81 hb hg_ hnew_; clear hg_ hnew_; (first | rw [← Ny274.out] at ho81 | (simp only [Int.reduceToNat] at ho81; rw [← Ny274.out] at ho81)); have n0_ := Aside0.mk (Kd.R_lower ho81 (below_size (by repeat (first | (with_reducible first | exact HB.out | apply below_alloc | apply pw_below_drewN | apply below_drew1 | refine below_set ?_ GE244.out) | exact HB.out)))); have n1_ := Aside0.mk (blk_below (g := gb244) (o := .cells #[.int .i64 a0_0, .int .u64 a0_1, .int .u64 a0_2, .int .u64 a0_3, .int .u64 a0_4, .int .u64 a0_5, .int .u64 a0_6, .bool a0_7, .slice A0_8 l0_8.length c0_8, .slice A0_9 l0_9.length c0_9] 27 (0, 0)) (by (with_reducible repeat (first | refine blk_drewN ?_ _ | refine blk_drew ?_ | refine blk_alloc ?_ _)); exact BK244.out) hb); have n2_ := Aside0.mk (below_step (by repeat (first | (with_reducible first | exact HB.out | apply below_alloc | apply pw_below_drewN | apply below_drew1 | refine below_set ?_ GE244.out) | exact HB.out)) hb); clear BK244; clear HB; have HO276 := n0_; have BK244 := n1_; have HB := n2_; clear n0_ n1_ n2_; clear hb ho81))
          go_ret
          exact ⟨_, by first | rfl | (simp [errW_none, errW_some] <;> rfl) | (simp [*, errW_none, errW_some] <;> rfl), by (with_reducible repeat (first | apply Kd.R_alloc | apply Kd.R_drewN | apply Kd.R_drew)); exact HO276.out, by repeat (first | (with_reducible first | exact HB.out | apply below_alloc | apply pw_below_drewN | apply below_drew1 | refine below_set ?_ GE244.out) | exact HB.out)⟩
        · rw [if_neg c77] at H
          have c77b0 : (a0_0 == 5) = false := beq_eq_false_iff_ne.mpr c77
          have c77b1 : (a0_0 != 5) = true := bne_iff_ne.mpr c77
          by_cases c82 : a0_0 = 6
          · rw [if_pos c82] at H
            have c82b0 : (a0_0 == 6) = true := beq_iff_eq.mpr c82
            have c82b1 : (a0_0 != 6) = false := bne_eq_false_iff_eq.mpr c82
            clear c82
            obtain ⟨y277, hy277⟩ : ∃ y_ : List Int, y_ = (([6, a0_3, a0_2, a0_1] : List Int)) := ⟨_, rfl⟩
            replace H : (some y277) = some r := by first | (rw [hy277]; with_reducible exact H) | (have H2_ := (Option.bind_some _ _).symm.trans H; rw [hy277]; with_reducible exact H2_) | (have H2_ := (Option.bind_some _ _).symm.trans H; with_reducible exact H2_) | with_reducible exact H | (rw [hy277]; exact H) | exact H
            have Ny277 := Aside0.mk hy277
            clear hy277
            obtain rfl := Option.some.inj H
            go_enter Try.func28, Try.ntmps28
            go_wp2_with (first | ((with_reducible refine gate_dst (N := 1) rfl ?_); refine box_event ?hg (N := 1) ?hd (cs := #[.int .i64 a0_0, .int .u64 a0_1, .int .u64 a0_2, .int .u64 a0_3, .int .u64 a0_4, .int .u64 a0_5, .int .u64 a0_6, .bool a0_7, .slice A0_8 l0_8.length c0_8, .slice A0_9 l0_9.length c0_9]) (t := 27) ?hr ?_; (case hd => rfl); (case hg => rfl); (case hr => first | (go_simp; done) | (go_simp; rfl)); intro gb244 hg w83 hbox hb; have n0_ := Aside0.mk (below_step (by repeat (first | (with_reducible first | exact HB.out | apply below_alloc | apply pw_below_drewN | apply below_drew1) | exact HB.out)) hb); have n1_ := Aside0.mk (hbox); have n2_ := Aside0.mk ((by rw [hg]; exact (below_size (by repeat (first | (with_reducible first | exact HB.out | apply below_alloc | apply pw_below_drewN | apply below_drew1) | exact HB.out))) : w.heap.size ≤ gb244)); have n3_ := Aside0.mk ((by rw [hg]; exact (below_size (by repeat (first | (with_reducible first | exact HB.out | apply below_alloc | apply pw_below_drewN | apply below_drew1) | exact HB.out))) : w.heap.size ≤ gb244)); clear HB; have HB := n0_; have BK244 := n1_; have GW244 := n2_; have GE244 := n3_; clear n0_ n1_ n2_ n3_; clear hb hbox hg; have hcz84_0 : w83.cell? ⟨gb244, 0, none⟩ = some (.int .i64 a0_0) := (blk_cell BK244.out 0).trans rfl; have hcz84_1 : w83.cell? ⟨gb244, 1, none⟩ = some (.int .u64 a0_1) := (blk_cell BK244.out 1).trans rfl; have hcz84_2 : w83.cell? ⟨gb244, 2, none⟩ = some (.int .u64 a0_2) := (blk_cell BK244.out 2).trans rfl; have hcz84_3 : w83.cell? ⟨gb244, 3, none⟩ = some (.int .u64 a0_3) := (blk_cell BK244.out 3).trans rfl; have hcz84_4 : w83.cell? ⟨gb244, 4, none⟩ = some (.int .u64 a0_4) := (blk_cell BK244.out 4).trans rfl; have hcz84_5 : w83.cell? ⟨gb244, 5, none⟩ = some (.int .u64 a0_5) := (blk_cell BK244.out 5).trans rfl; have hcz84_6 : w83.cell? ⟨gb244, 6, none⟩ = some (.int .u64 a0_6) := (blk_cell BK244.out 6).trans rfl; have hcz84_7 : w83.cell? ⟨gb244, 7, none⟩ = some (.bool a0_7) := (blk_cell BK244.out 7).trans rfl; have hcz84_8 : w83.cell? ⟨gb244, 8, none⟩ = some (.slice A0_8 l0_8.length c0_8) := (blk_cell BK244.out 8).trans rfl; have hcz84_9 : w83.cell? ⟨gb244, 9, none⟩ = some (.slice A0_9 l0_9.length c0_9) := (blk_cell BK244.out 9).trans rfl; have hfz84_0 := blk_frozen BK244.out 0; have hfz84_1 := blk_frozen BK244.out 1; have hfz84_2 := blk_frozen BK244.out 2; have hfz84_3 := blk_frozen BK244.out 3; have hfz84_4 := blk_frozen BK244.out 4; have hfz84_5 := blk_frozen BK244.out 5; have hfz84_6 := blk_frozen BK244.out 6; have hfz84_7 := blk_frozen BK244.out 7; have hfz84_8 := blk_frozen BK244.out 8; have hfz84_9 := blk_frozen BK244.out 9) | ((with_reducible refine gate_dst (N := 113) rfl ?_); refine Kd.R_lit (Kd.int .u64) _ 23 ?hg (N := 113) ?hd (xs := ([6, a0_3, a0_2, a0_1] : List Int)) (inner := [.int .u64 6, .int .u64 a0_3, .int .u64 a0_2, .int .u64 a0_1]) (ok := fun _ => True) (okp := fun _ => True) ?hr ?hp (fun _ hk => hk) trivial (Below.refl _ _) (Nat.le_refl _) (by simp) ?_; (case hd => rfl); (case hg => rfl); (case hr => first | (go_simp; done) | (go_simp; rfl)); (case hp => exact (Reps.one (show Kd.M (Kd.int .u64) _ _ _ 6 [.int .u64 6] from rfl) (Reps.one (show Kd.M (Kd.int .u64) _ _ _ a0_3 [.int .u64 a0_3] from rfl) (Reps.one (show Kd.M (Kd.int .u64) _ _ _ a0_2 [.int .u64 a0_2] from rfl) (Reps.one (show Kd.M (Kd.int .u64) _ _ _ a0_1 [.int .u64 a0_1] from rfl) (Reps.none _ _)))))); intro v278 w85 ho86 hb hg_ hnew_; clear hg_ hnew_; (first | rw [← Ny277.out] at ho86 | (simp only [Int.reduceToNat] at ho86; rw [← Ny277.out] at ho86)); have n0_ := Aside0.mk (Kd.R_lower ho86 (below_size (by repeat (first | (with_reducible first | exact HB.out | apply below_alloc | apply pw_below_drewN | apply below_drew1 | refine below_set ?_ GE244.out) | exact HB.out)))); have n1_ := Aside0.mk (blk_below (g := gb244) (o := .cells #[.int .i64 a0_0, .int .u64 a0_1, .int .u64 a0_2, .int .u64 a0_3, .int .u64 a0_4, .int .u64 a0_5, .int .u64 a0_6, .bool a0_7, .slice A0_8 l0_8.length c0_8, .slice A0_9 l0_9.length c0_9] 27 (0, 0)) (by (with_reducible repeat (first | refine blk_drewN ?_ _ | refine blk_drew ?_ | refine blk_alloc ?_ _)); exact BK244.out) hb); have n2_ := Aside0.mk (below_step (by repeat (first | (with_reducible first | exact HB.out | apply below_alloc | apply pw_below_drewN | apply below_drew1 | refine below_set ?_ GE244.out) | exact HB.out)) hb); clear BK244; clear HB; have HO279 := n0_; have BK244 := n1_; have HB := n2_; clear n0_ n1_ n2_; clear hb ho86))
            go_ret
            exact ⟨_, by first | rfl | (simp [errW_none, errW_some] <;> rfl) | (simp [*, errW_none, errW_some] <;> rfl), by (with_reducible repeat (first | apply Kd.R_alloc | apply Kd.R_drewN | apply Kd.R_drew)); exact HO279.out, by repeat (first | (with_reducible first | exact HB.out | apply below_alloc | apply pw_below_drewN | apply below_drew1 | refine below_set ?_ GE244.out) | exact HB.out)⟩
          · rw [if_neg c82] at H
            have c82b0 : (a0_0 == 6) = false := beq_eq_false_iff_ne.mpr c82
            have c82b1 : (a0_0 != 6) = true := bne_iff_ne.mpr c82
            by_cases c87 : a0_0 = 14
            · rw [if_pos c87] at H
              have c87b0 : (a0_0 == 14) = true := beq_iff_eq.mpr c87
              have c87b1 : (a0_0 != 14) = false := bne_eq_false_iff_eq.mpr c87
              clear c87
              by_cases c88 : a0_7 = true
              · subst c88
                have H1 : (some (([15, a0_1, a0_2, IntKind.u64.wrap ((l0_8.length : Int))] : List Int))) = some r := by rw [if_pos rfl] at H; exact H
                clear H
                have H := H1
                clear H1
                obtain ⟨y280, hy280⟩ : ∃ y_ : List Int, y_ = (([15, a0_1, a0_2, IntKind.u64.wrap ((l0_8.length : Int))] : List Int)) := ⟨_, rfl⟩
                replace H : (some y280) = some r := by first | (rw [hy280]; with_reducible exact H) | (have H2_ := (Option.bind_some _ _).symm.trans H; rw [hy280]; with_reducible exact H2_) | (have H2_ := (Option.bind_some _ _).symm.trans H; with_reducible exact H2_) | with_reducible exact H | (rw [hy280]; exact H) | exact H
                have Ny280 := Aside0.mk hy280
                clear hy280
                obtain rfl := Option.some.inj H
                go_enter Try.func28, Try.ntmps28
                go_wp2_with (first | ((with_reducible refine gate_dst (N := 1) rfl ?_); refine box_event ?hg (N := 1) ?hd (cs := #[.int .i64 a0_0, .int .u64 a0_1, .int .u64 a0_2, .int .u64 a0_3, .int .u64 a0_4, .int .u64 a0_5, .int .u64 a0_6, .bool true, .slice A0_8 l0_8.length c0_8, .slice A0_9 l0_9.length c0_9]) (t := 27) ?hr ?_; (case hd => rfl); (case hg => rfl); (case hr => first | (go_simp; done) | (go_simp; rfl)); intro gb244 hg w89 hbox hb; have n0_ := Aside0.mk (below_step (by repeat (first | (with_reducible first | exact HB.out | apply below_alloc | apply pw_below_drewN | apply below_drew1) | exact HB.out)) hb); have n1_ := Aside0.mk (hbox); have n2_ := Aside0.mk ((by rw [hg]; exact (below_size (by repeat (first | (with_reducible first | exact HB.out | apply below_alloc | apply pw_below_drewN | apply below_drew1) | exact HB.out))) : w.heap.size ≤ gb244)); have n3_ := Aside0.mk ((by rw [hg]; exact (below_size (by repeat (first | (with_reducible first | exact HB.out | apply below_alloc | apply pw_below_drewN | apply below_drew1) | exact HB.out))) : w.heap.size ≤ gb244)); clear HB; have HB := n0_; have BK244 := n1_; have GW244 := n2_; have GE244 := n3_; clear n0_ n1_ n2_ n3_; clear hb hbox hg; have hcz90_0 : w89.cell? ⟨gb244, 0, none⟩ = some (.int .i64 a0_0) := (blk_cell BK244.out 0).trans rfl; have hcz90_1 : w89.cell? ⟨gb244, 1, none⟩ = some (.int .u64 a0_1) := (blk_cell BK244.out 1).trans rfl; have hcz90_2 : w89.cell? ⟨gb244, 2, none⟩ = some (.int .u64 a0_2) := (blk_cell BK244.out 2).trans rfl; have hcz90_3 : w89.cell? ⟨gb244, 3, none⟩ = some (.int .u64 a0_3) := (blk_cell BK244.out 3).trans rfl; have hcz90_4 : w89.cell? ⟨gb244, 4, none⟩ = some (.int .u64 a0_4) := (blk_cell BK244.out 4).trans rfl; have hcz90_5 : w89.cell? ⟨gb244, 5, none⟩ = some (.int .u64 a0_5) := (blk_cell BK244.out 5).trans rfl; have hcz90_6 : w89.cell? ⟨gb244, 6, none⟩ = some (.int .u64 a0_6) := (blk_cell BK244.out 6).trans rfl; have hcz90_7 : w89.cell? ⟨gb244, 7, none⟩ = some (.bool true) := (blk_cell BK244.out 7).trans rfl; have hcz90_8 : w89.cell? ⟨gb244, 8, none⟩ = some (.slice A0_8 l0_8.length c0_8) := (blk_cell BK244.out 8).trans rfl; have hcz90_9 : w89.cell? ⟨gb244, 9, none⟩ = some (.slice A0_9 l0_9.length c0_9) := (blk_cell BK244.out 9).trans rfl; have hfz90_0 := blk_frozen BK244.out 0; have hfz90_1 := blk_frozen BK244.out 1; have hfz90_2 := blk_frozen BK244.out 2; have hfz90_3 := blk_frozen BK244.out 3; have hfz90_4 := blk_frozen BK244.out 4; have hfz90_5 := blk_frozen BK244.out 5; have hfz90_6 := blk_frozen BK244.out 6; have hfz90_7 := blk_frozen BK244.out 7; have hfz90_8 := blk_frozen BK244.out 8; have hfz90_9 := blk_frozen BK244.out 9) | ((with_reducible refine gate_dst (N := 127) rfl ?_); refine Kd.R_lit (Kd.int .u64) _ 23 ?hg (N := 127) ?hd (xs := ([15, a0_1, a0_2, IntKind.u64.wrap ((l0_8.length : Int))] : List Int)) (inner := [.int .u64 15, .int .u64 a0_1, .int .u64 a0_2, .int .u64 (IntKind.u64.wrap ((l0_8.length : Int)))]) (ok := fun _ => True) (okp := fun _ => True) ?hr ?hp (fun _ hk => hk) trivial (Below.refl _ _) (Nat.le_refl _) (by simp) ?_; (case hd => rfl); (case hg => rfl); (case hr => first | (go_simp; done) | (go_simp; rfl)); (case hp => exact (Reps.one (show Kd.M (Kd.int .u64) _ _ _ 15 [.int .u64 15] from rfl) (Reps.one (show Kd.M (Kd.int .u64) _ _ _ a0_1 [.int .u64 a0_1] from rfl) (Reps.one (show Kd.M (Kd.int .u64) _ _ _ a0_2 [.int .u64 a0_2] from rfl) (Reps.one (show Kd.M (Kd.int .u64) _ _ _ (IntKind.u64.wrap ((l0_8.length : Int))) [.int .u64 (IntKind.u64.wrap ((l0_8.length : Int)))] from rfl) (Reps.none _ _)))))); intro v281 w91 ho92 hb hg_ hnew_; clear hg_ hnew_; (first | rw [← Ny280.out] at ho92 | (simp only [Int.reduceToNat] at ho92; rw [← Ny280.out] at ho92)); have n0_ := Aside0.mk (Kd.R_lower ho92 (below_size (by repeat (first | (with_reducible first | exact HB.out | apply below_alloc | apply pw_below_drewN | apply below_drew1 | refine below_set ?_ GE244.out) | exact HB.out)))); have n1_ := Aside0.mk (blk_below (g := gb244) (o := .cells #[.int .i64 a0_0, .int .u64 a0_1, .int .u64 a0_2, .int .u64 a0_3, .int .u64 a0_4, .int .u64 a0_5, .int .u64 a0_6, .bool true, .slice A0_8 l0_8.length c0_8, .slice A0_9 l0_9.length c0_9] 27 (0, 0)) (by (with_reducible repeat (first | refine blk_drewN ?_ _ | refine blk_drew ?_ | refine blk_alloc ?_ _)); exact BK244.out) hb); have n2_ := Aside0.mk (below_step (by repeat (first | (with_reducible first | exact HB.out | apply below_alloc | apply pw_below_drewN | apply below_drew1 | refine below_set ?_ GE244.out) | exact HB.out)) hb); clear BK244; clear HB; have HO282 := n0_; have BK244 := n1_; have HB := n2_; clear n0_ n1_ n2_; clear hb ho92))
                go_ret
                exact ⟨_, by first | rfl | (simp [errW_none, errW_some] <;> rfl) | (simp [*, errW_none, errW_some] <;> rfl), by (with_reducible repeat (first | apply Kd.R_alloc | apply Kd.R_drewN | apply Kd.R_drew)); exact HO282.out, by repeat (first | (with_reducible first | exact HB.out | apply below_alloc | apply pw_below_drewN | apply below_drew1 | refine below_set ?_ GE244.out) | exact HB.out)⟩
              · replace c88 := Bool.eq_false_iff.mpr c88
                subst c88
                have H1 : (some (([14, a0_1, a0_2, IntKind.u64.wrap ((l0_8.length : Int))] : List Int))) = some r := by rw [if_neg (show ¬ (false = true) by decide)] at H; exact H
                clear H
                have H := H1
                clear H1
                obtain ⟨y283, hy283⟩ : ∃ y_ : List Int, y_ = (([14, a0_1, a0_2, IntKind.u64.wrap ((l0_8.length : Int))] : List Int)) := ⟨_, rfl⟩
                replace H : (some y283) = some r := by first | (rw [hy283]; with_reducible exact H) | (have H2_ := (Option.bind_some _ _).symm.trans H; rw [hy283]; with_reducible exact H2_) | (have H2_ := (Option.bind_some _ _).symm.trans H; with_reducible exact H2_) | with_reducible exact H | (rw [hy283]; exact H) | exact H
                have Ny283 := Aside0.mk hy283
                clear hy283
                obtain rfl := Option.some.inj H
                go_enter Try.func28, Try.ntmps28
                go_wp2_with (first | ((with_reducible refine gate_dst (N := 1) rfl ?_); refine box_event ?hg (N := 1) ?hd (cs := #[.int .i64 a0_0, .int .u64 a0_1, .int .u64 a0_2, .int .u64 a0_3, .int .u64 a0_4, .int .u64 a0_5, .int .u64 a0_6, .bool false, .slice A0_8 l0_8.length c0_8, .slice A0_9 l0_9.length c0_9]) (t := 27) ?hr ?_; (case hd => rfl); (case hg => rfl); (case hr => first | (go_simp; done) | (go_simp; rfl)); intro gb244 hg w93 hbox hb; have n0_ := Aside0.mk (below_step (by repeat (first | (with_reducible first | exact HB.out | apply below_alloc | apply pw_below_drewN | apply below_drew1) | exact HB.out)) hb); have n1_ := Aside0.mk (hbox); have n2_ := Aside0.mk ((by rw [hg]; exact (below_size (by repeat (first | (with_reducible first | exact HB.out | apply below_alloc | apply pw_below_drewN | apply below_drew1) | exact HB.out))) : w.heap.size ≤ gb244)); have n3_ := Aside0.mk ((by rw [hg]; exact (below_size (by repeat (first | (with_reducible first | exact HB.out | apply below_alloc | apply pw_below_drewN | apply below_drew1) | exact HB.out))) : w.heap.size ≤ gb244)); clear HB; have HB := n0_; have BK244 := n1_; have GW244 := n2_; have GE244 := n3_; clear n0_ n1_ n2_ n3_; clear hb hbox hg; have hcz94_0 : w93.cell? ⟨gb244, 0, none⟩ = some (.int .i64 a0_0) := (blk_cell BK244.out 0).trans rfl; have hcz94_1 : w93.cell? ⟨gb244, 1, none⟩ = some (.int .u64 a0_1) := (blk_cell BK244.out 1).trans rfl; have hcz94_2 : w93.cell? ⟨gb244, 2, none⟩ = some (.int .u64 a0_2) := (blk_cell BK244.out 2).trans rfl; have hcz94_3 : w93.cell? ⟨gb244, 3, none⟩ = some (.int .u64 a0_3) := (blk_cell BK244.out 3).trans rfl; have hcz94_4 : w93.cell? ⟨gb244, 4, none⟩ = some (.int .u64 a0_4) := (blk_cell BK244.out 4).trans rfl; have hcz94_5 : w93.cell? ⟨gb244, 5, none⟩ = some (.int .u64 a0_5) := (blk_cell BK244.out 5).trans rfl; have hcz94_6 : w93.cell? ⟨gb244, 6, none⟩ = some (.int .u64 a0_6) := (blk_cell BK244.out 6).trans rfl; have hcz94_7 : w93.cell? ⟨gb244, 7, none⟩ = some (.bool false) := (blk_cell BK244.out 7).trans rfl; have hcz94_8 : w93.cell? ⟨gb244, 8, none⟩ = some (.slice A0_8 l0_8.length c0_8) := (blk_cell BK244.out 8).trans rfl; have hcz94_9 : w93.cell? ⟨gb244, 9, none⟩ = some (.slice A0_9 l0_9.length c0_9) := (blk_cell BK244.out 9).trans rfl; have hfz94_0 := blk_frozen BK244.out 0; have hfz94_1 := blk_frozen BK244.out 1; have hfz94_2 := blk_frozen BK244.out 2; have hfz94_3 := blk_frozen BK244.out 3; have hfz94_4 := blk_frozen BK244.out 4; have hfz94_5 := blk_frozen BK244.out 5; have hfz94_6 := blk_frozen BK244.out 6; have hfz94_7 := blk_frozen BK244.out 7; have hfz94_8 := blk_frozen BK244.out 8; have hfz94_9 := blk_frozen BK244.out 9) | ((with_reducible refine gate_dst (N := 127) rfl ?_); refine Kd.R_lit (Kd.int .u64) _ 23 ?hg (N := 127) ?hd (xs := ([14, a0_1, a0_2, IntKind.u64.wrap ((l0_8.length : Int))] : List Int)) (inner := [.int .u64 14, .int .u64 a0_1, .int .u64 a0_2, .int .u64 (IntKind.u64.wrap ((l0_8.length : Int)))]) (ok := fun _ => True) (okp := fun _ => True) ?hr ?hp (fun _ hk => hk) trivial (Below.refl _ _) (Nat.le_refl _) (by simp) ?_; (case hd => rfl); (case hg => rfl); (case hr => first | (go_simp; done) | (go_simp; rfl)); (case hp => exact (Reps.one (show Kd.M (Kd.int .u64) _ _ _ 14 [.int .u64 14] from rfl) (Reps.one (show Kd.M (Kd.int .u64) _ _ _ a0_1 [.int .u64 a0_1] from rfl) (Reps.one (show Kd.M (Kd.int .u64) _ _ _ a0_2 [.int .u64 a0_2] from rfl) (Reps.one (show Kd.M (Kd.int .u64) _ _ _ (IntKind.u64.wrap ((l0_8.length : Int))) [.int .u64 (IntKind.u64.wrap ((l0_8.length : Int)))] from rfl) (Reps.none _ _)))))); intro v284 w95 ho96 hb hg_ hnew_; clear hg_ hnew_; (first | rw [← Ny283.out] at ho96 | (simp only [Int.reduceToNat] at ho96; rw [← Ny283.out] at ho96)); have n0_ := Aside0.mk (Kd.R_lower ho96 (below_size (by repeat (first | (with_reducible first | exact HB.out | apply below_alloc | apply pw_below_drewN | apply below_drew1 | refine below_set ?_ GE244.out) | exact HB.out)))); have n1_ := Aside0.mk (blk_below (g := gb244) (o := .cells #[.int .i64 a0_0, .int .u64 a0_1, .int .u64 a0_2, .int .u64 a0_3, .int .u64 a0_4, .int .u64 a0_5, .int .u64 a0_6, .bool false, .slice A0_8 l0_8.length c0_8, .slice A0_9 l0_9.length c0_9] 27 (0, 0)) (by (with_reducible repeat (first | refine blk_drewN ?_ _ | refine blk_drew ?_ | refine blk_alloc ?_ _)); exact BK244.out) hb); have n2_ := Aside0.mk (below_step (by repeat (first | (with_reducible first | exact HB.out | apply below_alloc | apply pw_below_drewN | apply below_drew1 | refine below_set ?_ GE244.out) | exact HB.out)) hb); clear BK244; clear HB; have HO285 := n0_; have BK244 := n1_; have HB := n2_; clear n0_ n1_ n2_; clear hb ho96))
                go_ret
                exact ⟨_, by first | rfl | (simp [errW_none, errW_some] <;> rfl) | (simp [*, errW_none, errW_some] <;> rfl), by (with_reducible repeat (first | apply Kd.R_alloc | apply Kd.R_drewN | apply Kd.R_drew)); exact HO285.out, by repeat (first | (with_reducible first | exact HB.out | apply below_alloc | apply pw_below_drewN | apply below_drew1 | refine below_set ?_ GE244.out) | exact HB.out)⟩
            · rw [if_neg c87] at H
              have c87b0 : (a0_0 == 14) = false := beq_eq_false_iff_ne.mpr c87
              have c87b1 : (a0_0 != 14) = true := bne_iff_ne.mpr c87
              by_cases c97 : a0_0 = 16
              · rw [if_pos c97] at H
                have c97b0 : (a0_0 == 16) = true := beq_iff_eq.mpr c97
                have c97b1 : (a0_0 != 16) = false := bne_eq_false_iff_eq.mpr c97
                clear c97
                obtain ⟨y286, hy286⟩ : ∃ y_ : List Int, y_ = (([IntKind.u64.wrap (a0_0), a0_3] : List Int)) := ⟨_, rfl⟩
                replace H : (some y286) = some r := by first | (rw [hy286]; with_reducible exact H) | (have H2_ := (Option.bind_some _ _).symm.trans H; rw [hy286]; with_reducible exact H2_) | (have H2_ := (Option.bind_some _ _).symm.trans H; with_reducible exact H2_) | with_reducible exact H | (rw [hy286]; exact H) | exact H
                have Ny286 := Aside0.mk hy286
                clear hy286
                obtain rfl := Option.some.inj H
                go_enter Try.func28, Try.ntmps28
                go_wp2_with (first | ((with_reducible refine gate_dst (N := 1) rfl ?_); refine box_event ?hg (N := 1) ?hd (cs := #[.int .i64 a0_0, .int .u64 a0_1, .int .u64 a0_2, .int .u64 a0_3, .int .u64 a0_4, .int .u64 a0_5, .int .u64 a0_6, .bool a0_7, .slice A0_8 l0_8.length c0_8, .slice A0_9 l0_9.length c0_9]) (t := 27) ?hr ?_; (case hd => rfl); (case hg => rfl); (case hr => first | (go_simp; done) | (go_simp; rfl)); intro gb244 hg w98 hbox hb; have n0_ := Aside0.mk (below_step (by repeat (first | (with_reducible first | exact HB.out | apply below_alloc | apply pw_below_drewN | apply below_drew1) | exact HB.out)) hb); have n1_ := Aside0.mk (hbox); have n2_ := Aside0.mk ((by rw [hg]; exact (below_size (by repeat (first | (with_reducible first | exact HB.out | apply below_alloc | apply pw_below_drewN | apply below_drew1) | exact HB.out))) : w.heap.size ≤ gb244)); have n3_ := Aside0.mk ((by rw [hg]; exact (below_size (by repeat (first | (with_reducible first | exact HB.out | apply below_alloc | apply pw_below_drewN | apply below_drew1) | exact HB.out))) : w.heap.size ≤ gb244)); clear HB; have HB := n0_; have BK244 := n1_; have GW244 := n2_; have GE244 := n3_; clear n0_ n1_ n2_ n3_; clear hb hbox hg; have hcz99_0 : w98.cell? ⟨gb244, 0, none⟩ = some (.int .i64 a0_0) := (blk_cell BK244.out 0).trans rfl; have hcz99_1 : w98.cell? ⟨gb244, 1, none⟩ = some (.int .u64 a0_1) := (blk_cell BK244.out 1).trans rfl; have hcz99_2 : w98.cell? ⟨gb244, 2, none⟩ = some (.int .u64 a0_2) := (blk_cell BK244.out 2).trans rfl; have hcz99_3 : w98.cell? ⟨gb244, 3, none⟩ = some (.int .u64 a0_3) := (blk_cell BK244.out 3).trans rfl; have hcz99_4 : w98.cell? ⟨gb244, 4, none⟩ = some (.int .u64 a0_4) := (blk_cell BK244.out 4).trans rfl; have hcz99_5 : w98.cell? ⟨gb244, 5, none⟩ = some (.int .u64 a0_5) := (blk_cell BK244.out 5).trans rfl; have hcz99_6 : w98.cell? ⟨gb244, 6, none⟩ = some (.int .u64 a0_6) := (blk_cell BK244.out 6).trans rfl; have hcz99_7 : w98.cell? ⟨gb244, 7, none⟩ = some (.bool a0_7) := (blk_cell BK244.out 7).trans rfl; have hcz99_8 : w98.cell? ⟨gb244, 8, none⟩ = some (.slice A0_8 l0_8.length c0_8) := (blk_cell BK244.out 8).trans rfl; have hcz99_9 : w98.cell? ⟨gb244, 9, none⟩ = some (.slice A0_9 l0_9.length c0_9) := (blk_cell BK244.out 9).trans rfl; have hfz99_0 := blk_frozen BK244.out 0; have hfz99_1 := blk_frozen BK244.out 1; have hfz99_2 := blk_frozen BK244.out 2; have hfz99_3 := blk_frozen BK244.out 3; have hfz99_4 := blk_frozen BK244.out 4; have hfz99_5 := blk_frozen BK244.out 5; have hfz99_6 := blk_frozen BK244.out 6; have hfz99_7 := blk_frozen BK244.out 7; have hfz99_8 := blk_frozen BK244.out 8; have hfz99_9 := blk_frozen BK244.out 9) | ((with_reducible refine gate_dst (N := 137) rfl ?_); refine Kd.R_lit (Kd.int .u64) _ 23 ?hg (N := 137) ?hd (xs := ([IntKind.u64.wrap (a0_0), a0_3] : List Int)) (inner := [.int .u64 (IntKind.u64.wrap (a0_0)), .int .u64 a0_3]) (ok := fun _ => True) (okp := fun _ => True) ?hr ?hp (fun _ hk => hk) trivial (Below.refl _ _) (Nat.le_refl _) (by simp) ?_; (case hd => rfl); (case hg => rfl); (case hr => first | (go_simp; done) | (go_simp; rfl)); (case hp => exact (Reps.one (show Kd.M (Kd.int .u64) _ _ _ (IntKind.u64.wrap (a0_0)) [.int .u64 (IntKind.u64.wrap (a0_0))] from rfl) (Reps.one (show Kd.M (Kd.int .u64) _ _ _ a0_3 [.int .u64 a0_3] from rfl) (Reps.none _ _)))); intro v287 w100 ho101 hb hg_ hnew_; clear hg_ hnew_; (first | rw [← Ny286.out] at ho101 | (simp only [Int.reduceToNat] at ho101; rw [← Ny286.out] at ho101)); have n0_ := Aside0.mk (Kd.R_lower ho101 (below_size (by repeat (first | (with_reducible first | exact HB.out | apply below_alloc | apply pw_below_drewN | apply below_drew1 | refine below_set ?_ GE244.out) | exact HB.out)))); have n1_ := Aside0.mk (blk_below (g := gb244) (o := .cells #[.int .i64 a0_0, .int .u64 a0_1, .int .u64 a0_2, .int .u64 a0_3, .int .u64 a0_4, .int .u64 a0_5, .int .u64 a0_6, .bool a0_7, .slice A0_8 l0_8.length c0_8, .slice A0_9 l0_9.length c0_9] 27 (0, 0)) (by (with_reducible repeat (first | refine blk_drewN ?_ _ | refine blk_drew ?_ | refine blk_alloc ?_ _)); exact BK244.out) hb); have n2_ := Aside0.mk (below_step (by repeat (first | (with_reducible first | exact HB.out | apply below_alloc | apply pw_below_drewN | apply below_drew1 | refine below_set ?_ GE244.out) | exact HB.out)) hb); clear BK244; clear HB; have HO288 := n0_; have BK244 := n1_; have HB := n2_; clear n0_ n1_ n2_; clear hb ho101))
                go_ret
                exact ⟨_, by first | rfl | (simp [errW_none, errW_some] <;> rfl) | (simp [*, errW_none, errW_some] <;> rfl), by (with_reducible repeat (first | apply Kd.R_alloc | apply Kd.R_drewN | apply Kd.R_drew)); exact HO288.out, by repeat (first | (with_reducible first | exact HB.out | apply below_alloc | apply pw_below_drewN | apply below_drew1 | refine below_set ?_ GE244.out) | exact HB.out)⟩
              · rw [if_neg c97] at H
                have c97b0 : (a0_0 == 16) = false := beq_eq_false_iff_ne.mpr c97
                have c97b1 : (a0_0 != 16) = true := bne_iff_ne.mpr c97
                by_cases c102 : a0_0 = 18
                · rw [if_pos c102] at H
                  have c102b0 : (a0_0 == 18) = true := beq_iff_eq.mpr c102
                  have c102b1 : (a0_0 != 18) = false := bne_eq_false_iff_eq.mpr c102
                  clear c102
                  obtain ⟨y289, hy289⟩ : ∃ y_ : List Int, y_ = (([IntKind.u64.wrap (a0_0), a0_3] : List Int)) := ⟨_, rfl⟩
                  replace H : (some y289) = some r := by first | (rw [hy289]; with_reducible exact H) | (have H2_ := (Option.bind_some _ _).symm.trans H; rw [hy289]; with_reducible exact H2_) | (have H2_ := (Option.bind_some _ _).symm.trans H; with_reducible exact H2_) | with_reducible exact H | (rw [hy289]; exact H) | exact H
                  have Ny289 := Aside0.mk hy289
                  clear hy289
                  obtain rfl := Option.some.inj H
                  go_enter Try.func28, Try.ntmps28
                  go_wp2_with (first | ((with_reducible refine gate_dst (N := 1) rfl ?_); refine box_event ?hg (N := 1) ?hd (cs := #[.int .i64 a0_0, .int .u64 a0_1, .int .u64 a0_2, .int .u64 a0_3, .int .u64 a0_4, .int .u64 a0_5, .int .u64 a0_6, .bool a0_7, .slice A0_8 l0_8.length c0_8, .slice A0_9 l0_9.length c0_9]) (t := 27) ?hr ?_; (case hd => rfl); (case hg => rfl); (case hr => first | (go_simp; done) | (go_simp; rfl)); intro gb244 hg w103 hbox hb; have n0_ := Aside0.mk (below_step (by repeat (first | (with_reducible first | exact HB.out | apply below_alloc | apply pw_below_drewN | apply below_drew1) | exact HB.out)) hb); have n1_ := Aside0.mk (hbox); have n2_ := Aside0.mk ((by rw [hg]; exact (below_size (by repeat (first | (with_reducible first | exact HB.out | apply below_alloc | apply pw_below_drewN | apply below_drew1) | exact HB.out))) : w.heap.size ≤ gb244)); have n3_ := Aside0.mk ((by rw [hg]; exact (below_size (by repeat (first | (with_reducible first | exact HB.out | apply below_alloc | apply pw_below_drewN | apply below_drew1) | exact HB.out))) : w.heap.size ≤ gb244)); clear HB; have HB := n0_; have BK244 := n1_; have GW244 := n2_; have GE244 := n3_; clear n0_ n1_ n2_ n3_; clear hb hbox hg; have hcz104_0 : w103.cell? ⟨gb244, 0, none⟩ = some (.int .i64 a0_0) := (blk_cell BK244.out 0).trans rfl; have hcz104_1 : w103.cell? ⟨gb244, 1, none⟩ = some (.int .u64 a0_1) := (blk_cell BK244.out 1).trans rfl; have hcz104_2 : w103.cell? ⟨gb244, 2, none⟩ = some (.int .u64 a0_2) := (blk_cell BK244.out 2).trans rfl; have hcz104_3 : w103.cell? ⟨gb244, 3, none⟩ = some (.int .u64 a0_3) := (blk_cell BK244.out 3).trans rfl; have hcz104_4 : w103.cell? ⟨gb244, 4, none⟩ = some (.int .u64 a0_4) := (blk_cell BK244.out 4).trans rfl; have hcz104_5 : w103.cell? ⟨gb244, 5, none⟩ = some (.int .u64 a0_5) := (blk_cell BK244.out 5).trans rfl; have hcz104_6 : w103.cell? ⟨gb244, 6, none⟩ = some (.int .u64 a0_6) := (blk_cell BK244.out 6).trans rfl; have hcz104_7 : w103.cell? ⟨gb244, 7, none⟩ = some (.bool a0_7) := (blk_cell BK244.out 7).trans rfl; have hcz104_8 : w103.cell? ⟨gb244, 8, none⟩ = some (.slice A0_8 l0_8.length c0_8) := (blk_cell BK244.out 8).trans rfl; have hcz104_9 : w103.cell? ⟨gb244, 9, none⟩ = some (.slice A0_9 l0_9.length c0_9) := (blk_cell BK244.out 9).trans rfl; have hfz104_0 := blk_frozen BK244.out 0; have hfz104_1 := blk_frozen BK244.out 1; have hfz104_2 := blk_frozen BK244.out 2; have hfz104_3 := blk_frozen BK244.out 3; have hfz104_4 := blk_frozen BK244.out 4; have hfz104_5 := blk_frozen BK244.out 5; have hfz104_6 := blk_frozen BK244.out 6; have hfz104_7 := blk_frozen BK244.out 7; have hfz104_8 := blk_frozen BK244.out 8; have hfz104_9 := blk_frozen BK244.out 9) | ((with_reducible refine gate_dst (N := 137) rfl ?_); refine Kd.R_lit (Kd.int .u64) _ 23 ?hg (N := 137) ?hd (xs := ([IntKind.u64.wrap (a0_0), a0_3] : List Int)) (inner := [.int .u64 (IntKind.u64.wrap (a0_0)), .int .u64 a0_3]) (ok := fun _ => True) (okp := fun _ => True) ?hr ?hp (fun _ hk => hk) trivial (Below.refl _ _) (Nat.le_refl _) (by simp) ?_; (case hd => rfl); (case hg => rfl); (case hr => first | (go_simp; done) | (go_simp; rfl)); (case hp => exact (Reps.one (show Kd.M (Kd.int .u64) _ _ _ (IntKind.u64.wrap (a0_0)) [.int .u64 (IntKind.u64.wrap (a0_0))] from rfl) (Reps.one (show Kd.M (Kd.int .u64) _ _ _ a0_3 [.int .u64 a0_3] from rfl) (Reps.none _ _)))); intro v290 w105 ho106 hb hg_ hnew_; clear hg_ hnew_; (first | rw [← Ny289.out] at ho106 | (simp only [Int.reduceToNat] at ho106; rw [← Ny289.out] at ho106)); have n0_ := Aside0.mk (Kd.R_lower ho106 (below_size (by repeat (first | (with_reducible first | exact HB.out | apply below_alloc | apply pw_below_drewN | apply below_drew1 | refine below_set ?_ GE244.out) | exact HB.out)))); have n1_ := Aside0.mk (blk_below (g := gb244) (o := .cells #[.int .i64 a0_0, .int .u64 a0_1, .int .u64 a0_2, .int .u64 a0_3, .int .u64 a0_4, .int .u64 a0_5, .int .u64 a0_6, .bool a0_7, .slice A0_8 l0_8.length c0_8, .slice A0_9 l0_9.length c0_9] 27 (0, 0)) (by (with_reducible repeat (first | refine blk_drewN ?_ _ | refine blk_drew ?_ | refine blk_alloc ?_ _)); exact BK244.out) hb); have n2_ := Aside0.mk (below_step (by repeat (first | (with_reducible first | exact HB.out | apply below_alloc | apply pw_below_drewN | apply below_drew1 | refine below_set ?_ GE244.out) | exact HB.out)) hb); clear BK244; clear HB; have HO291 := n0_; have BK244 := n1_; have HB := n2_; clear n0_ n1_ n2_; clear hb ho106))
                  go_ret
                  exact ⟨_, by first | rfl | (simp [errW_none, errW_some] <;> rfl) | (simp [*, errW_none, errW_some] <;> rfl), by (with_reducible repeat (first | apply Kd.R_alloc | apply Kd.R_drewN | apply Kd.R_drew)); exact HO291.out, by repeat (first | (with_reducible first | exact HB.out | apply below_alloc | apply pw_below_drewN | apply below_drew1 | refine below_set ?_ GE244.out) | exact HB.out)⟩
                · rw [if_neg c102] at H
                  have c102b0 : (a0_0 == 18) = false := beq_eq_false_iff_ne.mpr c102
                  have c102b1 : (a0_0 != 18) = true := bne_iff_ne.mpr c102
                  by_cases c107 : a0_0 = 20
                  · rw [if_pos c107] at H
                    have c107b0 : (a0_0 == 20) = true := beq_iff_eq.mpr c107
                    have c107b1 : (a0_0 != 20) = false := bne_eq_false_iff_eq.mpr c107
                    clear c107
                    obtain ⟨y292, hy292⟩ : ∃ y_ : List Int, y_ = (([IntKind.u64.wrap (a0_0), a0_3] : List Int)) := ⟨_, rfl⟩
                    replace H : (some y292) = some r := by first | (rw [hy292]; with_reducible exact H) | (have H2_ := (Option.bind_some _ _).symm.trans H; rw [hy292]; with_reducible exact H2_) | (have H2_ := (Option.bind_some _ _).symm.trans H; with_reducible exact H2_) | with_reducible exact H | (rw [hy292]; exact H) | exact H
                    have Ny292 := Aside0.mk hy292
                    clear hy292
                    obtain rfl := Option.some.inj H
                    go_enter Try.func28, Try.ntmps28
                    go_wp2_with (first | ((with_reducible refine gate_dst (N := 1) rfl ?_); refine box_event ?hg (N := 1) ?hd (cs := #[.int .i64 a0_0, .int .u64 a0_1, .int .u64 a0_2, .int .u64 a0_3, .int .u64 a0_4, .int .u64 a0_5, .int .u64 a0_6, .bool a0_7, .slice A0_8 l0_8.length c0_8, .slice A0_9 l0_9.length c0_9]) (t := 27) ?hr ?_; (case hd => rfl); (case hg => rfl); (case hr => first | (go_simp; done) | (go_simp; rfl)); intro gb244 hg w108 hbox hb; have n0_ := Aside0.mk (below_step (by repeat (first | (with_reducible first | exact HB.out | apply below_alloc | apply pw_below_drewN | apply below_drew1) | exact HB.out)) hb); have n1_ := Aside0.mk (hbox); have n2_ := Aside0.mk ((by rw [hg]; exact (below_size (by repeat (first | (with_reducible first | exact HB.out | apply below_alloc | apply pw_below_drewN | apply below_drew1) | exact HB.out))) : w.heap.size ≤ gb244)); have n3_ := Aside0.mk ((by rw [hg]; exact (below_size (by repeat (first | (with_reducible first | exact HB.out | apply below_alloc | apply pw_below_drewN | apply below_drew1) | exact HB.out))) : w.heap.size ≤ gb244)); clear HB; have HB := n0_; have BK244 := n1_; have GW244 := n2_; have GE244 := n3_; clear n0_ n1_ n2_ n3_; clear hb hbox hg; have hcz109_0 : w108.cell? ⟨gb244, 0, none⟩ = some (.int .i64 a0_0) := (blk_cell BK244.out 0).trans rfl; have hcz109_1 : w108.cell? ⟨gb244, 1, none⟩ = some (.int .u64 a0_1) := (blk_cell BK244.out 1).trans rfl; have hcz109_2 : w108.cell? ⟨gb244, 2, none⟩ = some (.int .u64 a0_2) := (blk_cell BK244.out 2).trans rfl; have hcz109_3 : w108.cell? ⟨gb244, 3, none⟩ = some (.int .u64 a0_3) := (blk_cell BK244.out 3).trans rfl; have hcz109_4 : w108.cell? ⟨gb244, 4, none⟩ = some (.int .u64 a0_4) := (blk_cell BK244.out 4).trans rfl; have hcz109_5 : w108.cell? ⟨gb244, 5, none⟩ = some (.int .u64 a0_5) := (blk_cell BK244.out 5).trans rfl; have hcz109_6 : w108.cell? ⟨gb244, 6, none⟩ = some (.int .u64 a0_6) := (blk_cell BK244.out 6).trans rfl; have hcz109_7 : w108.cell? ⟨gb244, 7, none⟩ = some (.bool a0_7) := (blk_cell BK244.out 7).trans rfl; have hcz109_8 : w108.cell? ⟨gb244, 8, none⟩ = some (.slice A0_8 l0_8.length c0_8) := (blk_cell BK244.out 8).trans rfl; have hcz109_9 : w108.cell? ⟨gb244, 9, none⟩ = some (.slice A0_9 l0_9.length c0_9) := (blk_cell BK244.out 9).trans rfl; have hfz109_0 := blk_frozen BK244.out 0; have hfz109_1 := blk_frozen BK244.out 1; have hfz109_2 := blk_frozen BK244.out 2; have hfz109_3 := blk_frozen BK244.out 3; have hfz109_4 := blk_frozen BK244.out 4; have hfz109_5 := blk_frozen BK244.out 5; have hfz109_6 := blk_frozen BK244.out 6; have hfz109_7 := blk_frozen BK244.out 7; have hfz109_8 := blk_frozen BK244.out 8; have hfz109_9 := blk_frozen BK244.out 9) | ((with_reducible refine gate_dst (N := 137) rfl ?_); refine Kd.R_lit (Kd.int .u64) _ 23 ?hg (N := 137) ?hd (xs := ([IntKind.u64.wrap (a0_0), a0_3] : List Int)) (inner := [.int .u64 (IntKind.u64.wrap (a0_0)), .int .u64 a0_3]) (ok := fun _ => True) (okp := fun _ => True) ?hr ?hp (fun _ hk => hk) trivial (Below.refl _ _) (Nat.le_refl _) (by simp) ?_; (case hd => rfl); (case hg => rfl); (case hr => first | (go_simp; done) | (go_simp; rfl)); (case hp => exact (Reps.one (show Kd.M (Kd.int .u64) _ _ _ (IntKind.u64.wrap (a0_0)) [.int .u64 (IntKind.u64.wrap (a0_0))] from rfl) (Reps.one (show Kd.M (Kd.int .u64) _ _ _ a0_3 [.int .u64 a0_3] from rfl) (Reps.none _ _)))); intro v293 w110 ho111 hb hg_ hnew_; clear hg_ hnew_; (first | rw [← Ny292.out] at ho111 | (simp only [Int.reduceToNat] at ho111; rw [← Ny292.out] at ho111)); have n0_ := Aside0.mk (Kd.R_lower ho111 (below_size (by repeat (first | (with_reducible first | exact HB.out | apply below_alloc | apply pw_below_drewN | apply below_drew1 | refine below_set ?_ GE244.out) | exact HB.out)))); have n1_ := Aside0.mk (blk_below (g := gb244) (o := .cells #[.int .i64 a0_0, .int .u64 a0_1, .int .u64 a0_2, .int .u64 a0_3, .int .u64 a0_4, .int .u64 a0_5, .int .u64 a0_6, .bool a0_7, .slice A0_8 l0_8.length c0_8, .slice A0_9 l0_9.length c0_9] 27 (0, 0)) (by (with_reducible repeat (first | refine blk_drewN ?_ _ | refine blk_drew ?_ | refine blk_alloc ?_ _)); exact BK244.out) hb); have n2_ := Aside0.mk (below_step (by repeat (first | (with_reducible first | exact HB.out | apply below_alloc | apply pw_below_drewN | apply below_drew1 | refine below_set ?_ GE244.out) | exact HB.out)) hb); clear BK244; clear HB; have HO294 := n0_; have BK244 := n1_; have HB := n2_; clear n0_ n1_ n2_; clear hb ho111))
                    go_ret
                    exact ⟨_, by first | rfl | (simp [errW_none, errW_some] <;> rfl) | (simp [*, errW_none, errW_some] <;> rfl), by (with_reducible repeat (first | apply Kd.R_alloc | apply Kd.R_drewN | apply Kd.R_drew)); exact HO294.out, by repeat (first | (with_reducible first | exact HB.out | apply below_alloc | apply pw_below_drewN | apply below_drew1 | refine below_set ?_ GE244.out) | exact HB.out)⟩
                  · rw [if_neg c107] at H
                    have c107b0 : (a0_0 == 20) = false := beq_eq_false_iff_ne.mpr c107
                    have c107b1 : (a0_0 != 20) = true := bne_iff_ne.mpr c107
                    by_cases c112 : a0_0 = 17
                    · rw [if_pos c112] at H
                      have c112b0 : (a0_0 == 17) = true := beq_iff_eq.mpr c112
                      have c112b1 : (a0_0 != 17) = false := bne_eq_false_iff_eq.mpr c112
                      clear c112
                      obtain ⟨y295, hy295⟩ : ∃ y_ : List Int, y_ = (([IntKind.u64.wrap (a0_0), a0_1, a0_3] : List Int)) := ⟨_, rfl⟩
                      replace H : (some y295) = some r := by first | (rw [hy295]; with_reducible exact H) | (have H2_ := (Option.bind_some _ _).symm.trans H; rw [hy295]; with_reducible exact H2_) | (have H2_ := (Option.bind_some _ _).symm.trans H; with_reducible exact H2_) | with_reducible exact H | (rw [hy295]; exact H) | exact H
                      have Ny295 := Aside0.mk hy295
                      clear hy295
                      obtain rfl := Option.some.inj H
                      go_enter Try.func28, Try.ntmps28
                      go_wp2_with (first | ((with_reducible refine gate_dst (N := 1) rfl ?_); refine box_event ?hg (N := 1) ?hd (cs := #[.int .i64 a0_0, .int .u64 a0_1, .int .u64 a0_2, .int .u64 a0_3, .int .u64 a0_4, .int .u64 a0_5, .int .u64 a0_6, .bool a0_7, .slice A0_8 l0_8.length c0_8, .slice A0_9 l0_9.length c0_9]) (t := 27) ?hr ?_; (case hd => rfl); (case hg => rfl); (case hr => first | (go_simp; done) | (go_simp; rfl)); intro gb244 hg w113 hbox hb; have n0_ := Aside0.mk (below_step (by repeat (first | (with_reducible first | exact HB.out | apply below_alloc | apply pw_below_drewN | apply below_drew1) | exact HB.out)) hb); have n1_ := Aside0.mk (hbox); have n2_ := Aside0.mk ((by rw [hg]; exact (below_size (by repeat (first | (with_reducible first | exact HB.out | apply below_alloc | apply pw_below_drewN | apply below_drew1) | exact HB.out))) : w.heap.size ≤ gb244)); have n3_ := Aside0.mk ((by rw [hg]; exact (below_size (by repeat (first | (with_reducible first | exact HB.out | apply below_alloc | apply pw_below_drewN | apply below_drew1) | exact HB.out))) : w.heap.size ≤ gb244)); clear HB; have HB := n0_; have BK244 := n1_; have GW244 := n2_; have GE244 := n3_; clear n0_ n1_ n2_ n3_; clear hb hbox hg; have hcz114_0 : w113.cell? ⟨gb244, 0, none⟩ = some (.int .i64 a0_0) := (blk_cell BK244.out 0).trans rfl; have hcz114_1 : w113.cell? ⟨gb244, 1, none⟩ = some (.int .u64 a0_1) := (blk_cell BK244.out 1).trans rfl; have hcz114_2 : w113.cell? ⟨gb244, 2, none⟩ = some (.int .u64 a0_2) := (blk_cell BK244.out 2).trans rfl; have hcz114_3 : w113.cell? ⟨gb244, 3, none⟩ = some (.int .u64 a0_3) := (blk_cell BK244.out 3).trans rfl; have hcz114_4 : w113.cell? ⟨gb244, 4, none⟩ = some (.int .u64 a0_4) := (blk_cell BK244.out 4).trans rfl; have hcz114_5 : w113.cell? ⟨gb244, 5, none⟩ = some (.int .u64 a0_5) := (blk_cell BK244.out 5).trans rfl; have hcz114_6 : w113.cell? ⟨gb244, 6, none⟩ = some (.int .u64 a0_6) := (blk_cell BK244.out 6).trans rfl; have hcz114_7 : w113.cell? ⟨gb244, 7, none⟩ = some (.bool a0_7) := (blk_cell BK244.out 7).trans rfl; have hcz114_8 : w113.cell? ⟨gb244, 8, none⟩ = some (.slice A0_8 l0_8.length c0_8) := (blk_cell BK244.out 8).trans rfl; have hcz114_9 : w113.cell? ⟨gb244, 9, none⟩ = some (.slice A0_9 l0_9.length c0_9) := (blk_cell BK244.out 9).trans rfl; have hfz114_0 := blk_frozen BK244.out 0; have hfz114_1 := blk_frozen BK244.out 1; have hfz114_2 := blk_frozen BK244.out 2; have hfz114_3 := blk_frozen BK244.out 3; have hfz114_4 := blk_frozen BK244.out 4; have hfz114_5 := blk_frozen BK244.out 5; have hfz114_6 := blk_frozen BK244.out 6; have hfz114_7 := blk_frozen BK244.out 7; have hfz114_8 := blk_frozen BK244.out 8; have hfz114_9 := blk_frozen BK244.out 9) | ((with_reducible refine gate_dst (N := 148) rfl ?_); refine Kd.R_lit (Kd.int .u64) _ 23 ?hg (N := 148) ?hd (xs := ([IntKind.u64.wrap (a0_0), a0_1, a0_3] : List Int)) (inner := [.int .u64 (IntKind.u64.wrap (a0_0)), .int .u64 a0_1, .int .u64 a0_3]) (ok := fun _ => True) (okp := fun _ => True) ?hr ?hp (fun _ hk => hk) trivial (Below.refl _ _) (Nat.le_refl _) (by simp) ?_; (case hd => rfl); (case hg => rfl); (case hr => first | (go_simp; done) | (go_simp; rfl)); (case hp => exact (Reps.one (show Kd.M (Kd.int .u64) _ _ _ (IntKind.u64.wrap (a0_0)) [.int .u64 (IntKind.u64.wrap (a0_0))] from rfl) (Reps.one (show Kd.M (Kd.int .u64) _ _ _ a0_1 [.int .u64 a0_1] from rfl) (Reps.one (show Kd.M (Kd.int .u64) _ _ _ a0_3 [.int .u64 a0_3] from rfl) (Reps.none _ _))))); intro v296 w115 ho116 hb hg_ hnew_; clear hg_ hnew_; (first | rw [← Ny295.out] at ho116 | (simp only [Int.reduceToNat] at ho116; rw [← Ny295.out] at ho116)); have n0_ := Aside0.mk (Kd.R_lower ho116 (below_size (by repeat (first | (with_reducible first | exact HB.out | apply below_alloc | apply pw_below_drewN | apply below_drew1 | refine below_set ?_ GE244.out) | exact HB.out)))); have n1_ := Aside0.mk (blk_below (g := gb244) (o := .cells #[.int .i64 a0_0, .int .u64 a0_1, .int .u64 a0_2, .int .u64 a0_3, .int .u64 a0_4, .int .u64 a0_5, .int .u64 a0_6, .bool a0_7, .slice A0_8 l0_8.length c0_8, .slice A0_9 l0_9.length c0_9] 27 (0, 0)) (by (with_reducible repeat (first | refine blk_drewN ?_ _ | refine blk_drew ?_ | refine blk_alloc ?_ _)); exact BK244.out) hb); have n2_ := Aside0.mk (below_step (by repeat (first | (with_reducible first | exact HB.out | apply below_alloc | apply pw_below_drewN | apply below_drew1 | refine below_set ?_ GE244.out) | exact HB.out)) hb); clear BK244; clear HB; have HO297 := n0_; have BK244 := n1_; have HB := n2_; clear n0_ n1_ n2_; clear hb ho116))
                      go_ret
                      exact ⟨_, by first | rfl | (simp [errW_none, errW_some] <;> rfl) | (simp [*, errW_none, errW_some] <;> rfl), by (with_reducible repeat (first | apply Kd.R_alloc | apply Kd.R_drewN | apply Kd.R_drew)); exact HO297.out, by repeat (first | (with_reducible first | exact HB.out | apply below_alloc | apply pw_below_drewN | apply below_drew1 | refine below_set ?_ GE244.out) | exact HB.out)⟩
                    · rw [if_neg c112] at H
                      have c112b0 : (a0_0 == 17) = false := beq_eq_false_iff_ne.mpr c112
                      have c112b1 : (a0_0 != 17) = true := bne_iff_ne.mpr c112
                      by_cases c117 : a0_0 = 21
                      · rw [if_pos c117] at H
                        have c117b0 : (a0_0 == 21) = true := beq_iff_eq.mpr c117
                        have c117b1 : (a0_0 != 21) = false := bne_eq_false_iff_eq.mpr c117
                        clear c117
                        obtain ⟨y298, hy298⟩ : ∃ y_ : List Int, y_ = (([IntKind.u64.wrap (a0_0), a0_1, a0_3] : List Int)) := ⟨_, rfl⟩
                        replace H : (some y298) = some r := by first | (rw [hy298]; with_reducible exact H) | (have H2_ := (Option.bind_some _ _).symm.trans H; rw [hy298]; with_reducible exact H2_) | (have H2_ := (Option.bind_some _ _).symm.trans H; with_reducible exact H2_) | with_reducible exact H | (rw [hy298]; exact H) | exact H
                        have Ny298 := Aside0.mk hy298
                        clear hy298
                        obtain rfl := Option.some.inj H
                        go_enter Try.func28, Try.ntmps28
                        go_wp2_with (first | ((with_reducible refine gate_dst (N := 1) rfl ?_); refine box_event ?hg (N := 1) ?hd (cs := #[.int .i64 a0_0, .int .u64 a0_1, .int .u64 a0_2, .int .u64 a0_3, .int .u64 a0_4, .int .u64 a0_5, .int .u64 a0_6, .bool a0_7, .slice A0_8 l0_8.length c0_8, .slice A0_9 l0_9.length c0_9]) (t := 27) ?hr ?_; (case hd => rfl); (case hg => rfl); (case hr => first | (go_simp; done) | (go_simp; rfl)); intro gb244 hg w118 hbox hb; have n0_ := Aside0.mk (below_step (by repeat (first | (with_reducible first | exact HB.out | apply below_alloc | apply pw_below_drewN | apply below_drew1) | exact HB.out)) hb); have n1_ := Aside0.mk (hbox); have n2_ := Aside0.mk ((by rw [hg]; exact (below_size (by repeat (first | (with_reducible first | exact HB.out | apply below_alloc | apply pw_below_drewN | apply below_drew1) | exact HB.out))) : w.heap.size ≤ gb244)); have n3_ := Aside0.mk ((by rw [hg]; exact (below_size (by repeat (first | (with_reducible first | exact HB.out | apply below_alloc | apply pw_below_drewN | apply below_drew1) | exact HB.out))) : w.heap.size ≤ gb244)); clear HB; have HB := n0_; have BK244 := n1_; have GW244 := n2_; have GE244 := n3_; clear n0_ n1_ n2_ n3_; clear hb hbox hg; have hcz119_0 : w118.cell? ⟨gb244, 0, none⟩ = some (.int .i64 a0_0) := (blk_cell BK244.out 0).trans rfl; have hcz119_1 : w118.cell? ⟨gb244, 1, none⟩ = some (.int .u64 a0_1) := (blk_cell BK244.out 1).trans rfl; have hcz119_2 : w118.cell? ⟨gb244, 2, none⟩ = some (.int .u64 a0_2) := (blk_cell BK244.out 2).trans rfl; have hcz119_3 : w118.cell? ⟨gb244, 3, none⟩ = some (.int .u64 a0_3) := (blk_cell BK244.out 3).trans rfl; have hcz119_4 : w118.cell? ⟨gb244, 4, none⟩ = some (.int .u64 a0_4) := (blk_cell BK244.out 4).trans rfl; have hcz119_5 : w118.cell? ⟨gb244, 5, none⟩ = some (.int .u64 a0_5) := (blk_cell BK244.out 5).trans rfl; have hcz119_6 : w118.cell? ⟨gb244, 6, none⟩ = some (.int .u64 a0_6) := (blk_cell BK244.out 6).trans rfl; have hcz119_7 : w118.cell? ⟨gb244, 7, none⟩ = some (.bool a0_7) := (blk_cell BK244.out 7).trans rfl; have hcz119_8 : w118.cell? ⟨gb244, 8, none⟩ = some (.slice A0_8 l0_8.length c0_8) := (blk_cell BK244.out 8).trans rfl; have hcz119_9 : w118.cell? ⟨gb244, 9, none⟩ = some (.slice A0_9 l0_9.length c0_9) := (blk_cell BK244.out 9).trans rfl; have hfz119_0 := blk_frozen BK244.out 0; have hfz119_1 := blk_frozen BK244.out 1; have hfz119_2 := blk_frozen BK244.out 2; have hfz119_3 := blk_frozen BK244.out 3; have hfz119_4 := blk_frozen BK244.out 4; have hfz119_5 := blk_frozen BK244.out 5; have hfz119_6 := blk_frozen BK244.out 6; have hfz119_7 := blk_frozen BK244.out 7; have hfz119_8 := blk_frozen BK244.out 8; have hfz119_9 := blk_frozen BK244.out 9) | ((with_reducible refine gate_dst (N := 148) rfl ?_); refine Kd.R_lit (Kd.int .u64) _ 23 ?hg (N := 148) ?hd (xs := ([IntKind.u64.wrap (a0_0), a0_1, a0_3] : List Int)) (inner := [.int .u64 (IntKind.u64.wrap (a0_0)), .int .u64 a0_1, .int .u64 a0_3]) (ok := fun _ => True) (okp := fun _ => True) ?hr ?hp (fun _ hk => hk) trivial (Below.refl _ _) (Nat.le_refl _) (by simp) ?_; (case hd => rfl); (case hg => rfl); (case hr => first | (go_simp; done) | (go_simp; rfl)); (case hp => exact (Reps.one (show Kd.M (Kd.int .u64) _ _ _ (IntKind.u64.wrap (a0_0)) [.int .u64 (IntKind.u64.wrap (a0_0))] from rfl) (Reps.one (show Kd.M (Kd.int .u64) _ _ _ a0_1 [.int .u64 a0_1] from rfl) (Reps.one (show Kd.M (Kd.int .u64) _ _ _ a0_3 [.int .u64 a0_3] from rfl) (Reps.none _ _))))); intro v299 w120 ho121 hb hg_ hnew_; clear hg_ hnew_; (first | rw [← Ny298.out] at ho121 | (simp only [Int.reduceToNat] at ho121; rw [← Ny298.out] at ho121)); have n0_ := Aside0.mk (Kd.R_lower ho121 (below_size (by repeat (first | (with_reducible first | exact HB.out | apply below_alloc | apply pw_below_drewN | apply below_drew1 | refine below_set ?_ GE244.out) | exact HB.out)))); have n1_ := Aside0.mk (blk_below (g := gb244) (o := .cells #[.int .i64 a0_0, .int .u64 a0_1, .int .u64 a0_2, .int .u64 a0_3, .int .u64 a0_4, .int .u64 a0_5, .int .u64 a0_6, .bool a0_7, .slice A0_8 l0_8.length c0_8, .slice A0_9 l0_9.length c0_9] 27 (0, 0)) (by (with_reducible repeat (first | refine blk_drewN ?_ _ | refine blk_drew ?_ | refine blk_alloc ?_ _)); exact BK244.out) hb); have n2_ := Aside0.mk (below_step (by repeat (first | (with_reducible first | exact HB.out | apply below_alloc | apply pw_below_drewN | apply below_drew1 | refine below_set ?_ GE244.out) | exact HB.out)) hb); clear BK244; clear HB; have HO300 := n0_; have BK244 := n1_; have HB := n2_; clear n0_ n1_ n2_; clear hb ho121))
                        go_ret
                        exact ⟨_, by first | rfl | (simp [errW_none, errW_some] <;> rfl) | (simp [*, errW_none, errW_some] <;> rfl), by (with_reducible repeat (first | apply Kd.R_alloc | apply Kd.R_drewN | apply Kd.R_drew)); exact HO300.out, by repeat (first | (with_reducible first | exact HB.out | apply below_alloc | apply pw_below_drewN | apply below_drew1 | refine below_set ?_ GE244.out) | exact HB.out)⟩
                      · rw [if_neg c117] at H
                        have c117b0 : (a0_0 == 21) = false := beq_eq_false_iff_ne.mpr c117
                        have c117b1 : (a0_0 != 21) = true := bne_iff_ne.mpr c117
                        by_cases c122 : a0_0 = 28
                        · rw [if_pos c122] at H
                          have c122b0 : (a0_0 == 28) = true := beq_iff_eq.mpr c122
                          have c122b1 : (a0_0 != 28) = false := bne_eq_false_iff_eq.mpr c122
                          clear c122
                          obtain ⟨y301, hy301⟩ : ∃ y_ : List Int, y_ = (([28, a0_4] : List Int)) := ⟨_, rfl⟩
                          replace H : (some y301) = some r := by first | (rw [hy301]; with_reducible exact H) | (have H2_ := (Option.bind_some _ _).symm.trans H; rw [hy301]; with_reducible exact H2_) | (have H2_ := (Option.bind_some _ _).symm.trans H; with_reducible exact H2_) | with_reducible exact H | (rw [hy301]; exact H) | exact H
                          have Ny301 := Aside0.mk hy301
                          clear hy301
                          obtain rfl := Option.some.inj H
                          go_enter Try.func28, Try.ntmps28
                          go_wp2_with (first | ((with_reducible refine gate_dst (N := 1) rfl ?_); refine box_event ?hg (N := 1) ?hd (cs := #[.int .i64 a0_0, .int .u64 a0_1, .int .u64 a0_2, .int .u64 a0_3, .int .u64 a0_4, .int .u64 a0_5, .int .u64 a0_6, .bool a0_7, .slice A0_8 l0_8.length c0_8, .slice A0_9 l0_9.length c0_9]) (t := 27) ?hr ?_; (case hd => rfl); (case hg => rfl); (case hr => first | (go_simp; done) | (go_simp; rfl)); intro gb244 hg w123 hbox hb; have n0_ := Aside0.mk (below_step (by repeat (first | (with_reducible first | exact HB.out | apply below_alloc | apply pw_below_drewN | apply below_drew1) | exact HB.out)) hb); have n1_ := Aside0.mk (hbox); have n2_ := Aside0.mk ((by rw [hg]; exact (below_size (by repeat (first | (with_reducible first | exact HB.out | apply below_alloc | apply pw_below_drewN | apply below_drew1) | exact HB.out))) : w.heap.size ≤ gb244)); have n3_ := Aside0.mk ((by rw [hg]; exact (below_size (by repeat (first | (with_reducible first | exact HB.out | apply below_alloc | apply pw_below_drewN | apply below_drew1) | exact HB.out))) : w.heap.size ≤ gb244)); clear HB; have HB := n0_; have BK244 := n1_; have GW244 := n2_; have GE244 := n3_; clear n0_ n1_ n2_ n3_; clear hb hbox hg; have hcz124_0 : w123.cell? ⟨gb244, 0, none⟩ = some (.int .i64 a0_0) := (blk_cell BK244.out 0).trans rfl; have hcz124_1 : w123.cell? ⟨gb244, 1, none⟩ = some (.int .u64 a0_1) := (blk_cell BK244.out 1).trans rfl; have hcz124_2 : w123.cell? ⟨gb244, 2, none⟩ = some (.int .u64 a0_2) := (blk_cell BK244.out 2).trans rfl; have hcz124_3 : w123.cell? ⟨gb244, 3, none⟩ = some (.int .u64 a0_3) := (blk_cell BK244.out 3).trans rfl; have hcz124_4 : w123.cell? ⟨gb244, 4, none⟩ = some (.int .u64 a0_4) := (blk_cell BK244.out 4).trans rfl; have hcz124_5 : w123.cell? ⟨gb244, 5, none⟩ = some (.int .u64 a0_5) := (blk_cell BK244.out 5).trans rfl; have hcz124_6 : w123.cell? ⟨gb244, 6, none⟩ = some (.int .u64 a0_6) := (blk_cell BK244.out 6).trans rfl; have hcz124_7 : w123.cell? ⟨gb244, 7, none⟩ = some (.bool a0_7) := (blk_cell BK244.out 7).trans rfl; have hcz124_8 : w123.cell? ⟨gb244, 8, none⟩ = some (.slice A0_8 l0_8.length c0_8) := (blk_cell BK244.out 8).trans rfl; have hcz124_9 : w123.cell? ⟨gb244, 9, none⟩ = some (.slice A0_9 l0_9.length c0_9) := (blk_cell BK244.out 9).trans rfl; have hfz124_0 := blk_frozen BK244.out 0; have hfz124_1 := blk_frozen BK244.out 1; have hfz124_2 := blk_frozen BK244.out 2; have hfz124_3 := blk_frozen BK244.out 3; have hfz124_4 := blk_frozen BK244.out 4; have hfz124_5 := blk_frozen BK244.out 5; have hfz124_6 := blk_frozen BK244.out 6; have hfz124_7 := blk_frozen BK244.out 7; have hfz124_8 := blk_frozen BK244.out 8; have hfz124_9 := blk_frozen BK244.out 9) | ((with_reducible refine gate_dst (N := 153) rfl ?_); refine Kd.R_lit (Kd.int .u64) _ 23 ?hg (N := 153) ?hd (xs := ([28, a0_4] : List Int)) (inner := [.int .u64 28, .int .u64 a0_4]) (ok := fun _ => True) (okp := fun _ => True) ?hr ?hp (fun _ hk => hk) trivial (Below.refl _ _) (Nat.le_refl _) (by simp) ?_; (case hd => rfl); (case hg => rfl); (case hr => first | (go_simp; done) | (go_simp; rfl)); (case hp => exact (Reps.one (show Kd.M (Kd.int .u64) _ _ _ 28 [.int .u64 28] from rfl) (Reps.one (show Kd.M (Kd.int .u64) _ _ _ a0_4 [.int .u64 a0_4] from rfl) (Reps.none _ _)))); intro v302 w125 ho126 hb hg_ hnew_; clear hg_ hnew_; (first | rw [← Ny301.out] at ho126 | (simp only [Int.reduceToNat] at ho126; rw [← Ny301.out] at ho126)); have n0_ := Aside0.mk (Kd.R_lower ho126 (below_size (by repeat (first | (with_reducible first | exact HB.out | apply below_alloc | apply pw_below_drewN | apply below_drew1 | refine below_set ?_ GE244.out) | exact HB.out)))); have n1_ := Aside0.mk (blk_below (g := gb244) (o := .cells #[.int .i64 a0_0, .int .u64 a0_1, .int .u64 a0_2, .int .u64 a0_3, .int .u64 a0_4, .int .u64 a0_5, .int .u64 a0_6, .bool a0_7, .slice A0_8 l0_8.length c0_8, .slice A0_9 l0_9.length c0_9] 27 (0, 0)) (by (with_reducible repeat (first | refine blk_drewN ?_ _ | refine blk_drew ?_ | refine blk_alloc ?_ _)); exact BK244.out) hb); have n2_ := Aside0.mk (below_step (by repeat (first | (with_reducible first | exact HB.out | apply below_alloc | apply pw_below_drewN | apply below_drew1 | refine below_set ?_ GE244.out) | exact HB.out)) hb); clear BK244; clear HB; have HO303 := n0_; have BK244 := n1_; have HB := n2_; clear n0_ n1_ n2_; clear hb ho126))
                          go_ret
                          exact ⟨_, by first | rfl | (simp [errW_none, errW_some] <;> rfl) | (simp [*, errW_none, errW_some] <;> rfl), by (with_reducible repeat (first | apply Kd.R_alloc | apply Kd.R_drewN | apply Kd.R_drew)); exact HO303.out, by repeat (first | (with_reducible first | exact HB.out | apply below_alloc | apply pw_below_drewN | apply below_drew1 | refine below_set ?_ GE244.out) | exact HB.out)⟩
                        · rw [if_neg c122] at H
                          have c122b0 : (a0_0 == 28) = false := beq_eq_false_iff_ne.mpr c122
                          have c122b1 : (a0_0 != 28) = true := bne_iff_ne.mpr c122
                          obtain ⟨y304, hy304⟩ : ∃ y_ : List Int, y_ = (([IntKind.u64.wrap (a0_0)] : List Int)) := ⟨_, rfl⟩
                          replace H : (some y304) = some r := by first | (rw [hy304]; with_reducible exact H) | (have H2_ := (Option.bind_some _ _).symm.trans H; rw [hy304]; with_reducible exact H2_) | (have H2_ := (Option.bind_some _ _).symm.trans H; with_reducible exact H2_) | with_reducible exact H | (rw [hy304]; exact H) | exact H
                          have Ny304 := Aside0.mk hy304
                          clear hy304
                          obtain rfl := Option.some.inj H
                          go_enter Try.func28, Try.ntmps28
                          go_wp2_with (first | ((with_reducible refine gate_dst (N := 1) rfl ?_); refine box_event ?hg (N := 1) ?hd (cs := #[.int .i64 a0_0, .int .u64 a0_1, .int .u64 a0_2, .int .u64 a0_3, .int .u64 a0_4, .int .u64 a0_5, .int .u64 a0_6, .bool a0_7, .slice A0_8 l0_8.length c0_8, .slice A0_9 l0_9.length c0_9]) (t := 27) ?hr ?_; (case hd => rfl); (case hg => rfl); (case hr => first | (go_simp; done) | (go_simp; rfl)); intro gb244 hg w127 hbox hb; have n0_ := Aside0.mk (below_step (by repeat (first | (with_reducible first | exact HB.out | apply below_alloc | apply pw_below_drewN | apply below_drew1) | exact HB.out)) hb); have n1_ := Aside0.mk (hbox); have n2_ := Aside0.mk ((by rw [hg]; exact (below_size (by repeat (first | (with_reducible first | exact HB.out | apply below_alloc | apply pw_below_drewN | apply below_drew1) | exact HB.out))) : w.heap.size ≤ gb244)); have n3_ := Aside0.mk ((by rw [hg]; exact (below_size (by repeat (first | (with_reducible first | exact HB.out | apply below_alloc | apply pw_below_drewN | apply below_drew1) | exact HB.out))) : w.heap.size ≤ gb244)); clear HB; have HB := n0_; have BK244 := n1_; have GW244 := n2_; have GE244 := n3_; clear n0_ n1_ n2_ n3_; clear hb hbox hg; have hcz128_0 : w127.cell? ⟨gb244, 0, none⟩ = some (.int .i64 a0_0) := (blk_cell BK244.out 0).trans rfl; have hcz128_1 : w127.cell? ⟨gb244, 1, none⟩ = some (.int .u64 a0_1) := (blk_cell BK244.out 1).trans rfl; have hcz128_2 : w127.cell? ⟨gb244, 2, none⟩ = some (.int .u64 a0_2) := (blk_cell BK244.out 2).trans rfl; have hcz128_3 : w127.cell? ⟨gb244, 3, none⟩ = some (.int .u64 a0_3) := (blk_cell BK244.out 3).trans rfl; have hcz128_4 : w127.cell? ⟨gb244, 4, none⟩ = some (.int .u64 a0_4) := (blk_cell BK244.out 4).trans rfl; have hcz128_5 : w127.cell? ⟨gb244, 5, none⟩ = some (.int .u64 a0_5) := (blk_cell BK244.out 5).trans rfl; have hcz128_6 : w127.cell? ⟨gb244, 6, none⟩ = some (.int .u64 a0_6) := (blk_cell BK244.out 6).trans rfl; have hcz128_7 : w127.cell? ⟨gb244, 7, none⟩ = some (.bool a0_7) := (blk_cell BK244.out 7).trans rfl; have hcz128_8 : w127.cell? ⟨gb244, 8, none⟩ = some (.slice A0_8 l0_8.length c0_8) := (blk_cell BK244.out 8).trans rfl; have hcz128_9 : w127.cell? ⟨gb244, 9, none⟩ = some (.slice A0_9 l0_9.length c0_9) := (blk_cell BK244.out 9).trans rfl; have hfz128_0 := blk_frozen BK244.out 0; have hfz128_1 := blk_frozen BK244.out 1; have hfz128_2 := blk_frozen BK244.out 2; have hfz128_3 := blk_frozen BK244.out 3; have hfz128_4 := blk_frozen BK244.out 4; have hfz128_5 := blk_frozen BK244.out 5; have hfz128_6 := blk_frozen BK244.out 6; have hfz128_7 := blk_frozen BK244.out 7; have hfz128_8 := blk_frozen BK244.out 8; have hfz128_9 := blk_frozen BK244.out 9) | ((with_reducible refine gate_dst (N := 157) rfl ?_); refine Kd.R_lit (Kd.int .u64) _ 23 ?hg (N := 157) ?hd (xs := ([IntKind.u64.wrap (a0_0)] : List Int)) (inner := [.int .u64 (IntKind.u64.wrap (a0_0))]) (ok := fun _ => True) (okp := fun _ => True) ?hr ?hp (fun _ hk => hk) trivial (Below.refl _ _) (Nat.le_refl _) (by simp) ?_; (case hd => rfl); (case hg => rfl); (case hr => first | (go_simp; done) | (go_simp; rfl)); (case hp => exact (Reps.one (show Kd.M (Kd.int .u64) _ _ _ (IntKind.u64.wrap (a0_0)) [.int .u64 (IntKind.u64.wrap (a0_0))] from rfl) (Reps.none _ _))); intro v305 w129 ho130 hb hg_ hnew_; clear hg_ hnew_; (first | rw [← Ny304.out] at ho130 | (simp only [Int.reduceToNat] at ho130; rw [← Ny304.out] at ho130)); have n0_ := Aside0.mk (Kd.R_lower ho130 (below_size (by repeat (first | (with_reducible first | exact HB.out | apply below_alloc | apply pw_below_drewN | apply below_drew1 | refine below_set ?_ GE244.out) | exact HB.out)))); have n1_ := Aside0.mk (blk_below (g := gb244) (o := .cells #[.int .i64 a0_0, .int .u64 a0_1, .int .u64 a0_2, .int .u64 a0_3, .int .u64 a0_4, .int .u64 a0_5, .int .u64 a0_6, .bool a0_7, .slice A0_8 l0_8.length c0_8, .slice A0_9 l0_9.length c0_9] 27 (0, 0)) (by (with_reducible repeat (first | refine blk_drewN ?_ _ | refine blk_drew ?_ | refine blk_alloc ?_ _)); exact BK244.out) hb); have n2_ := Aside0.mk (below_step (by repeat (first | (with_reducible first | exact HB.out | apply below_alloc | apply pw_below_drewN | apply below_drew1 | refine below_set ?_ GE244.out) | exact HB.out)) hb); clear BK244; clear HB; have HO306 := n0_; have BK244 := n1_; have HB := n2_; clear n0_ n1_ n2_; clear hb ho130))
                          go_ret
                          exact ⟨_, by first | rfl | (simp [errW_none, errW_some] <;> rfl) | (simp [*, errW_none, errW_some] <;> rfl), by (with_reducible repeat (first | apply Kd.R_alloc | apply Kd.R_drewN | apply Kd.R_drew)); exact HO306.out, by repeat (first | (with_reducible first | exact HB.out | apply below_alloc | apply pw_below_drewN | apply below_drew1 | refine below_set ?_ GE244.out) | exact HB.out)⟩
end Go.Proofs.Ytphakdfholkbdaa.PFra
