-- Written by a program of this session (wip/tools/xprint.py) for this claim.
import Derived.Test.YtoanhimhomgjmaaPPrDx0
import Derived.Test.YtoanhimhomgjmaaPPrDx2
import Derived.Test.YtoanhimhomgjmaaPPrDx10
import Derived.Test.YtoanhimhomgjmaaPPrDx12
import Derived.Test.YtoanhimhomgjmaaPPrDx15
namespace Go.Proofs.Ytoanhimhomgjmaa.PPrD
open Go.RowKit Go.Proofs.YtoanhimhomgjmaaW.PrintWords Go.Proofs.YtoanhimhomgjmaaW.PrintLast Go.Proofs.YtoanhimhomgjmaaW.PrintMore
attribute [local go_sem] max2_int min2_int max_two min_two max_three min_three max_four min_four   -- for this text's walks alone
set_option linter.unusedVariables false
set_option linter.unusedSimpArgs false

/-! ### wigwaglaw13_ProbeLows: function 6 -/
def wigwaglaw13_ProbeLows.l0 : Nat → List Int → List Int → List Int → Bool → Int → Int → Int → Int → Int → List (S52) → Int → Int → Int → Int → Int → Int → Int → Int → Option (Bool)
  | 0, _, _, _, _, _, _, _, _, _, _, _, _, _, _, _, _, _, _ => none
  | k + 1, x0, x1, x2, x7, x9, x10, x11, x12, x223000, x223001, x223002, x223003, x223004, x223005, x223006, x223007, x223008, x223009 => if x12 < (x0.length : Int) then (if x12 < (x1.length : Int) then (if x12 < (x2.length : Int) then (if x12 < 60 then (if 0 ≤ x12 then ((probe_Ack.f k x223000 x223001 x223002 x223003 x223004 x223005 x223006 x223007 x223008 x223009 (IntKind.u64.wrap (x9 + (Int.tmod (IntKind.u64.wrap (rd x0 x12)) 100))) 0 0 0 0 (IntKind.u64.wrap (rd x1 x12)) 0 (IntKind.u64.wrap (rd x2 x12)) false false).bind fun bt226 => (if bt226.2.2.1 = (mn x10 (IntKind.u64.wrap (rd x1 x12))) then ((filt_Best.f bt226.2.1).bind fun t240 => (if t240 = (mx x11 (IntKind.u64.wrap (rd x2 x12))) then (if bt226.2.2.2.2.2.2.1 = 0 then (wigwaglaw13_ProbeLows.l0 k x0 x1 x2 x7 (IntKind.u64.wrap (x9 + (Int.tmod (IntKind.u64.wrap (rd x0 x12)) 100))) (mn x10 (IntKind.u64.wrap (rd x1 x12))) (mx x11 (IntKind.u64.wrap (rd x2 x12))) (wrap64 (x12 + 1)) bt226.1 bt226.2.1 bt226.2.2.1 bt226.2.2.2.1 bt226.2.2.2.2.1 bt226.2.2.2.2.2.1 bt226.2.2.2.2.2.2.1 bt226.2.2.2.2.2.2.2.1 bt226.2.2.2.2.2.2.2.2.1 bt226.2.2.2.2.2.2.2.2.2) else (none)) else (none))) else (none))) else (none)) else (some x7)) else (some x7)) else (some x7)) else (some x7)
def wigwaglaw13_ProbeLows.f (k : Nat) (l0 : List Int) (l1 : List Int) (l2 : List Int) : Option (Bool) := (wigwaglaw13_awake.f k).bind fun t209 => ((probe_New.f 0).bind fun bt210 => (wigwaglaw13_ProbeLows.l0 k l0 l1 l2 t209 0 18446744073709551615 0 0 bt210.1 bt210.2.1 bt210.2.2.1 bt210.2.2.2.1 bt210.2.2.2.2.1 bt210.2.2.2.2.2.1 bt210.2.2.2.2.2.2.1 bt210.2.2.2.2.2.2.2.1 bt210.2.2.2.2.2.2.2.2.1 bt210.2.2.2.2.2.2.2.2.2))
theorem wigwaglaw13_ProbeLows.mono_l : ∀ k, (∀ y0 y1 y2 y3 y4 y5 y6 y7 y8 y9 y10 y11 y12 y13 y14 y15 y16 y17, LeO (wigwaglaw13_ProbeLows.l0 k y0 y1 y2 y3 y4 y5 y6 y7 y8 y9 y10 y11 y12 y13 y14 y15 y16 y17) (wigwaglaw13_ProbeLows.l0 (k + 1) y0 y1 y2 y3 y4 y5 y6 y7 y8 y9 y10 y11 y12 y13 y14 y15 y16 y17))
  | 0 => fun _ _ _ _ _ _ _ _ _ _ _ _ _ _ _ _ _ _ r h => by simp [wigwaglaw13_ProbeLows.l0] at h
  | k + 1 => by
    have ih0 := wigwaglaw13_ProbeLows.mono_l k
    · intro y0 y1 y2 y3 y4 y5 y6 y7 y8 y9 y10 y11 y12 y13 y14 y15 y16 y17
      unfold wigwaglaw13_ProbeLows.l0
      repeat' first
      | (with_reducible exact ih0 _ _ _ _ _ _ _ _ _ _ _ _ _ _ _ _ _ _)
      | (with_reducible exact probe_Ack.mono _ _ _ _ _ _ _ _ _ _ _ _ _ _ _ _ _ _ _ _ _)
      | (with_reducible exact wigwaglaw13_awake.mono _)
      | (with_reducible exact LeO.refl _)
      | (with_reducible exact LeO.none _)
      | (with_reducible refine LeO.ite ?_ ?_)
      | (with_reducible refine LeO.bind ?_ (fun _ => ?_))
      | exact ih0 _ _ _ _ _ _ _ _ _ _ _ _ _ _ _ _ _ _
      | exact probe_Ack.mono _ _ _ _ _ _ _ _ _ _ _ _ _ _ _ _ _ _ _ _ _
      | exact wigwaglaw13_awake.mono _
      | exact LeO.none _
      | refine LeO.ite ?_ ?_
      | refine LeO.bind ?_ (fun _ => ?_)
theorem wigwaglaw13_ProbeLows.mono : ∀ a0 a1 a2 k, LeO (wigwaglaw13_ProbeLows.f k a0 a1 a2) (wigwaglaw13_ProbeLows.f (k + 1) a0 a1 a2) := by
  intro a0 a1 a2 k
  have ih0 := wigwaglaw13_ProbeLows.mono_l k
  unfold wigwaglaw13_ProbeLows.f
  repeat' first
      | (with_reducible exact ih0 _ _ _ _ _ _ _ _ _ _ _ _ _ _ _ _ _ _)
      | (with_reducible exact probe_Ack.mono _ _ _ _ _ _ _ _ _ _ _ _ _ _ _ _ _ _ _ _ _)
      | (with_reducible exact wigwaglaw13_awake.mono _)
      | (with_reducible exact LeO.refl _)
      | (with_reducible exact LeO.none _)
      | (with_reducible refine LeO.ite ?_ ?_)
      | (with_reducible refine LeO.bind ?_ (fun _ => ?_))
      | exact ih0 _ _ _ _ _ _ _ _ _ _ _ _ _ _ _ _ _ _
      | exact probe_Ack.mono _ _ _ _ _ _ _ _ _ _ _ _ _ _ _ _ _ _ _ _ _
      | exact wigwaglaw13_awake.mono _
      | exact LeO.none _
      | refine LeO.ite ?_ ?_
      | refine LeO.bind ?_ (fun _ => ?_)
def wigwaglaw13_ProbeLows.T10 : Bool × List (List Nat × List Nat) := (true, [([], []), ([], []), ([], []), ([], []), ([2, 3], [2, 3]), ([4], [4]), ([5], [5]), ([], []), ([], []), ([7, 8], [7, 8]), ([9], [9]), ([10], [10]), ([1, 6, 11], [1, 6, 11]), ([0, 12], [0, 12]), ([13, 13, 0, 1, 2, 3, 4, 5, 6, 7, 8, 9, 10, 11, 12, 13], [13])])
def wigwaglaw13_ProbeLows.B10 : List Nat := [0, 0, 0, 0, 12, 28, 60, 0, 0, 384, 896, 1920, 4094, 8191, 16383]
theorem wigwaglaw13_ProbeLows.tab10 : rtab .any (opsOf Try.f6 10) = wigwaglaw13_ProbeLows.T10 := by kernel_rfl
theorem wigwaglaw13_ProbeLows.bits10 : waitsOk wigwaglaw13_ProbeLows.T10.2 wigwaglaw13_ProbeLows.B10 = true := by kernel_rfl
set_option maxHeartbeats 8000000 in
set_option maxRecDepth 100000 in
theorem wigwaglaw13_ProbeLows.calls (k : Nat) (A0 : Option Addr) (c0 : Nat) (l0 : List Int) (A1 : Option Addr) (c1 : Nat) (l1 : List Int) (A2 : Option Addr) (c2 : Nat) (l2 : List Int) (r : Bool) (w : World) (hr0 : Kd.C (Kd.int .u8) w A0 l0.length l0) (hc0 : l0.length ≤ c0) (hr1 : Kd.C (Kd.int .u16) w A1 l1.length l1) (hc1 : l1.length ≤ c1) (hr2 : Kd.C (Kd.int .u32) w A2 l2.length l2) (hc2 : l2.length ≤ c2) (h : wigwaglaw13_ProbeLows.f k l0 l1 l2 = some r) :
    Calls Try.prog 6 #[.slice A0 l0.length c0, .slice A1 l1.length c1, .slice A2 l2.length c2] w fun e w' => e = .returned (.bool r) ∧ Below w.heap.size w w' := by
  have hu26 := Try.underlying26
  have hu28 := Try.underlying28
  have HR0 := Aside0.mk hr0
  have HC0 := Aside0.mk hc0
  clear hr0 hc0
  have HR1 := Aside0.mk hr1
  have HC1 := Aside0.mk hc1
  clear hr1 hc1
  have HR2 := Aside0.mk hr2
  have HC2 := Aside0.mk hc2
  clear hr2 hc2
  have HB := Aside0.mk (Below.refl w.heap.size w)
  have H : ((wigwaglaw13_awake.f k).bind fun t209 => ((probe_New.f 0).bind fun bt210 => (wigwaglaw13_ProbeLows.l0 k l0 l1 l2 t209 0 18446744073709551615 0 0 bt210.1 bt210.2.1 bt210.2.2.1 bt210.2.2.2.1 bt210.2.2.2.2.1 bt210.2.2.2.2.2.1 bt210.2.2.2.2.2.2.1 bt210.2.2.2.2.2.2.2.1 bt210.2.2.2.2.2.2.2.2.1 bt210.2.2.2.2.2.2.2.2.2))) = some r := h
  clear h
  replace H := Option.bind_eq_some_iff.mp H
  obtain ⟨t209, A40, H⟩ := H
  replace H : ((probe_New.f 0).bind fun bt210 => (wigwaglaw13_ProbeLows.l0 k l0 l1 l2 t209 0 18446744073709551615 0 0 bt210.1 bt210.2.1 bt210.2.2.1 bt210.2.2.2.1 bt210.2.2.2.2.1 bt210.2.2.2.2.2.1 bt210.2.2.2.2.2.2.1 bt210.2.2.2.2.2.2.2.1 bt210.2.2.2.2.2.2.2.2.1 bt210.2.2.2.2.2.2.2.2.2)) = some r := H
  have A4 := Aside0.mk A40
  clear A40
  replace H := Option.bind_eq_some_iff.mp H
  obtain ⟨⟨t210, t211, t214, t215, t216, t217, t218, t219, t220, t221⟩, A50, H⟩ := H
  replace H : (wigwaglaw13_ProbeLows.l0 k l0 l1 l2 t209 0 18446744073709551615 0 0 t210 t211 t214 t215 t216 t217 t218 t219 t220 t221) = some r := H
  have A5 := Aside0.mk A50
  clear A50
  have H' := Aside0.mk H
  clear H
  go_enter Try.func6, Try.ntmps6
  go_wp2_with (first | ((with_reducible refine gate_callee (f := 9) rfl ?_); refine goesL_ (some 13) rfl rfl Try.func9 (by kernel_rfl) rfl #[] rfl (by (try simp only [List.map_toArray, List.map_cons, List.map_nil]); first | done | rfl | (simp only [List.length_drop, List.length_take]; rfl)) ?_; (with_reducible refine (wigwaglaw13_awake.calls k  t209 _ A4.out).mono ?_); rintro e w6 ⟨rfl, hb⟩; refine ⟨_, rfl, ?_⟩; have n0_ := Aside0.mk (below_step (by repeat (first | (with_reducible first | exact HB.out | apply below_alloc | apply pw_below_drewN | apply below_drew1) | exact HB.out)) hb); clear HB; have HB := n0_; clear n0_; (try clear hb); (try clear hb2); (try clear hk); (try clear hi)) | ((with_reducible refine gate_callee (f := 15) rfl ?_); refine goesL_ (some 14) rfl rfl Try.func15 (by kernel_rfl) rfl #[.int .u64 0] rfl (by (try simp only [List.map_toArray, List.map_cons, List.map_nil]); first | done | rfl | (simp only [List.length_drop, List.length_take]; rfl)) ?_; (with_reducible refine (probe_New.calls 0 t210 t211 t214 t215 t216 t217 t218 t219 t220 t221 _ A5.out).mono ?_); rintro e w7 ⟨v212, rfl, ho0, hb⟩; refine ⟨_, rfl, ?_⟩; have n0_ := Aside0.mk (Kd.R_lower ho0 (below_size (by repeat (first | (with_reducible first | exact HB.out | apply below_alloc | apply pw_below_drewN | apply below_drew1) | exact HB.out)))); have n1_ := Aside0.mk (below_step (by repeat (first | (with_reducible first | exact HB.out | apply below_alloc | apply pw_below_drewN | apply below_drew1) | exact HB.out)) hb); clear HB; have HO213 := n0_; have HB := n1_; clear n0_ n1_; (try clear hb); (try clear hb2); (try clear hk); (try clear hi); (try clear ho0)) | ((with_reducible refine gate_dst (N := 8) rfl ?_); (try (refine gate_guard (by rfl) ?_; dsimp only)); refine box_event ?hg (N := 8) ?hd (cs := #[.int .i64 0, .slice none 0 0, .int .u64 0, .int .u64 0, .int .u64 0, .int .u64 0, .int .u64 0, .int .u64 0, .int .u64 0, .int .u64 0]) (t := 26) ?hr ?_; (case hd => rfl); (case hg => rfl); (case hr => first | (go_simp; done) | (go_simp; rfl)); intro gb222 hg w8 hbox hb; have n0_ := Aside0.mk (Kd.R_below (by (with_reducible repeat (first | apply Kd.R_alloc | apply Kd.R_drewN | apply Kd.R_drew)); exact HO213.out) hb); have n1_ := Aside0.mk (below_step (by repeat (first | (with_reducible first | exact HB.out | apply below_alloc | apply pw_below_drewN | apply below_drew1) | exact HB.out)) hb); have n2_ := Aside0.mk (hbox); have n3_ := Aside0.mk ((by rw [hg]; exact (below_size (by repeat (first | (with_reducible first | exact HB.out | apply below_alloc | apply pw_below_drewN | apply below_drew1) | exact HB.out))) : w.heap.size ≤ gb222)); have n4_ := Aside0.mk ((by rw [hg]; exact (below_size (by repeat (first | (with_reducible first | exact HB.out | apply below_alloc | apply pw_below_drewN | apply below_drew1) | exact HB.out))) : w.heap.size ≤ gb222)); clear HO213; clear HB; have HO213 := n0_; have HB := n1_; have BK222 := n2_; have GW222 := n3_; have GE222 := n4_; clear n0_ n1_ n2_ n3_ n4_; clear hb hbox hg; have hcz9_0 : w8.cell? ⟨gb222, 0, none⟩ = some (.int .i64 0) := (blk_cell BK222.out 0).trans rfl; have hcz9_1 : w8.cell? ⟨gb222, 1, none⟩ = some (.slice none 0 0) := (blk_cell BK222.out 1).trans rfl; have hcz9_2 : w8.cell? ⟨gb222, 2, none⟩ = some (.int .u64 0) := (blk_cell BK222.out 2).trans rfl; have hcz9_3 : w8.cell? ⟨gb222, 3, none⟩ = some (.int .u64 0) := (blk_cell BK222.out 3).trans rfl; have hcz9_4 : w8.cell? ⟨gb222, 4, none⟩ = some (.int .u64 0) := (blk_cell BK222.out 4).trans rfl; have hcz9_5 : w8.cell? ⟨gb222, 5, none⟩ = some (.int .u64 0) := (blk_cell BK222.out 5).trans rfl; have hcz9_6 : w8.cell? ⟨gb222, 6, none⟩ = some (.int .u64 0) := (blk_cell BK222.out 6).trans rfl; have hcz9_7 : w8.cell? ⟨gb222, 7, none⟩ = some (.int .u64 0) := (blk_cell BK222.out 7).trans rfl; have hcz9_8 : w8.cell? ⟨gb222, 8, none⟩ = some (.int .u64 0) := (blk_cell BK222.out 8).trans rfl; have hcz9_9 : w8.cell? ⟨gb222, 9, none⟩ = some (.int .u64 0) := (blk_cell BK222.out 9).trans rfl; have hfz9_0 := blk_frozen BK222.out 0; have hfz9_1 := blk_frozen BK222.out 1; have hfz9_2 := blk_frozen BK222.out 2; have hfz9_3 := blk_frozen BK222.out 3; have hfz9_4 := blk_frozen BK222.out 4; have hfz9_5 := blk_frozen BK222.out 5; have hfz9_6 := blk_frozen BK222.out 6; have hfz9_7 := blk_frozen BK222.out 7; have hfz9_8 := blk_frozen BK222.out 8; have hfz9_9 := blk_frozen BK222.out 9; obtain ⟨Ao10, co10, eo10⟩ := Kd.R_slice HO213.out; subst eo10))
  go_loopg [9, 10, 11, 12] k (fun kq v9 v10 v11 v12 w' => ∃ (x9_1 : Int) (x10_1 : Int) (x11_1 : Int) (x12_1 : Int) (x223000_1 : Int) (x223001_1 : List (S52)) (x223002_1 : Int) (x223003_1 : Int) (x223004_1 : Int) (x223005_1 : Int) (x223006_1 : Int) (x223007_1 : Int) (x223008_1 : Int) (x223009_1 : Int) (u223001 : Value), v9 = .int .u64 x9_1 ∧ v10 = .int .u64 x10_1 ∧ v11 = .int .u64 x11_1 ∧ v12 = .int .i64 x12_1 ∧ Aside0 (wigwaglaw13_ProbeLows.l0 kq l0 l1 l2 t209 x9_1 x10_1 x11_1 x12_1 x223000_1 x223001_1 x223002_1 x223003_1 x223004_1 x223005_1 x223006_1 x223007_1 x223008_1 x223009_1 = some r) ∧ Aside0 (kq ≤ k) ∧ Aside0 (Kd.R k52 52 w' w.heap.size (fun _ => True) u223001 x223001_1) ∧ Aside0 (w'.heap[gb222]? = some (.cells #[.int .i64 x223000_1, u223001, .int .u64 x223002_1, .int .u64 x223003_1, .int .u64 x223004_1, .int .u64 x223005_1, .int .u64 x223006_1, .int .u64 x223007_1, .int .u64 x223008_1, .int .u64 x223009_1] 26 (0, 0))) ∧ Aside0 (Below w.heap.size w w'))
  case atStart => exact ⟨(0), (18446744073709551615), (0), (0), (t210), (t211), (t214), (t215), (t216), (t217), (t218), (t219), (t220), (t221), (.slice Ao10 t211.length co10), (by first | rfl | (simp; done) | (simp [*]; done)), (by first | rfl | (simp; done) | (simp [*]; done)), (by first | rfl | (simp; done) | (simp [*]; done)), (by first | rfl | (simp; done) | (simp [*]; done)), H', ⟨Nat.le_refl _⟩, ⟨by (with_reducible repeat (first | apply Kd.R_alloc | apply Kd.R_drewN | apply Kd.R_drew)); exact Kd.R_mono (Kd.R_far (p := ⟨gb222, 9, none⟩) (Kd.R_far (p := ⟨gb222, 8, none⟩) (Kd.R_far (p := ⟨gb222, 7, none⟩) (Kd.R_far (p := ⟨gb222, 6, none⟩) (Kd.R_far (p := ⟨gb222, 5, none⟩) (Kd.R_far (p := ⟨gb222, 4, none⟩) (Kd.R_far (p := ⟨gb222, 3, none⟩) (Kd.R_far (p := ⟨gb222, 2, none⟩) (Kd.R_far (p := ⟨gb222, 1, none⟩) (Kd.R_far (p := ⟨gb222, 0, none⟩) (Kd.R_types HO213.out BK222.out (by decide)) (fun _ hk => hk.2) (.int .i64 t210)) (fun _ hk => hk.2) (.slice Ao10 t211.length co10)) (fun _ hk => hk.2) (.int .u64 t214)) (fun _ hk => hk.2) (.int .u64 t215)) (fun _ hk => hk.2) (.int .u64 t216)) (fun _ hk => hk.2) (.int .u64 t217)) (fun _ hk => hk.2) (.int .u64 t218)) (fun _ hk => hk.2) (.int .u64 t219)) (fun _ hk => hk.2) (.int .u64 t220)) (fun _ hk => hk.2) (.int .u64 t221)) (fun _ hk => trivial)⟩, ⟨by (with_reducible repeat (first | refine blk_drewN ?_ _ | refine blk_drew ?_ | refine blk_alloc ?_ _)); refine blk_put (cs := #[.int .i64 t210, .slice Ao10 t211.length co10, .int .u64 t214, .int .u64 t215, .int .u64 t216, .int .u64 t217, .int .u64 t218, .int .u64 t219, .int .u64 t220, .int .u64 0]) ?_ 9 _ rfl; (with_reducible repeat (first | refine blk_drewN ?_ _ | refine blk_drew ?_ | refine blk_alloc ?_ _)); refine blk_put (cs := #[.int .i64 t210, .slice Ao10 t211.length co10, .int .u64 t214, .int .u64 t215, .int .u64 t216, .int .u64 t217, .int .u64 t218, .int .u64 t219, .int .u64 0, .int .u64 0]) ?_ 8 _ rfl; (with_reducible repeat (first | refine blk_drewN ?_ _ | refine blk_drew ?_ | refine blk_alloc ?_ _)); refine blk_put (cs := #[.int .i64 t210, .slice Ao10 t211.length co10, .int .u64 t214, .int .u64 t215, .int .u64 t216, .int .u64 t217, .int .u64 t218, .int .u64 0, .int .u64 0, .int .u64 0]) ?_ 7 _ rfl; (with_reducible repeat (first | refine blk_drewN ?_ _ | refine blk_drew ?_ | refine blk_alloc ?_ _)); refine blk_put (cs := #[.int .i64 t210, .slice Ao10 t211.length co10, .int .u64 t214, .int .u64 t215, .int .u64 t216, .int .u64 t217, .int .u64 0, .int .u64 0, .int .u64 0, .int .u64 0]) ?_ 6 _ rfl; (with_reducible repeat (first | refine blk_drewN ?_ _ | refine blk_drew ?_ | refine blk_alloc ?_ _)); refine blk_put (cs := #[.int .i64 t210, .slice Ao10 t211.length co10, .int .u64 t214, .int .u64 t215, .int .u64 t216, .int .u64 0, .int .u64 0, .int .u64 0, .int .u64 0, .int .u64 0]) ?_ 5 _ rfl; (with_reducible repeat (first | refine blk_drewN ?_ _ | refine blk_drew ?_ | refine blk_alloc ?_ _)); refine blk_put (cs := #[.int .i64 t210, .slice Ao10 t211.length co10, .int .u64 t214, .int .u64 t215, .int .u64 0, .int .u64 0, .int .u64 0, .int .u64 0, .int .u64 0, .int .u64 0]) ?_ 4 _ rfl; (with_reducible repeat (first | refine blk_drewN ?_ _ | refine blk_drew ?_ | refine blk_alloc ?_ _)); refine blk_put (cs := #[.int .i64 t210, .slice Ao10 t211.length co10, .int .u64 t214, .int .u64 0, .int .u64 0, .int .u64 0, .int .u64 0, .int .u64 0, .int .u64 0, .int .u64 0]) ?_ 3 _ rfl; (with_reducible repeat (first | refine blk_drewN ?_ _ | refine blk_drew ?_ | refine blk_alloc ?_ _)); refine blk_put (cs := #[.int .i64 t210, .slice Ao10 t211.length co10, .int .u64 0, .int .u64 0, .int .u64 0, .int .u64 0, .int .u64 0, .int .u64 0, .int .u64 0, .int .u64 0]) ?_ 2 _ rfl; (with_reducible repeat (first | refine blk_drewN ?_ _ | refine blk_drew ?_ | refine blk_alloc ?_ _)); refine blk_put (cs := #[.int .i64 t210, .slice none 0 0, .int .u64 0, .int .u64 0, .int .u64 0, .int .u64 0, .int .u64 0, .int .u64 0, .int .u64 0, .int .u64 0]) ?_ 1 _ rfl; (with_reducible repeat (first | refine blk_drewN ?_ _ | refine blk_drew ?_ | refine blk_alloc ?_ _)); refine blk_put (cs := #[.int .i64 0, .slice none 0 0, .int .u64 0, .int .u64 0, .int .u64 0, .int .u64 0, .int .u64 0, .int .u64 0, .int .u64 0, .int .u64 0]) ?_ 0 _ rfl; (with_reducible repeat (first | refine blk_drewN ?_ _ | refine blk_drew ?_ | refine blk_alloc ?_ _)); exact BK222.out⟩, ⟨by repeat (first | (with_reducible first | exact HB.out | apply below_alloc | apply pw_below_drewN | apply below_drew1 | refine below_set ?_ GE222.out) | exact HB.out)⟩⟩
  case round =>
    clear H'
    try clear c1
    try clear c2
    try clear p2
    try clear c6
    try clear c9
    try clear hcz9_0
    try clear hcz9_1
    try clear hcz9_2
    try clear hcz9_3
    try clear hcz9_4
    try clear hcz9_5
    try clear hcz9_6
    try clear hcz9_7
    try clear hcz9_8
    try clear hcz9_9
    try clear hfz9_0
    try clear hfz9_1
    try clear hfz9_2
    try clear hfz9_3
    try clear hfz9_4
    try clear hfz9_5
    try clear hfz9_6
    try clear hfz9_7
    try clear hfz9_8
    try clear hfz9_9
    obtain ⟨x9_1, x10_1, x11_1, x12_1, x223000_1, x223001_1, x223002_1, x223003_1, x223004_1, x223005_1, x223006_1, x223007_1, x223008_1, x223009_1, u223001, rfl, rfl, rfl, rfl, HA, HK1, HO_223001, BK222, HB⟩ := hrel
    cases gk with
    | zero => exact absurd HA.out (by simp [wigwaglaw13_ProbeLows.l0])
    | succ k1 =>
      have H := HA.out
      clear HA
      simp only [wigwaglaw13_ProbeLows.l0] at H
      by_cases c11 : x12_1 < (l0.length : Int)
      · rw [if_pos c11] at H
        have c11b0 : decide (x12_1 < (l0.length : Int)) = true := decide_eq_true c11
        clear c11
        by_cases c12 : x12_1 < (l1.length : Int)
        · rw [if_pos c12] at H
          have c12b0 : decide (x12_1 < (l1.length : Int)) = true := decide_eq_true c12
          clear c12
          by_cases c13 : x12_1 < (l2.length : Int)
          · rw [if_pos c13] at H
            have c13b0 : decide (x12_1 < (l2.length : Int)) = true := decide_eq_true c13
            clear c13
            by_cases c14 : x12_1 < 60
            · rw [if_pos c14] at H
              have c14b0 : decide (x12_1 < 60) = true := decide_eq_true c14
              clear c14
              by_cases c15 : 0 ≤ x12_1
              · rw [if_pos c15] at H
                have c15b0 : decide (0 ≤ x12_1) = true := decide_eq_true c15
                clear c15
                replace H := Option.bind_eq_some_iff.mp H
                obtain ⟨⟨t226, t227, t230, t231, t232, t233, t234, t235, t236, t237⟩, A160, H⟩ := H
                replace H : (if t230 = (mn x10_1 (IntKind.u64.wrap (rd l1 x12_1))) then ((filt_Best.f t227).bind fun t240 => (if t240 = (mx x11_1 (IntKind.u64.wrap (rd l2 x12_1))) then (if t234 = 0 then (wigwaglaw13_ProbeLows.l0 k1 l0 l1 l2 t209 (IntKind.u64.wrap (x9_1 + (Int.tmod (IntKind.u64.wrap (rd l0 x12_1)) 100))) (mn x10_1 (IntKind.u64.wrap (rd l1 x12_1))) (mx x11_1 (IntKind.u64.wrap (rd l2 x12_1))) (wrap64 (x12_1 + 1)) t226 t227 t230 t231 t232 t233 t234 t235 t236 t237) else (none)) else (none))) else (none)) = some r := H
                have A16 := Aside0.mk A160
                clear A160
                obtain ⟨ji17, hji17⟩ : ∃ j_ : Int, (mn x10_1 (IntKind.u64.wrap (rd l1 x12_1))) = j_ := ⟨_, rfl⟩
                replace H : (if t230 = (ji17) then ((filt_Best.f t227).bind fun t240 => (if t240 = (mx x11_1 (IntKind.u64.wrap (rd l2 x12_1))) then (if t234 = 0 then (wigwaglaw13_ProbeLows.l0 k1 l0 l1 l2 t209 (IntKind.u64.wrap (x9_1 + (Int.tmod (IntKind.u64.wrap (rd l0 x12_1)) 100))) ji17 (mx x11_1 (IntKind.u64.wrap (rd l2 x12_1))) (wrap64 (x12_1 + 1)) t226 t227 t230 t231 t232 t233 t234 t235 t236 t237) else (none)) else (none))) else (none)) = some r := by first | (rw [hji17] at H; exact H) | (simp only [hji17] at H ⊢; exact H)
                (try rw [hji17] at A16)
                have hji17_ : (if (IntKind.u64.wrap (rd l1 x12_1)) < x10_1 then (IntKind.u64.wrap (rd l1 x12_1)) else x10_1) = ji17 := hji17
                obtain ⟨ji18, hji18⟩ : ∃ j_ : Int, (mx x11_1 (IntKind.u64.wrap (rd l2 x12_1))) = j_ := ⟨_, rfl⟩
                replace H : (if t230 = (ji17) then ((filt_Best.f t227).bind fun t240 => (if t240 = (ji18) then (if t234 = 0 then (wigwaglaw13_ProbeLows.l0 k1 l0 l1 l2 t209 (IntKind.u64.wrap (x9_1 + (Int.tmod (IntKind.u64.wrap (rd l0 x12_1)) 100))) ji17 ji18 (wrap64 (x12_1 + 1)) t226 t227 t230 t231 t232 t233 t234 t235 t236 t237) else (none)) else (none))) else (none)) = some r := by first | (rw [hji18] at H; exact H) | (simp only [hji18] at H ⊢; exact H)
                (try rw [hji18] at A16)
                have hji18_ : (if x11_1 < (IntKind.u64.wrap (rd l2 x12_1)) then (IntKind.u64.wrap (rd l2 x12_1)) else x11_1) = ji18 := hji18
                by_cases c19 : t230 = (ji17)
                · rw [if_pos c19] at H
                  have c19b0 : (t230 == (ji17)) = true := beq_iff_eq.mpr c19
                  have c19b1 : (t230 != (ji17)) = false := bne_eq_false_iff_eq.mpr c19
                  clear c19
                  replace H := Option.bind_eq_some_iff.mp H
                  obtain ⟨t240, A200, H⟩ := H
                  replace H : (if t240 = (ji18) then (if t234 = 0 then (wigwaglaw13_ProbeLows.l0 k1 l0 l1 l2 t209 (IntKind.u64.wrap (x9_1 + (Int.tmod (IntKind.u64.wrap (rd l0 x12_1)) 100))) ji17 ji18 (wrap64 (x12_1 + 1)) t226 t227 t230 t231 t232 t233 t234 t235 t236 t237) else (none)) else (none)) = some r := H
                  have A20 := Aside0.mk A200
                  clear A200
                  by_cases c21 : t240 = (ji18)
                  · rw [if_pos c21] at H
                    have c21b0 : (t240 == (ji18)) = true := beq_iff_eq.mpr c21
                    have c21b1 : (t240 != (ji18)) = false := bne_eq_false_iff_eq.mpr c21
                    clear c21
                    by_cases c22 : t234 = 0
                    · rw [if_pos c22] at H
                      have c22b0 : (t234 == 0) = true := beq_iff_eq.mpr c22
                      have c22b1 : (t234 != 0) = false := bne_eq_false_iff_eq.mpr c22
                      clear c22
                      have H' := Aside0.mk H
                      clear H
                      have p223 : 0 ≤ (x12_1 : Int) := of_decide_eq_true (by first | (with_reducible assumption) | assumption)
                      have q223 : x12_1 < (l0.length : Int) := of_decide_eq_true (by first | (with_reducible assumption) | assumption)
                      obtain ⟨ad223, e223, hx223_0⟩ := Kd.at_int HR0.out x12_1 p223 q223
                      cases e223
                      replace hx223_0 := (HB.out.cell (World.block_lt_of_cell? w _ hx223_0)).trans hx223_0
                      replace p223 := eq_true p223
                      replace q223 := eq_true q223
                      try go_wp2
                      have n0_ := Aside0.mk (Kd.R_drew HO_223001.out)
                      have n1_ := Aside0.mk (blk_drew BK222.out)
                      have n2_ := Aside0.mk (below_drew1 HB.out)
                      clear HO_223001
                      clear BK222
                      clear HB
                      have HO_223001 := n0_
                      have BK222 := n1_
                      have HB := n2_
                      clear n0_ n1_ n2_
                      have p224 : 0 ≤ (x12_1 : Int) := of_decide_eq_true (by first | (with_reducible assumption) | assumption)
                      have q224 : x12_1 < (l1.length : Int) := of_decide_eq_true (by first | (with_reducible assumption) | assumption)
                      obtain ⟨ad224, e224, hx224_0⟩ := Kd.at_int HR1.out x12_1 p224 q224
                      have hw224_0 := hx224_0
                      cases e224
                      replace hx224_0 := (HB.out.cell (World.block_lt_of_cell? w _ hx224_0)).trans hx224_0
                      replace p224 := eq_true p224
                      replace q224 := eq_true q224
                      have p225 : 0 ≤ (x12_1 : Int) := of_decide_eq_true (by first | (with_reducible assumption) | assumption)
                      have q225 : x12_1 < (l2.length : Int) := of_decide_eq_true (by first | (with_reducible assumption) | assumption)
                      obtain ⟨ad225, e225, hx225_0⟩ := Kd.at_int HR2.out x12_1 p225 q225
                      have hw225_0 := hx225_0
                      cases e225
                      replace hx225_0 := (HB.out.cell (World.block_lt_of_cell? w _ hx225_0)).trans hx225_0
                      replace p225 := eq_true p225
                      replace q225 := eq_true q225
                      obtain ⟨Ao24, co24, eo24⟩ := Kd.R_slice HO_223001.out
                      (first | subst eo24 | (injection eo24 with f1_ f2_ f3_; have f4_ := f1_.symm; have f5_ := f3_.symm; clear f1_ f2_ f3_; subst f4_; subst f5_))
                      refine start_ (n := 15) (S := fun w' => w'.cell? ⟨gb222, 0, none⟩ = some (.int .i64 x223000_1) ∧ w'.cell? ⟨gb222, 1, none⟩ = some (.slice Ao24 x223001_1.length co24) ∧ w'.cell? ⟨gb222, 2, none⟩ = some (.int .u64 x223002_1) ∧ w'.cell? ⟨gb222, 3, none⟩ = some (.int .u64 x223003_1) ∧ w'.cell? ⟨gb222, 4, none⟩ = some (.int .u64 x223004_1) ∧ w'.cell? ⟨gb222, 5, none⟩ = some (.int .u64 x223005_1) ∧ w'.cell? ⟨gb222, 6, none⟩ = some (.int .u64 x223006_1) ∧ w'.cell? ⟨gb222, 7, none⟩ = some (.int .u64 x223007_1) ∧ w'.cell? ⟨gb222, 8, none⟩ = some (.int .u64 x223008_1) ∧ w'.cell? ⟨gb222, 9, none⟩ = some (.int .u64 x223009_1) ∧ w'.cell? (ad224.add (x12_1).toNat) = some (.int .u16 (rd l1 x12_1)) ∧ w'.cell? (ad225.add (x12_1).toNat) = some (.int .u32 (rd l2 x12_1))) (ds := [14]) #[false, false, false, false, false, false, false, false, false, false, false, false, false, false, false] (by kernel_rfl) rfl rfl ⟨(blk_cell BK222.out 0).trans rfl, (blk_cell BK222.out 1).trans rfl, (blk_cell BK222.out 2).trans rfl, (blk_cell BK222.out 3).trans rfl, (blk_cell BK222.out 4).trans rfl, (blk_cell BK222.out 5).trans rfl, (blk_cell BK222.out 6).trans rfl, (blk_cell BK222.out 7).trans rfl, (blk_cell BK222.out 8).trans rfl, (blk_cell BK222.out 9).trans rfl, ((HB.out.cell (World.block_lt_of_cell? w _ hw224_0)).trans hw224_0), ((HB.out.cell (World.block_lt_of_cell? w _ hw225_0)).trans hw225_0)⟩ (fun hHeld => ?_); refine with_tabW wigwaglaw13_ProbeLows.tab10 wigwaglaw13_ProbeLows.bits10 (fun HT_ HW_ => ?_)
                      generalize wr.drew = w23 at HO_223001 BK222 HB hx224_0 hx225_0 hHeld ⊢
                      refine pure_ (i := 1) (N := some 46) (v := ?_) (a' := ?_) #[false, true, false, false, false, false, false, false, false, false, false, false, false, false, false] rfl rfl (any_of HT_.out (by kernel_rfl)) (fun _ _ _ h => h) (Or.inl ⟨by rfl, ?_⟩) ?_ ?_
                      rotate_left
                      · intro w'
                        go_simp
                        with_reducible rfl
                      rotate_left
                      · simp only [Act.put, List.setIfInBounds_toArray, List.set_cons_zero, List.set_cons_succ, i64_w, i32_w]
                        rfl
                      refine pure_ (i := 2) (N := some 47) (v := ?_) (a' := ?_) #[false, true, true, false, false, false, false, false, false, false, false, false, false, false, false] rfl rfl (any_of HT_.out (by kernel_rfl)) (fun _ _ _ h => h) (Or.inl ⟨by rfl, ?_⟩) ?_ ?_
                      rotate_left
                      · intro w'
                        go_simp
                        with_reducible rfl
                      rotate_left
                      · simp only [Act.put, List.setIfInBounds_toArray, List.set_cons_zero, List.set_cons_succ, i64_w, i32_w]
                        rfl
                      refine pure_ (i := 3) (N := some 48) (v := ?_) (a' := ?_) #[false, true, true, true, false, false, false, false, false, false, false, false, false, false, false] rfl rfl (any_of HT_.out (by kernel_rfl)) (fun _ _ _ h => h) (Or.inl ⟨by rfl, ?_⟩) ?_ ?_
                      rotate_left
                      · intro w'
                        go_simp
                        with_reducible rfl
                      rotate_left
                      · simp only [Act.put, List.setIfInBounds_toArray, List.set_cons_zero, List.set_cons_succ, i64_w, i32_w]
                        rfl
                      refine pure_ (i := 4) (N := some 49) (v := ?_) (a' := ?_) #[false, true, true, true, true, false, false, false, false, false, false, false, false, false, false] rfl rfl (any_of HT_.out (by kernel_rfl)) (fun _ _ _ h => h) (Or.inl ⟨by rfl, ?_⟩) ?_ ?_
                      rotate_left
                      · intro w'
                        go_simp
                        with_reducible rfl
                      rotate_left
                      · simp only [Act.put, List.setIfInBounds_toArray, List.set_cons_zero, List.set_cons_succ, i64_w, i32_w]
                        rfl
                      refine pure_ (i := 7) (N := some 52) (v := ?_) (a' := ?_) #[false, true, true, true, true, false, false, true, false, false, false, false, false, false, false] rfl rfl (any_of HT_.out (by kernel_rfl)) (fun _ _ _ h => h) (Or.inl ⟨by rfl, ?_⟩) ?_ ?_
                      rotate_left
                      · intro w'
                        go_simp
                        with_reducible rfl
                      rotate_left
                      · simp only [Act.put, List.setIfInBounds_toArray, List.set_cons_zero, List.set_cons_succ, i64_w, i32_w]
                        rfl
                      refine pure_ (i := 8) (N := some 53) (v := ?_) (a' := ?_) #[false, true, true, true, true, false, false, true, true, false, false, false, false, false, false] rfl rfl (any_of HT_.out (by kernel_rfl)) (fun _ _ _ h => h) (Or.inl ⟨by rfl, ?_⟩) ?_ ?_
                      rotate_left
                      · intro w'
                        go_simp
                        with_reducible rfl
                      rotate_left
                      · simp only [Act.put, List.setIfInBounds_toArray, List.set_cons_zero, List.set_cons_succ, i64_w, i32_w]
                        rfl
                      refine pure_ (i := 9) (N := some 54) (v := ?_) (a' := ?_) #[false, true, true, true, true, false, false, true, true, true, false, false, false, false, false] rfl rfl (any_of HT_.out (by kernel_rfl)) (fun _ _ _ h => h) (Or.inl ⟨by rfl, ?_⟩) ?_ ?_
                      rotate_left
                      · intro w'
                        go_simp
                        with_reducible rfl
                      rotate_left
                      · simp only [Act.put, List.setIfInBounds_toArray, List.set_cons_zero, List.set_cons_succ, i64_w, i32_w]
                        rfl
                      refine take_ (i := 0) (N := some 45) (v := ?_) (a' := ?_) #[true, true, true, true, true, false, false, true, true, true, false, false, false, false, false] rfl rfl (take_ofW HT_.out HW_.out (by kernel_rfl)) (fun _ _ _ h => h) (Or.inl ⟨by rfl, ?_⟩) hHeld ?_ ?_
                      rotate_left
                      · rintro w' ⟨s0, s1, s2, s3, s4, s5, s6, s7, s8, s9, s10, s11⟩
                        go_simp
                        with_reducible rfl
                      rotate_left
                      · simp only [Act.put, List.setIfInBounds_toArray, List.set_cons_zero, List.set_cons_succ, i64_w, i32_w]
                        rfl
                      refine take_ (i := 5) (N := some 50) (v := ?_) (a' := ?_) #[true, true, true, true, true, true, false, true, true, true, false, false, false, false, false] rfl rfl (take_ofW HT_.out HW_.out (by kernel_rfl)) (fun _ _ _ h => h) (Or.inl ⟨by rfl, ?_⟩) hHeld ?_ ?_
                      rotate_left
                      · rintro w' ⟨s0, s1, s2, s3, s4, s5, s6, s7, s8, s9, s10, s11⟩
                        go_simp
                        with_reducible rfl
                      rotate_left
                      · simp only [Act.put, List.setIfInBounds_toArray, List.set_cons_zero, List.set_cons_succ, i64_w, i32_w]
                        rfl
                      refine pure_ (i := 6) (N := some 51) (v := ?_) (a' := ?_) #[true, true, true, true, true, true, true, true, true, true, false, false, false, false, false] rfl rfl (any_of HT_.out (by kernel_rfl)) (fun _ _ _ h => h) (Or.inl ⟨by rfl, ?_⟩) ?_ ?_
                      rotate_left
                      · intro w'
                        go_simp
                        with_reducible rfl
                      rotate_left
                      · simp only [Act.put, List.setIfInBounds_toArray, List.set_cons_zero, List.set_cons_succ, i64_w, i32_w]
                        rfl
                      refine take_ (i := 10) (N := some 55) (v := ?_) (a' := ?_) #[true, true, true, true, true, true, true, true, true, true, true, false, false, false, false] rfl rfl (take_ofW HT_.out HW_.out (by kernel_rfl)) (fun _ _ _ h => h) (Or.inl ⟨by rfl, ?_⟩) hHeld ?_ ?_
                      rotate_left
                      · rintro w' ⟨s0, s1, s2, s3, s4, s5, s6, s7, s8, s9, s10, s11⟩
                        go_simp
                        with_reducible rfl
                      rotate_left
                      · simp only [Act.put, List.setIfInBounds_toArray, List.set_cons_zero, List.set_cons_succ, i64_w, i32_w]
                        rfl
                      refine pure_ (i := 11) (N := some 56) (v := ?_) (a' := ?_) #[true, true, true, true, true, true, true, true, true, true, true, true, false, false, false] rfl rfl (any_of HT_.out (by kernel_rfl)) (fun _ _ _ h => h) (Or.inl ⟨by rfl, ?_⟩) ?_ ?_
                      rotate_left
                      · intro w'
                        go_simp
                        with_reducible rfl
                      rotate_left
                      · simp only [Act.put, List.setIfInBounds_toArray, List.set_cons_zero, List.set_cons_succ, i64_w, i32_w]
                        rfl
                      refine pure_ (i := 12) (N := some 57) (v := ?_) (a' := ?_) #[true, true, true, true, true, true, true, true, true, true, true, true, true, false, false] rfl rfl (any_of HT_.out (by kernel_rfl)) (fun _ _ _ h => h) (Or.inl ⟨by rfl, ?_⟩) ?_ ?_
                      rotate_left
                      · intro w'
                        go_simp
                        with_reducible rfl
                      rotate_left
                      · simp only [Act.put, List.setIfInBounds_toArray, List.set_cons_zero, List.set_cons_succ, i64_w, i32_w]
                        rfl
                      refine one_ (i := 13) (N := some 58) #[true, true, true, true, true, true, true, true, true, true, true, true, true, true, false] rfl rfl (one_of HT_.out (by kernel_rfl)) (by decide) (fun K hK => ?_)
                      refine goes_ Try.func11 (by kernel_rfl) rfl #[.agg #[.int .i64 x223000_1, .slice Ao24 x223001_1.length co24, .int .u64 x223002_1, .int .u64 x223003_1, .int .u64 x223004_1, .int .u64 x223005_1, .int .u64 x223006_1, .int .u64 x223007_1, .int .u64 x223008_1, .int .u64 x223009_1], .agg #[.int .u64 (IntKind.u64.wrap (x9_1 + (Int.tmod (IntKind.u64.wrap (rd l0 x12_1)) 100))), .int .u64 0, .int .u64 0, .int .u64 0, .int .u64 0, .int .u64 (IntKind.u64.wrap (rd l1 x12_1)), .int .u64 0, .int .u64 (IntKind.u64.wrap (rd l2 x12_1)), .bool false, .bool false]] (by rfl) rfl rfl (by (try simp only [List.map_toArray, List.map_cons, List.map_nil]); first | done | rfl | (simp only [List.length_drop, List.length_take]; rfl)) ?_
                      with_reducible refine (probe_Ack.calls k1 x223000_1 _ _ x223001_1 x223002_1 x223003_1 x223004_1 x223005_1 x223006_1 x223007_1 x223008_1 x223009_1 (IntKind.u64.wrap (x9_1 + (Int.tmod (IntKind.u64.wrap (rd l0 x12_1)) 100))) 0 0 0 0 (IntKind.u64.wrap (rd l1 x12_1)) 0 (IntKind.u64.wrap (rd l2 x12_1)) false false t226 t227 t230 t231 t232 t233 t234 t235 t236 t237 _ ?side1 ?side2 A16.out).mono ?_
                      (case side1 => repeat (first | exact (Kd.R_reads' HO_223001.out).2.2 | (with_reducible refine Kd.C_alloc ?_ _) | (with_reducible refine Kd.C_drewN ?_ _) | (with_reducible refine Kd.C_drew ?_)))
                      (case side2 => exact (Kd.R_reads' HO_223001.out).2.1)
                      rintro e w25 ⟨v228, rfl, ho0, hb⟩
                      refine ⟨_, rfl, ?_⟩
                      have n0_ := Aside0.mk (Kd.R_elder' (by (with_reducible repeat (first | apply Kd.R_alloc | apply Kd.R_drewN | apply Kd.R_drew)); exact HO_223001.out) (Kd.R_base ho0) hb)
                      have n1_ := Aside0.mk (Kd.R_lower (Kd.R_new' ho0 (Kd.R_lt (by (with_reducible repeat (first | apply Kd.R_alloc | apply Kd.R_drewN | apply Kd.R_drew)); exact HO_223001.out))) (below_size (by repeat (first | (with_reducible first | exact HB.out | apply below_alloc | apply pw_below_drewN | apply below_drew1 | refine below_set ?_ GE222.out) | exact HB.out))))
                      have n2_ := Aside0.mk (blk_below (g := gb222) (o := .cells #[.int .i64 x223000_1, .slice Ao24 x223001_1.length co24, .int .u64 x223002_1, .int .u64 x223003_1, .int .u64 x223004_1, .int .u64 x223005_1, .int .u64 x223006_1, .int .u64 x223007_1, .int .u64 x223008_1, .int .u64 x223009_1] 26 (0, 0)) (by (with_reducible repeat (first | refine blk_drewN ?_ _ | refine blk_drew ?_ | refine blk_alloc ?_ _)); exact BK222.out) hb)
                      have n3_ := Aside0.mk (below_step (by repeat (first | (with_reducible first | exact HB.out | apply below_alloc | apply pw_below_drewN | apply below_drew1 | refine below_set ?_ GE222.out) | exact HB.out)) hb)
                      clear HO_223001
                      clear BK222
                      clear HB
                      have HO_223001 := n0_
                      have HO229 := n1_
                      have BK222 := n2_
                      have HB := n3_
                      clear n0_ n1_ n2_ n3_
                      (try clear hb)
                      (try clear hb2)
                      (try clear hk)
                      (try clear hi)
                      (try clear ho0)
                      obtain ⟨Ao27, co27, eo27⟩ := Kd.R_slice HO229.out
                      (first | subst eo27 | (injection eo27 with f1_ f2_ f3_; have f4_ := f1_.symm; have f5_ := f3_.symm; clear f1_ f2_ f3_; subst f4_; subst f5_))
                      refine hK.out _ _ ⟨(blk_cell BK222.out 0).trans rfl, (blk_cell BK222.out 1).trans rfl, (blk_cell BK222.out 2).trans rfl, (blk_cell BK222.out 3).trans rfl, (blk_cell BK222.out 4).trans rfl, (blk_cell BK222.out 5).trans rfl, (blk_cell BK222.out 6).trans rfl, (blk_cell BK222.out 7).trans rfl, (blk_cell BK222.out 8).trans rfl, (blk_cell BK222.out 9).trans rfl, ((HB.out.cell (World.block_lt_of_cell? w _ hw224_0)).trans hw224_0), ((HB.out.cell (World.block_lt_of_cell? w _ hw225_0)).trans hw225_0)⟩ (fun hHeld => ?_)
                      clear hK K
                      refine norm_ (a' := ?_) ?_ ?_
                      rotate_left
                      · show Act.put _ (some 58) _ = _
                        simp only [Act.put, List.setIfInBounds_toArray, List.set_cons_zero, List.set_cons_succ, i64_w, i32_w]
                        rfl
                      refine last_ (i := 14) (N := none) #[true, true, true, true, true, true, true, true, true, true, true, true, true, true, true] rfl rfl (one_of HT_.out (by kernel_rfl)) (by decide) (fun K hK => ?_)
                      have hs26 : w25.cell? ⟨gb222, 0, none⟩ = some (.int .i64 x223000_1) := (blk_cell BK222.out 0).trans rfl
                      have hfs26 := blk_frozen BK222.out 0
                      have hs28 : w25.cell? ⟨gb222, 1, none⟩ = some (.slice Ao24 x223001_1.length co24) := (blk_cell BK222.out 1).trans rfl
                      have hfs28 := blk_frozen BK222.out 1
                      have hs29 : w25.cell? ⟨gb222, 2, none⟩ = some (.int .u64 x223002_1) := (blk_cell BK222.out 2).trans rfl
                      have hfs29 := blk_frozen BK222.out 2
                      have hs30 : w25.cell? ⟨gb222, 3, none⟩ = some (.int .u64 x223003_1) := (blk_cell BK222.out 3).trans rfl
                      have hfs30 := blk_frozen BK222.out 3
                      have hs31 : w25.cell? ⟨gb222, 4, none⟩ = some (.int .u64 x223004_1) := (blk_cell BK222.out 4).trans rfl
                      have hfs31 := blk_frozen BK222.out 4
                      have hs32 : w25.cell? ⟨gb222, 5, none⟩ = some (.int .u64 x223005_1) := (blk_cell BK222.out 5).trans rfl
                      have hfs32 := blk_frozen BK222.out 5
                      have hs33 : w25.cell? ⟨gb222, 6, none⟩ = some (.int .u64 x223006_1) := (blk_cell BK222.out 6).trans rfl
                      have hfs33 := blk_frozen BK222.out 6
                      have hs34 : w25.cell? ⟨gb222, 7, none⟩ = some (.int .u64 x223007_1) := (blk_cell BK222.out 7).trans rfl
                      have hfs34 := blk_frozen BK222.out 7
                      have hs35 : w25.cell? ⟨gb222, 8, none⟩ = some (.int .u64 x223008_1) := (blk_cell BK222.out 8).trans rfl
                      have hfs35 := blk_frozen BK222.out 8
                      have hs36 : w25.cell? ⟨gb222, 9, none⟩ = some (.int .u64 x223009_1) := (blk_cell BK222.out 9).trans rfl
                      have hfs36 := blk_frozen BK222.out 9
                      refine skip_ (w1 := ?_) (by rfl) rfl ?_ ?_
                      rotate_left
                      · go_simp
                        rfl
                      refine hK.out _ _ ?_
                      clear hK K
                      refine done_ (done_of HT_.out (by kernel_rfl)) ?_
                      have p238 : 0 ≤ (x12_1 : Int) := of_decide_eq_true (by first | (with_reducible assumption) | assumption)
                      have q238 : x12_1 < (l1.length : Int) := of_decide_eq_true (by first | (with_reducible assumption) | assumption)
                      obtain ⟨ad238, e238, hx238_0⟩ := Kd.at_int HR1.out x12_1 p238 q238
                      obtain rfl : ad224 = ad238 := (by injection e238)
                      have hn238_0 : ad224.block ≠ gb222 := Nat.ne_of_lt (Nat.lt_of_lt_of_le (by have := World.block_lt_of_cell? _ _ hx238_0; first | rwa [add_block] at this | exact this) GW222.out)
                      have hn238_1 : ad224.block ≠ gb222 := Nat.ne_of_lt (Nat.lt_of_lt_of_le (by have := World.block_lt_of_cell? _ _ hx238_0; first | rwa [add_block] at this | exact this) GW222.out)
                      have hn238_2 : ad224.block ≠ gb222 := Nat.ne_of_lt (Nat.lt_of_lt_of_le (by have := World.block_lt_of_cell? _ _ hx238_0; first | rwa [add_block] at this | exact this) GW222.out)
                      have hn238_3 : ad224.block ≠ gb222 := Nat.ne_of_lt (Nat.lt_of_lt_of_le (by have := World.block_lt_of_cell? _ _ hx238_0; first | rwa [add_block] at this | exact this) GW222.out)
                      have hn238_4 : ad224.block ≠ gb222 := Nat.ne_of_lt (Nat.lt_of_lt_of_le (by have := World.block_lt_of_cell? _ _ hx238_0; first | rwa [add_block] at this | exact this) GW222.out)
                      have hn238_5 : ad224.block ≠ gb222 := Nat.ne_of_lt (Nat.lt_of_lt_of_le (by have := World.block_lt_of_cell? _ _ hx238_0; first | rwa [add_block] at this | exact this) GW222.out)
                      have hn238_6 : ad224.block ≠ gb222 := Nat.ne_of_lt (Nat.lt_of_lt_of_le (by have := World.block_lt_of_cell? _ _ hx238_0; first | rwa [add_block] at this | exact this) GW222.out)
                      have hn238_7 : ad224.block ≠ gb222 := Nat.ne_of_lt (Nat.lt_of_lt_of_le (by have := World.block_lt_of_cell? _ _ hx238_0; first | rwa [add_block] at this | exact this) GW222.out)
                      have hn238_8 : ad224.block ≠ gb222 := Nat.ne_of_lt (Nat.lt_of_lt_of_le (by have := World.block_lt_of_cell? _ _ hx238_0; first | rwa [add_block] at this | exact this) GW222.out)
                      have hn238_9 : ad224.block ≠ gb222 := Nat.ne_of_lt (Nat.lt_of_lt_of_le (by have := World.block_lt_of_cell? _ _ hx238_0; first | rwa [add_block] at this | exact this) GW222.out)
                      replace hx238_0 := (HB.out.cell (World.block_lt_of_cell? w _ hx238_0)).trans hx238_0
                      replace hx238_0 := (cell_far (p := ⟨gb222, 0, none⟩) (by first | (rw [add_block]; exact hn238_0) | (show (Addr.add _ _).block ≠ _; rw [add_block]; exact hn238_0) | exact hn238_0) (.int .i64 t226)).trans hx238_0
                      replace hx238_0 := (cell_far (p := ⟨gb222, 1, none⟩) (by first | (rw [add_block]; exact hn238_1) | (show (Addr.add _ _).block ≠ _; rw [add_block]; exact hn238_1) | exact hn238_1) (.slice Ao27 t227.length co27)).trans hx238_0
                      replace hx238_0 := (cell_far (p := ⟨gb222, 2, none⟩) (by first | (rw [add_block]; exact hn238_2) | (show (Addr.add _ _).block ≠ _; rw [add_block]; exact hn238_2) | exact hn238_2) (.int .u64 t230)).trans hx238_0
                      replace hx238_0 := (cell_far (p := ⟨gb222, 3, none⟩) (by first | (rw [add_block]; exact hn238_3) | (show (Addr.add _ _).block ≠ _; rw [add_block]; exact hn238_3) | exact hn238_3) (.int .u64 t231)).trans hx238_0
                      replace hx238_0 := (cell_far (p := ⟨gb222, 4, none⟩) (by first | (rw [add_block]; exact hn238_4) | (show (Addr.add _ _).block ≠ _; rw [add_block]; exact hn238_4) | exact hn238_4) (.int .u64 t232)).trans hx238_0
                      replace hx238_0 := (cell_far (p := ⟨gb222, 5, none⟩) (by first | (rw [add_block]; exact hn238_5) | (show (Addr.add _ _).block ≠ _; rw [add_block]; exact hn238_5) | exact hn238_5) (.int .u64 t233)).trans hx238_0
                      replace hx238_0 := (cell_far (p := ⟨gb222, 6, none⟩) (by first | (rw [add_block]; exact hn238_6) | (show (Addr.add _ _).block ≠ _; rw [add_block]; exact hn238_6) | exact hn238_6) (.int .u64 t234)).trans hx238_0
                      replace hx238_0 := (cell_far (p := ⟨gb222, 7, none⟩) (by first | (rw [add_block]; exact hn238_7) | (show (Addr.add _ _).block ≠ _; rw [add_block]; exact hn238_7) | exact hn238_7) (.int .u64 t235)).trans hx238_0
                      replace hx238_0 := (cell_far (p := ⟨gb222, 8, none⟩) (by first | (rw [add_block]; exact hn238_8) | (show (Addr.add _ _).block ≠ _; rw [add_block]; exact hn238_8) | exact hn238_8) (.int .u64 t236)).trans hx238_0
                      replace hx238_0 := (cell_far (p := ⟨gb222, 9, none⟩) (by first | (rw [add_block]; exact hn238_9) | (show (Addr.add _ _).block ≠ _; rw [add_block]; exact hn238_9) | exact hn238_9) (.int .u64 t237)).trans hx238_0
                      clear hn238_0
                      clear hn238_1
                      clear hn238_2
                      clear hn238_3
                      clear hn238_4
                      clear hn238_5
                      clear hn238_6
                      clear hn238_7
                      clear hn238_8
                      clear hn238_9
                      replace p238 := eq_true p238
                      replace q238 := eq_true q238
                      have p239 : 0 ≤ (x12_1 : Int) := of_decide_eq_true (by first | (with_reducible assumption) | assumption)
                      have q239 : x12_1 < (l2.length : Int) := of_decide_eq_true (by first | (with_reducible assumption) | assumption)
                      obtain ⟨ad239, e239, hx239_0⟩ := Kd.at_int HR2.out x12_1 p239 q239
                      obtain rfl : ad225 = ad239 := (by injection e239)
                      have hn239_0 : ad225.block ≠ gb222 := Nat.ne_of_lt (Nat.lt_of_lt_of_le (by have := World.block_lt_of_cell? _ _ hx239_0; first | rwa [add_block] at this | exact this) GW222.out)
                      have hn239_1 : ad225.block ≠ gb222 := Nat.ne_of_lt (Nat.lt_of_lt_of_le (by have := World.block_lt_of_cell? _ _ hx239_0; first | rwa [add_block] at this | exact this) GW222.out)
                      have hn239_2 : ad225.block ≠ gb222 := Nat.ne_of_lt (Nat.lt_of_lt_of_le (by have := World.block_lt_of_cell? _ _ hx239_0; first | rwa [add_block] at this | exact this) GW222.out)
                      have hn239_3 : ad225.block ≠ gb222 := Nat.ne_of_lt (Nat.lt_of_lt_of_le (by have := World.block_lt_of_cell? _ _ hx239_0; first | rwa [add_block] at this | exact this) GW222.out)
                      have hn239_4 : ad225.block ≠ gb222 := Nat.ne_of_lt (Nat.lt_of_lt_of_le (by have := World.block_lt_of_cell? _ _ hx239_0; first | rwa [add_block] at this | exact this) GW222.out)
                      have hn239_5 : ad225.block ≠ gb222 := Nat.ne_of_lt (Nat.lt_of_lt_of_le (by have := World.block_lt_of_cell? _ _ hx239_0; first | rwa [add_block] at this | exact this) GW222.out)
                      have hn239_6 : ad225.block ≠ gb222 := Nat.ne_of_lt (Nat.lt_of_lt_of_le (by have := World.block_lt_of_cell? _ _ hx239_0; first | rwa [add_block] at this | exact this) GW222.out)
                      have hn239_7 : ad225.block ≠ gb222 := Nat.ne_of_lt (Nat.lt_of_lt_of_le (by have := World.block_lt_of_cell? _ _ hx239_0; first | rwa [add_block] at this | exact this) GW222.out)
                      have hn239_8 : ad225.block ≠ gb222 := Nat.ne_of_lt (Nat.lt_of_lt_of_le (by have := World.block_lt_of_cell? _ _ hx239_0; first | rwa [add_block] at this | exact this) GW222.out)
                      have hn239_9 : ad225.block ≠ gb222 := Nat.ne_of_lt (Nat.lt_of_lt_of_le (by have := World.block_lt_of_cell? _ _ hx239_0; first | rwa [add_block] at this | exact this) GW222.out)
                      replace hx239_0 := (HB.out.cell (World.block_lt_of_cell? w _ hx239_0)).trans hx239_0
                      replace hx239_0 := (cell_far (p := ⟨gb222, 0, none⟩) (by first | (rw [add_block]; exact hn239_0) | (show (Addr.add _ _).block ≠ _; rw [add_block]; exact hn239_0) | exact hn239_0) (.int .i64 t226)).trans hx239_0
                      replace hx239_0 := (cell_far (p := ⟨gb222, 1, none⟩) (by first | (rw [add_block]; exact hn239_1) | (show (Addr.add _ _).block ≠ _; rw [add_block]; exact hn239_1) | exact hn239_1) (.slice Ao27 t227.length co27)).trans hx239_0
                      replace hx239_0 := (cell_far (p := ⟨gb222, 2, none⟩) (by first | (rw [add_block]; exact hn239_2) | (show (Addr.add _ _).block ≠ _; rw [add_block]; exact hn239_2) | exact hn239_2) (.int .u64 t230)).trans hx239_0
                      replace hx239_0 := (cell_far (p := ⟨gb222, 3, none⟩) (by first | (rw [add_block]; exact hn239_3) | (show (Addr.add _ _).block ≠ _; rw [add_block]; exact hn239_3) | exact hn239_3) (.int .u64 t231)).trans hx239_0
                      replace hx239_0 := (cell_far (p := ⟨gb222, 4, none⟩) (by first | (rw [add_block]; exact hn239_4) | (show (Addr.add _ _).block ≠ _; rw [add_block]; exact hn239_4) | exact hn239_4) (.int .u64 t232)).trans hx239_0
                      replace hx239_0 := (cell_far (p := ⟨gb222, 5, none⟩) (by first | (rw [add_block]; exact hn239_5) | (show (Addr.add _ _).block ≠ _; rw [add_block]; exact hn239_5) | exact hn239_5) (.int .u64 t233)).trans hx239_0
                      replace hx239_0 := (cell_far (p := ⟨gb222, 6, none⟩) (by first | (rw [add_block]; exact hn239_6) | (show (Addr.add _ _).block ≠ _; rw [add_block]; exact hn239_6) | exact hn239_6) (.int .u64 t234)).trans hx239_0
                      replace hx239_0 := (cell_far (p := ⟨gb222, 7, none⟩) (by first | (rw [add_block]; exact hn239_7) | (show (Addr.add _ _).block ≠ _; rw [add_block]; exact hn239_7) | exact hn239_7) (.int .u64 t235)).trans hx239_0
                      replace hx239_0 := (cell_far (p := ⟨gb222, 8, none⟩) (by first | (rw [add_block]; exact hn239_8) | (show (Addr.add _ _).block ≠ _; rw [add_block]; exact hn239_8) | exact hn239_8) (.int .u64 t236)).trans hx239_0
                      replace hx239_0 := (cell_far (p := ⟨gb222, 9, none⟩) (by first | (rw [add_block]; exact hn239_9) | (show (Addr.add _ _).block ≠ _; rw [add_block]; exact hn239_9) | exact hn239_9) (.int .u64 t237)).trans hx239_0
                      clear hn239_0
                      clear hn239_1
                      clear hn239_2
                      clear hn239_3
                      clear hn239_4
                      clear hn239_5
                      clear hn239_6
                      clear hn239_7
                      clear hn239_8
                      clear hn239_9
                      replace p239 := eq_true p239
                      replace q239 := eq_true q239
                      have hcz37_0 : w25.cell? ⟨gb222, 0, none⟩ = some (.int .i64 x223000_1) := (blk_cell BK222.out 0).trans rfl
                      have hcz37_1 : w25.cell? ⟨gb222, 1, none⟩ = some (.slice Ao24 x223001_1.length co24) := (blk_cell BK222.out 1).trans rfl
                      have hcz37_2 : w25.cell? ⟨gb222, 2, none⟩ = some (.int .u64 x223002_1) := (blk_cell BK222.out 2).trans rfl
                      have hcz37_3 : w25.cell? ⟨gb222, 3, none⟩ = some (.int .u64 x223003_1) := (blk_cell BK222.out 3).trans rfl
                      have hcz37_4 : w25.cell? ⟨gb222, 4, none⟩ = some (.int .u64 x223004_1) := (blk_cell BK222.out 4).trans rfl
                      have hcz37_5 : w25.cell? ⟨gb222, 5, none⟩ = some (.int .u64 x223005_1) := (blk_cell BK222.out 5).trans rfl
                      have hcz37_6 : w25.cell? ⟨gb222, 6, none⟩ = some (.int .u64 x223006_1) := (blk_cell BK222.out 6).trans rfl
                      have hcz37_7 : w25.cell? ⟨gb222, 7, none⟩ = some (.int .u64 x223007_1) := (blk_cell BK222.out 7).trans rfl
                      have hcz37_8 : w25.cell? ⟨gb222, 8, none⟩ = some (.int .u64 x223008_1) := (blk_cell BK222.out 8).trans rfl
                      have hcz37_9 : w25.cell? ⟨gb222, 9, none⟩ = some (.int .u64 x223009_1) := (blk_cell BK222.out 9).trans rfl
                      have hfz37_0 := blk_frozen BK222.out 0
                      have hfz37_1 := blk_frozen BK222.out 1
                      have hfz37_2 := blk_frozen BK222.out 2
                      have hfz37_3 := blk_frozen BK222.out 3
                      have hfz37_4 := blk_frozen BK222.out 4
                      have hfz37_5 := blk_frozen BK222.out 5
                      have hfz37_6 := blk_frozen BK222.out 6
                      have hfz37_7 := blk_frozen BK222.out 7
                      have hfz37_8 := blk_frozen BK222.out 8
                      have hfz37_9 := blk_frozen BK222.out 9
                      try go_wp2_with (first | (go_at_call 23; (with_reducible refine (filt_Best.calls _ _ t227 t240 _ ?side1 ?side2 A20.out).mono ?_); (case side1 => refine (Kd.R_reads' (e := 52) (base := w.heap.size) (ok := fun k_ => (True ∧ some k_ ≠ (.slice Ao24 x223001_1.length co24 : Value).ownBlock)) (n := t227.length) (c := co27) ?_).2.2; exact (by (with_reducible repeat (first | apply Kd.R_alloc | apply Kd.R_drewN | apply Kd.R_drew)); exact (Kd.R_mono (Kd.R_far (p := ⟨gb222, 9, none⟩) (Kd.R_far (p := ⟨gb222, 8, none⟩) (Kd.R_far (p := ⟨gb222, 7, none⟩) (Kd.R_far (p := ⟨gb222, 6, none⟩) (Kd.R_far (p := ⟨gb222, 5, none⟩) (Kd.R_far (p := ⟨gb222, 4, none⟩) (Kd.R_far (p := ⟨gb222, 3, none⟩) (Kd.R_far (p := ⟨gb222, 2, none⟩) (Kd.R_far (p := ⟨gb222, 1, none⟩) (Kd.R_far (p := ⟨gb222, 0, none⟩) (Kd.R_types HO229.out BK222.out (by decide)) (fun _ hk => hk.2) (.int .i64 t226)) (fun _ hk => hk.2) (.slice Ao27 t227.length co27)) (fun _ hk => hk.2) (.int .u64 t230)) (fun _ hk => hk.2) (.int .u64 t231)) (fun _ hk => hk.2) (.int .u64 t232)) (fun _ hk => hk.2) (.int .u64 t233)) (fun _ hk => hk.2) (.int .u64 t234)) (fun _ hk => hk.2) (.int .u64 t235)) (fun _ hk => hk.2) (.int .u64 t236)) (fun _ hk => hk.2) (.int .u64 t237)) (fun _ h_ => h_.1)))); (case side2 => exact (Kd.R_reads' HO229.out).2.1); rintro e w' ⟨rfl, ⟨nd, rfl⟩⟩))
                      go_roundg k1
                      case measure => have := HK1.out; omega
                      case rel => exact ⟨(IntKind.u64.wrap (x9_1 + (Int.tmod (IntKind.u64.wrap (rd l0 x12_1)) 100))), (ji17), (ji18), (wrap64 (x12_1 + 1)), (t226), (t227), (t230), (t231), (t232), (t233), (t234), (t235), (t236), (t237), (.slice Ao27 t227.length co27), (by first | rfl | (simp; done) | (simp [*]; done)), (by first | rfl | (simp; done) | (simp only [← hji17] <;> (first | rfl | simp)) | (simp [*]; done)), (by first | rfl | (simp; done) | (simp only [← hji18] <;> (first | rfl | simp)) | (simp [*]; done)), (by first | rfl | (simp; done) | (simp [*]; done)), H', ⟨by have := HK1.out; omega⟩, ⟨by (with_reducible repeat (first | apply Kd.R_alloc | apply Kd.R_drewN | apply Kd.R_drew)); exact Kd.R_mono (Kd.R_far (p := ⟨gb222, 9, none⟩) (Kd.R_far (p := ⟨gb222, 8, none⟩) (Kd.R_far (p := ⟨gb222, 7, none⟩) (Kd.R_far (p := ⟨gb222, 6, none⟩) (Kd.R_far (p := ⟨gb222, 5, none⟩) (Kd.R_far (p := ⟨gb222, 4, none⟩) (Kd.R_far (p := ⟨gb222, 3, none⟩) (Kd.R_far (p := ⟨gb222, 2, none⟩) (Kd.R_far (p := ⟨gb222, 1, none⟩) (Kd.R_far (p := ⟨gb222, 0, none⟩) (Kd.R_types HO229.out BK222.out (by decide)) (fun _ hk => hk.2) (.int .i64 t226)) (fun _ hk => hk.2) (.slice Ao27 t227.length co27)) (fun _ hk => hk.2) (.int .u64 t230)) (fun _ hk => hk.2) (.int .u64 t231)) (fun _ hk => hk.2) (.int .u64 t232)) (fun _ hk => hk.2) (.int .u64 t233)) (fun _ hk => hk.2) (.int .u64 t234)) (fun _ hk => hk.2) (.int .u64 t235)) (fun _ hk => hk.2) (.int .u64 t236)) (fun _ hk => hk.2) (.int .u64 t237)) (fun _ hk => trivial)⟩, ⟨by (with_reducible repeat (first | refine blk_drewN ?_ _ | refine blk_drew ?_ | refine blk_alloc ?_ _)); refine blk_put (cs := #[.int .i64 t226, .slice Ao27 t227.length co27, .int .u64 t230, .int .u64 t231, .int .u64 t232, .int .u64 t233, .int .u64 t234, .int .u64 t235, .int .u64 t236, .int .u64 x223009_1]) ?_ 9 _ rfl; (with_reducible repeat (first | refine blk_drewN ?_ _ | refine blk_drew ?_ | refine blk_alloc ?_ _)); refine blk_put (cs := #[.int .i64 t226, .slice Ao27 t227.length co27, .int .u64 t230, .int .u64 t231, .int .u64 t232, .int .u64 t233, .int .u64 t234, .int .u64 t235, .int .u64 x223008_1, .int .u64 x223009_1]) ?_ 8 _ rfl; (with_reducible repeat (first | refine blk_drewN ?_ _ | refine blk_drew ?_ | refine blk_alloc ?_ _)); refine blk_put (cs := #[.int .i64 t226, .slice Ao27 t227.length co27, .int .u64 t230, .int .u64 t231, .int .u64 t232, .int .u64 t233, .int .u64 t234, .int .u64 x223007_1, .int .u64 x223008_1, .int .u64 x223009_1]) ?_ 7 _ rfl; (with_reducible repeat (first | refine blk_drewN ?_ _ | refine blk_drew ?_ | refine blk_alloc ?_ _)); refine blk_put (cs := #[.int .i64 t226, .slice Ao27 t227.length co27, .int .u64 t230, .int .u64 t231, .int .u64 t232, .int .u64 t233, .int .u64 x223006_1, .int .u64 x223007_1, .int .u64 x223008_1, .int .u64 x223009_1]) ?_ 6 _ rfl; (with_reducible repeat (first | refine blk_drewN ?_ _ | refine blk_drew ?_ | refine blk_alloc ?_ _)); refine blk_put (cs := #[.int .i64 t226, .slice Ao27 t227.length co27, .int .u64 t230, .int .u64 t231, .int .u64 t232, .int .u64 x223005_1, .int .u64 x223006_1, .int .u64 x223007_1, .int .u64 x223008_1, .int .u64 x223009_1]) ?_ 5 _ rfl; (with_reducible repeat (first | refine blk_drewN ?_ _ | refine blk_drew ?_ | refine blk_alloc ?_ _)); refine blk_put (cs := #[.int .i64 t226, .slice Ao27 t227.length co27, .int .u64 t230, .int .u64 t231, .int .u64 x223004_1, .int .u64 x223005_1, .int .u64 x223006_1, .int .u64 x223007_1, .int .u64 x223008_1, .int .u64 x223009_1]) ?_ 4 _ rfl; (with_reducible repeat (first | refine blk_drewN ?_ _ | refine blk_drew ?_ | refine blk_alloc ?_ _)); refine blk_put (cs := #[.int .i64 t226, .slice Ao27 t227.length co27, .int .u64 t230, .int .u64 x223003_1, .int .u64 x223004_1, .int .u64 x223005_1, .int .u64 x223006_1, .int .u64 x223007_1, .int .u64 x223008_1, .int .u64 x223009_1]) ?_ 3 _ rfl; (with_reducible repeat (first | refine blk_drewN ?_ _ | refine blk_drew ?_ | refine blk_alloc ?_ _)); refine blk_put (cs := #[.int .i64 t226, .slice Ao27 t227.length co27, .int .u64 x223002_1, .int .u64 x223003_1, .int .u64 x223004_1, .int .u64 x223005_1, .int .u64 x223006_1, .int .u64 x223007_1, .int .u64 x223008_1, .int .u64 x223009_1]) ?_ 2 _ rfl; (with_reducible repeat (first | refine blk_drewN ?_ _ | refine blk_drew ?_ | refine blk_alloc ?_ _)); refine blk_put (cs := #[.int .i64 t226, .slice Ao24 x223001_1.length co24, .int .u64 x223002_1, .int .u64 x223003_1, .int .u64 x223004_1, .int .u64 x223005_1, .int .u64 x223006_1, .int .u64 x223007_1, .int .u64 x223008_1, .int .u64 x223009_1]) ?_ 1 _ rfl; (with_reducible repeat (first | refine blk_drewN ?_ _ | refine blk_drew ?_ | refine blk_alloc ?_ _)); refine blk_put (cs := #[.int .i64 x223000_1, .slice Ao24 x223001_1.length co24, .int .u64 x223002_1, .int .u64 x223003_1, .int .u64 x223004_1, .int .u64 x223005_1, .int .u64 x223006_1, .int .u64 x223007_1, .int .u64 x223008_1, .int .u64 x223009_1]) ?_ 0 _ rfl; (with_reducible repeat (first | refine blk_drewN ?_ _ | refine blk_drew ?_ | refine blk_alloc ?_ _)); exact BK222.out⟩, ⟨by repeat (first | (with_reducible first | exact HB.out | apply below_alloc | apply pw_below_drewN | apply below_drew1 | refine below_set ?_ GE222.out) | exact HB.out)⟩⟩
                    · rw [if_neg c22] at H
                      exact absurd H (by simp)
                  · rw [if_neg c21] at H
                    exact absurd H (by simp)
                · rw [if_neg c19] at H
                  exact absurd H (by simp)
              · rw [if_neg c15] at H
                exact absurd H (by simp)
            · rw [if_neg c14] at H
              have c14b0 : decide (x12_1 < 60) = false := decide_eq_false c14
              clear c14
              obtain rfl := Option.some.inj H
              go_wp2
              go_ret
              exact ⟨by first | rfl | (simp [errW_none, errW_some] <;> rfl) | (simp [*, errW_none, errW_some] <;> rfl), by repeat (first | (with_reducible first | exact HB.out | apply below_alloc | apply pw_below_drewN | apply below_drew1 | refine below_set ?_ GE222.out) | exact HB.out)⟩
          · rw [if_neg c13] at H
            have c13b0 : decide (x12_1 < (l2.length : Int)) = false := decide_eq_false c13
            clear c13
            obtain rfl := Option.some.inj H
            go_wp2
            go_ret
            exact ⟨by first | rfl | (simp [errW_none, errW_some] <;> rfl) | (simp [*, errW_none, errW_some] <;> rfl), by repeat (first | (with_reducible first | exact HB.out | apply below_alloc | apply pw_below_drewN | apply below_drew1 | refine below_set ?_ GE222.out) | exact HB.out)⟩
        · rw [if_neg c12] at H
          have c12b0 : decide (x12_1 < (l1.length : Int)) = false := decide_eq_false c12
          clear c12
          obtain rfl := Option.some.inj H
          go_wp2
          go_ret
          exact ⟨by first | rfl | (simp [errW_none, errW_some] <;> rfl) | (simp [*, errW_none, errW_some] <;> rfl), by repeat (first | (with_reducible first | exact HB.out | apply below_alloc | apply pw_below_drewN | apply below_drew1 | refine below_set ?_ GE222.out) | exact HB.out)⟩
      · rw [if_neg c11] at H
        have c11b0 : decide (x12_1 < (l0.length : Int)) = false := decide_eq_false c11
        clear c11
        obtain rfl := Option.some.inj H
        go_wp2
        go_ret
        exact ⟨by first | rfl | (simp [errW_none, errW_some] <;> rfl) | (simp [*, errW_none, errW_some] <;> rfl), by repeat (first | (with_reducible first | exact HB.out | apply below_alloc | apply pw_below_drewN | apply below_drew1 | refine below_set ?_ GE222.out) | exact HB.out)⟩

/-- THE ONE PURE STATEMENT of wigwaglaw13_ProbeLows: yours. -/
def wigwaglaw13_ProbeLows.Pure : Prop := ∀ (l0 : List Int) (l1 : List Int) (l2 : List Int), l0.length ≤ maxLen → l0.length * 1 ≤ 140737488351232 → (∀ x ∈ l0, (Lit.int .u8 x).wf = true) → l1.length ≤ maxLen → l1.length * 2 ≤ 140737488351232 → (∀ x ∈ l1, (Lit.int .u16 x).wf = true) → l2.length ≤ maxLen → l2.length * 4 ≤ 140737488351232 → (∀ x ∈ l2, (Lit.int .u32 x).wf = true) → ∃ k, wigwaglaw13_ProbeLows.f k l0 l1 l2 = some true
theorem wigwaglaw13_ProbeLows.walk (P : wigwaglaw13_ProbeLows.Pure) (a0 : Option Addr) (len0 cap0 : Nat) (z0 : List Int) (a1 : Option Addr) (len1 cap1 : Nat) (z1 : List Int) (a2 : Option Addr) (len2 cap2 : Nat) (z2 : List Int) (w : World) (w0 : (a0 = none ∧ len0 = 0 ∧ cap0 = 0 ∧ z0 = []) ∨ ∃ x, a0 = some x ∧ len0 ≤ cap0 ∧ cap0 ≤ maxLen ∧ z0.length = cap0 ∧ (∀ i, i < z0.length → w.cell? (x.add i) = some (.int .u8 (z0.getD i 0))) ∧ ∀ n ∈ z0, (Lit.int .u8 n).wf = true) (y0 : len0 * 1 ≤ 140737488351232) (w1 : (a1 = none ∧ len1 = 0 ∧ cap1 = 0 ∧ z1 = []) ∨ ∃ x, a1 = some x ∧ len1 ≤ cap1 ∧ cap1 ≤ maxLen ∧ z1.length = cap1 ∧ (∀ i, i < z1.length → w.cell? (x.add i) = some (.int .u16 (z1.getD i 0))) ∧ ∀ n ∈ z1, (Lit.int .u16 n).wf = true) (y1 : len1 * 2 ≤ 140737488351232) (w2 : (a2 = none ∧ len2 = 0 ∧ cap2 = 0 ∧ z2 = []) ∨ ∃ x, a2 = some x ∧ len2 ≤ cap2 ∧ cap2 ≤ maxLen ∧ z2.length = cap2 ∧ (∀ i, i < z2.length → w.cell? (x.add i) = some (.int .u32 (z2.getD i 0))) ∧ ∀ n ∈ z2, (Lit.int .u32 n).wf = true) (y2 : len2 * 4 ≤ 140737488351232) :
    Calls Try.prog 6 #[.slice a0 len0 cap0, .slice a1 len1 cap1, .slice a2 len2 cap2] w fun e w' => e = .returned (.bool true) ∧ Below w.heap.size w w' := by
  obtain ⟨l0, rfl, hr0, hm0, hw0, hc0⟩ := ReadsInt.ofRowC w0
  obtain ⟨l1, rfl, hr1, hm1, hw1, hc1⟩ := ReadsInt.ofRowC w1
  obtain ⟨l2, rfl, hr2, hm2, hw2, hc2⟩ := ReadsInt.ofRowC w2
  obtain ⟨k, h⟩ := P l0 l1 l2 hm0 y0 hw0 hm1 y1 hw1 hm2 y2 hw2
  refine (wigwaglaw13_ProbeLows.calls k _ _ l0 _ _ l1 _ _ l2 true w (Kd.C_of_reads (d := (0 : Int)) (h1 := fun _ => rfl) hr0) hc0 (Kd.C_of_reads (d := (0 : Int)) (h1 := fun _ => rfl) hr1) hc1 (Kd.C_of_reads (d := (0 : Int)) (h1 := fun _ => rfl) hr2) hc2 h).mono ?_
  rintro e w' ⟨rfl, hd⟩
  exact ⟨rfl, hd⟩

end Go.Proofs.Ytoanhimhomgjmaa.PPrD
