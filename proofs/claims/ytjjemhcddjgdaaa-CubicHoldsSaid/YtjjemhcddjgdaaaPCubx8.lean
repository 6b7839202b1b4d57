-- Written by a program of this session (wip/tools/xprint.py) for this claim.
import Derived.Test.YtjjemhcddjgdaaaPCubx0
import Derived.Test.YtjjemhcddjgdaaaPCubx3
import Derived.Test.YtjjemhcddjgdaaaPCubx5
import Derived.Test.YtjjemhcddjgdaaaPCubx6
namespace Go.Proofs.Ytjjemhcddjgdaaa.PCub
open Go.RowKit Go.Proofs.YtjjemhcddjgdaaaW.PrintWords Go.Proofs.YtjjemhcddjgdaaaW.PrintLast Go.Proofs.YtjjemhcddjgdaaaW.PrintMore
attribute [local go_sem] max2_int min2_int max_two min_two max_three min_three max_four min_four   -- for this text's walks alone
set_option linter.unusedVariables false
set_option linter.unusedSimpArgs false

/-! ### wigwaglaw12_CubicHolds: function 3 -/
def wigwaglaw12_CubicHolds.l0 : Nat → List (S29) → Bool → Int → Int → Int → Int → Bool → Int → Int → Int → Int → Option (Bool)
  | 0, _, _, _, _, _, _, _, _, _, _, _ => none
  | k + 1, x0, x3, x5, x252000, x252001, x252002, x252003, x252004, x252005, x252006, x252007 => if x5 < (x0.length : Int) then (if x5 < 200 then (if 0 ≤ x5 then (if ((rd_T29 x0 x5).f0) = 1 then ((cubic_Ack.f x252000 x252001 x252002 x252003 x252004 x252005 x252006 x252007 ((rd_T29 x0 x5).f1) ((rd_T29 x0 x5).f2) ((rd_T29 x0 x5).f3) ((rd_T29 x0 x5).f4) ((rd_T29 x0 x5).f5)).bind fun bt259 => (if bt259.1 < x252000 then (none) else (if bt259.2.1 = x252001 then (if bt259.2.2.1 = x252002 then (if bt259.1 < 2400 then (none) else (if bt259.1 > 16777216 then (none) else (if bt259.2.1 < 2400 then (none) else (if bt259.2.1 > 16777216 then (none) else (wigwaglaw12_CubicHolds.l0 k x0 x3 (wrap64 (x5 + 1)) bt259.1 bt259.2.1 bt259.2.2.1 bt259.2.2.2.1 bt259.2.2.2.2.1 bt259.2.2.2.2.2.1 bt259.2.2.2.2.2.2.1 bt259.2.2.2.2.2.2.2))))) else (none)) else (none)))) else (if ((rd_T29 x0 x5).f0) = 2 then ((cubic_Loss.f x252000 x252001 x252002 x252003 x252004 x252005 x252006 x252007 ((rd_T29 x0 x5).f2) ((rd_T29 x0 x5).f3)).bind fun bt269 => (if bt269.1 > x252000 then (none) else (if bt269.1 < 2400 then (none) else (if bt269.1 > 16777216 then (none) else (if bt269.2.1 < 2400 then (none) else (if bt269.2.1 > 16777216 then (none) else (wigwaglaw12_CubicHolds.l0 k x0 x3 (wrap64 (x5 + 1)) bt269.1 bt269.2.1 bt269.2.2.1 bt269.2.2.2.1 bt269.2.2.2.2.1 bt269.2.2.2.2.2.1 bt269.2.2.2.2.2.2.1 bt269.2.2.2.2.2.2.2))))))) else (if ((rd_T29 x0 x5).f0) = 3 then ((cubic_Collapse.f x252000 x252001 x252002 x252003 x252004 x252005 x252006 x252007).bind fun bt277 => (if bt277.1 < 2400 then (none) else (if bt277.1 > 16777216 then (none) else (if bt277.2.1 < 2400 then (none) else (if bt277.2.1 > 16777216 then (none) else (wigwaglaw12_CubicHolds.l0 k x0 x3 (wrap64 (x5 + 1)) bt277.1 bt277.2.1 bt277.2.2.1 bt277.2.2.2.1 bt277.2.2.2.2.1 bt277.2.2.2.2.2.1 bt277.2.2.2.2.2.2.1 bt277.2.2.2.2.2.2.2)))))) else (if x252000 < 2400 then (none) else (if x252000 > 16777216 then (none) else (if x252001 < 2400 then (none) else (if x252001 > 16777216 then (none) else (wigwaglaw12_CubicHolds.l0 k x0 x3 (wrap64 (x5 + 1)) x252000 x252001 x252002 x252003 x252004 x252005 x252006 x252007)))))))) else (none)) else (some x3)) else (some x3)
def wigwaglaw12_CubicHolds.f (k : Nat) (l0 : List (S29)) : Option (Bool) := (wigwaglaw12_awake.f).bind fun t242 => ((cubic_New.f).bind fun bt243 => (wigwaglaw12_CubicHolds.l0 k l0 t242 0 bt243.1 bt243.2.1 bt243.2.2.1 bt243.2.2.2.1 bt243.2.2.2.2.1 bt243.2.2.2.2.2.1 bt243.2.2.2.2.2.2.1 bt243.2.2.2.2.2.2.2))
theorem wigwaglaw12_CubicHolds.mono_l : ∀ k, (∀ y0 y1 y2 y3 y4 y5 y6 y7 y8 y9 y10, LeO (wigwaglaw12_CubicHolds.l0 k y0 y1 y2 y3 y4 y5 y6 y7 y8 y9 y10) (wigwaglaw12_CubicHolds.l0 (k + 1) y0 y1 y2 y3 y4 y5 y6 y7 y8 y9 y10))
  | 0 => fun _ _ _ _ _ _ _ _ _ _ _ r h => by simp [wigwaglaw12_CubicHolds.l0] at h
  | k + 1 => by
    have ih0 := wigwaglaw12_CubicHolds.mono_l k
    · intro y0 y1 y2 y3 y4 y5 y6 y7 y8 y9 y10
      unfold wigwaglaw12_CubicHolds.l0
      repeat' first
      | (with_reducible exact ih0 _ _ _ _ _ _ _ _ _ _ _)
      | (with_reducible exact LeO.refl _)
      | (with_reducible exact LeO.none _)
      | (with_reducible refine LeO.ite ?_ ?_)
      | (with_reducible refine LeO.bind ?_ (fun _ => ?_))
      | exact ih0 _ _ _ _ _ _ _ _ _ _ _
      | exact LeO.none _
      | refine LeO.ite ?_ ?_
      | refine LeO.bind ?_ (fun _ => ?_)
theorem wigwaglaw12_CubicHolds.mono : ∀ a0 k, LeO (wigwaglaw12_CubicHolds.f k a0) (wigwaglaw12_CubicHolds.f (k + 1) a0) := by
  intro a0 k
  have ih0 := wigwaglaw12_CubicHolds.mono_l k
  unfold wigwaglaw12_CubicHolds.f
  repeat' first
      | (with_reducible exact ih0 _ _ _ _ _ _ _ _ _ _ _)
      | (with_reducible exact LeO.refl _)
      | (with_reducible exact LeO.none _)
      | (with_reducible refine LeO.ite ?_ ?_)
      | (with_reducible refine LeO.bind ?_ (fun _ => ?_))
      | exact ih0 _ _ _ _ _ _ _ _ _ _ _
      | exact LeO.none _
      | refine LeO.ite ?_ ?_
      | refine LeO.bind ?_ (fun _ => ?_)
def wigwaglaw12_CubicHolds.T9 : Bool × List (List Nat × List Nat) := (true, [([], []), ([], []), ([], []), ([1, 2], [1, 2]), ([3], [3]), ([4], [4]), ([], []), ([], []), ([6, 7], [6, 7]), ([8], [8]), ([9], [9]), ([], []), ([], []), ([11, 12], [11, 12]), ([13], [13]), ([14], [14]), ([], []), ([], []), ([16, 17], [16, 17]), ([18], [18]), ([19], [19]), ([], []), ([], []), ([21, 22], [21, 22]), ([23], [23]), ([24], [24]), ([0, 5, 10, 15, 20, 25], [0, 5, 10, 15, 20, 25]), ([26, 26, 0, 1, 2, 3, 4, 5, 6, 7, 8, 9, 10, 11, 12, 13, 14, 15, 16, 17, 18, 19, 20, 21, 22, 23, 24, 25, 26], [26])])
def wigwaglaw12_CubicHolds.B9 : List Nat := [0, 0, 0, 6, 14, 30, 0, 0, 192, 448, 960, 0, 0, 6144, 14336, 30720, 0, 0, 196608, 458752, 983040, 0, 0, 6291456, 14680064, 31457280, 67108863, 134217727]
theorem wigwaglaw12_CubicHolds.tab9 : rtab .any (opsOf Try.f3 9) = wigwaglaw12_CubicHolds.T9 := by kernel_rfl
theorem wigwaglaw12_CubicHolds.bits9 : waitsOk wigwaglaw12_CubicHolds.T9.2 wigwaglaw12_CubicHolds.B9 = true := by kernel_rfl
def wigwaglaw12_CubicHolds.T13 : Bool × List (List Nat × List Nat) := (true, [([], []), ([], []), ([], []), ([1, 2], [1, 2]), ([3], [3]), ([4], [4]), ([], []), ([], []), ([6, 7], [6, 7]), ([8], [8]), ([9], [9]), ([0, 5, 10], [0, 5, 10]), ([11, 11, 0, 1, 2, 3, 4, 5, 6, 7, 8, 9, 10, 11], [11])])
def wigwaglaw12_CubicHolds.B13 : List Nat := [0, 0, 0, 6, 14, 30, 0, 0, 192, 448, 960, 2047, 4095]
theorem wigwaglaw12_CubicHolds.tab13 : rtab .any (opsOf Try.f3 13) = wigwaglaw12_CubicHolds.T13 := by kernel_rfl
theorem wigwaglaw12_CubicHolds.bits13 : waitsOk wigwaglaw12_CubicHolds.T13.2 wigwaglaw12_CubicHolds.B13 = true := by kernel_rfl
set_option maxHeartbeats 8000000 in
set_option maxRecDepth 100000 in
theorem wigwaglaw12_CubicHolds.calls (k : Nat) (A0 : Option Addr) (c0 : Nat) (l0 : List (S29)) (r : Bool) (w : World) (hr0 : Kd.C k29 w A0 l0.length l0) (hc0 : l0.length ≤ c0) (h : wigwaglaw12_CubicHolds.f k l0 = some r) :
    Calls Try.prog 3 #[.slice A0 l0.length c0] w fun e w' => e = .returned (.bool r) ∧ Below w.heap.size w w' := by
  have hu26 := Try.underlying26
  have HR0 := Aside0.mk hr0
  have HC0 := Aside0.mk hc0
  clear hr0 hc0
  have HB := Aside0.mk (Below.refl w.heap.size w)
  have H : ((wigwaglaw12_awake.f).bind fun t242 => ((cubic_New.f).bind fun bt243 => (wigwaglaw12_CubicHolds.l0 k l0 t242 0 bt243.1 bt243.2.1 bt243.2.2.1 bt243.2.2.2.1 bt243.2.2.2.2.1 bt243.2.2.2.2.2.1 bt243.2.2.2.2.2.2.1 bt243.2.2.2.2.2.2.2))) = some r := h
  clear h
  replace H := Option.bind_eq_some_iff.mp H
  obtain ⟨t242, A20, H⟩ := H
  replace H : ((cubic_New.f).bind fun bt243 => (wigwaglaw12_CubicHolds.l0 k l0 t242 0 bt243.1 bt243.2.1 bt243.2.2.1 bt243.2.2.2.1 bt243.2.2.2.2.1 bt243.2.2.2.2.2.1 bt243.2.2.2.2.2.2.1 bt243.2.2.2.2.2.2.2)) = some r := H
  have A2 := Aside0.mk A20
  clear A20
  replace H := Option.bind_eq_some_iff.mp H
  obtain ⟨⟨t243, t244, t245, t246, t247, t248, t249, t250⟩, A30, H⟩ := H
  replace H : (wigwaglaw12_CubicHolds.l0 k l0 t242 0 t243 t244 t245 t246 t247 t248 t249 t250) = some r := H
  have A3 := Aside0.mk A30
  clear A30
  have H' := Aside0.mk H
  clear H
  go_enter Try.func3, Try.ntmps3
  go_wp2_with (first | ((with_reducible refine gate_callee (f := 7) rfl ?_); refine goesL_ (some 7) rfl rfl Try.func7 (by kernel_rfl) rfl #[] rfl (by (try simp only [List.map_toArray, List.map_cons, List.map_nil]); first | done | rfl | (simp only [List.length_drop, List.length_take]; rfl)) ?_; (with_reducible refine (wigwaglaw12_awake.calls  t242 _ A2.out).mono ?_); rintro e w4 ⟨rfl, hb⟩; refine ⟨_, rfl, ?_⟩; have n0_ := Aside0.mk (below_step (by repeat (first | (with_reducible first | exact HB.out | apply below_alloc | apply pw_below_drewN | apply below_drew1) | exact HB.out)) hb); clear HB; have HB := n0_; clear n0_; (try clear hb); (try clear hb2); (try clear hk); (try clear hi)) | ((with_reducible refine gate_callee (f := 8) rfl ?_); refine goesL_ (some 8) rfl rfl Try.func8 (by kernel_rfl) rfl #[] rfl (by (try simp only [List.map_toArray, List.map_cons, List.map_nil]); first | done | rfl | (simp only [List.length_drop, List.length_take]; rfl)) ?_; (with_reducible refine (cubic_New.calls  t243 t244 t245 t246 t247 t248 t249 t250 _ A3.out).mono ?_); rintro e w5 ⟨rfl, hb⟩; refine ⟨_, rfl, ?_⟩; have n0_ := Aside0.mk (below_step (by repeat (first | (with_reducible first | exact HB.out | apply below_alloc | apply pw_below_drewN | apply below_drew1) | exact HB.out)) hb); clear HB; have HB := n0_; clear n0_; (try clear hb); (try clear hb2); (try clear hk); (try clear hi)) | ((with_reducible refine gate_dst (N := 4) rfl ?_); refine box_event ?hg (N := 4) ?hd (cs := #[.int .u64 0, .int .u64 0, .int .u64 0, .bool false, .int .u64 0, .int .u64 0, .int .u64 0, .int .u64 0]) (t := 26) ?hr ?_; (case hd => rfl); (case hg => rfl); (case hr => first | (go_simp; done) | (go_simp; rfl)); intro gb251 hg w6 hbox hb; have n0_ := Aside0.mk (below_step (by repeat (first | (with_reducible first | exact HB.out | apply below_alloc | apply pw_below_drewN | apply below_drew1) | exact HB.out)) hb); have n1_ := Aside0.mk (hbox); have n2_ := Aside0.mk ((by rw [hg]; exact (below_size (by repeat (first | (with_reducible first | exact HB.out | apply below_alloc | apply pw_below_drewN | apply below_drew1) | exact HB.out))) : w.heap.size ≤ gb251)); have n3_ := Aside0.mk ((by rw [hg]; exact (below_size (by repeat (first | (with_reducible first | exact HB.out | apply below_alloc | apply pw_below_drewN | apply below_drew1) | exact HB.out))) : w.heap.size ≤ gb251)); clear HB; have HB := n0_; have BK251 := n1_; have GW251 := n2_; have GE251 := n3_; clear n0_ n1_ n2_ n3_; clear hb hbox hg; have hcz7_0 : w6.cell? ⟨gb251, 0, none⟩ = some (.int .u64 0) := (blk_cell BK251.out 0).trans rfl; have hcz7_1 : w6.cell? ⟨gb251, 1, none⟩ = some (.int .u64 0) := (blk_cell BK251.out 1).trans rfl; have hcz7_2 : w6.cell? ⟨gb251, 2, none⟩ = some (.int .u64 0) := (blk_cell BK251.out 2).trans rfl; have hcz7_3 : w6.cell? ⟨gb251, 3, none⟩ = some (.bool false) := (blk_cell BK251.out 3).trans rfl; have hcz7_4 : w6.cell? ⟨gb251, 4, none⟩ = some (.int .u64 0) := (blk_cell BK251.out 4).trans rfl; have hcz7_5 : w6.cell? ⟨gb251, 5, none⟩ = some (.int .u64 0) := (blk_cell BK251.out 5).trans rfl; have hcz7_6 : w6.cell? ⟨gb251, 6, none⟩ = some (.int .u64 0) := (blk_cell BK251.out 6).trans rfl; have hcz7_7 : w6.cell? ⟨gb251, 7, none⟩ = some (.int .u64 0) := (blk_cell BK251.out 7).trans rfl; have hfz7_0 := blk_frozen BK251.out 0; have hfz7_1 := blk_frozen BK251.out 1; have hfz7_2 := blk_frozen BK251.out 2; have hfz7_3 := blk_frozen BK251.out 3; have hfz7_4 := blk_frozen BK251.out 4; have hfz7_5 := blk_frozen BK251.out 5; have hfz7_6 := blk_frozen BK251.out 6; have hfz7_7 := blk_frozen BK251.out 7))
  go_loopg [5] k (fun kq v5 w' => ∃ (x5_1 : Int) (x252000_1 : Int) (x252001_1 : Int) (x252002_1 : Int) (x252003_1 : Bool) (x252004_1 : Int) (x252005_1 : Int) (x252006_1 : Int) (x252007_1 : Int), v5 = .int .i64 x5_1 ∧ Aside0 (wigwaglaw12_CubicHolds.l0 kq l0 t242 x5_1 x252000_1 x252001_1 x252002_1 x252003_1 x252004_1 x252005_1 x252006_1 x252007_1 = some r) ∧ Aside0 (kq ≤ k) ∧ Aside0 (w'.heap[gb251]? = some (.cells #[.int .u64 x252000_1, .int .u64 x252001_1, .int .u64 x252002_1, .bool x252003_1, .int .u64 x252004_1, .int .u64 x252005_1, .int .u64 x252006_1, .int .u64 x252007_1] 26 (0, 0))) ∧ Aside0 (Below w.heap.size w w'))
  case atStart => exact ⟨(0), (t243), (t244), (t245), (t246), (t247), (t248), (t249), (t250), (by first | rfl | (simp; done) | (simp [*]; done)), H', ⟨Nat.le_refl _⟩, ⟨by (with_reducible repeat (first | refine blk_drewN ?_ _ | refine blk_drew ?_ | refine blk_alloc ?_ _)); refine blk_put (cs := #[.int .u64 t243, .int .u64 t244, .int .u64 t245, .bool t246, .int .u64 t247, .int .u64 t248, .int .u64 t249, .int .u64 0]) ?_ 7 _ rfl; (with_reducible repeat (first | refine blk_drewN ?_ _ | refine blk_drew ?_ | refine blk_alloc ?_ _)); refine blk_put (cs := #[.int .u64 t243, .int .u64 t244, .int .u64 t245, .bool t246, .int .u64 t247, .int .u64 t248, .int .u64 0, .int .u64 0]) ?_ 6 _ rfl; (with_reducible repeat (first | refine blk_drewN ?_ _ | refine blk_drew ?_ | refine blk_alloc ?_ _)); refine blk_put (cs := #[.int .u64 t243, .int .u64 t244, .int .u64 t245, .bool t246, .int .u64 t247, .int .u64 0, .int .u64 0, .int .u64 0]) ?_ 5 _ rfl; (with_reducible repeat (first | refine blk_drewN ?_ _ | refine blk_drew ?_ | refine blk_alloc ?_ _)); refine blk_put (cs := #[.int .u64 t243, .int .u64 t244, .int .u64 t245, .bool t246, .int .u64 0, .int .u64 0, .int .u64 0, .int .u64 0]) ?_ 4 _ rfl; (with_reducible repeat (first | refine blk_drewN ?_ _ | refine blk_drew ?_ | refine blk_alloc ?_ _)); refine blk_put (cs := #[.int .u64 t243, .int .u64 t244, .int .u64 t245, .bool false, .int .u64 0, .int .u64 0, .int .u64 0, .int .u64 0]) ?_ 3 _ rfl; (with_reducible repeat (first | refine blk_drewN ?_ _ | refine blk_drew ?_ | refine blk_alloc ?_ _)); refine blk_put (cs := #[.int .u64 t243, .int .u64 t244, .int .u64 0, .bool false, .int .u64 0, .int .u64 0, .int .u64 0, .int .u64 0]) ?_ 2 _ rfl; (with_reducible repeat (first | refine blk_drewN ?_ _ | refine blk_drew ?_ | refine blk_alloc ?_ _)); refine blk_put (cs := #[.int .u64 t243, .int .u64 0, .int .u64 0, .bool false, .int .u64 0, .int .u64 0, .int .u64 0, .int .u64 0]) ?_ 1 _ rfl; (with_reducible repeat (first | refine blk_drewN ?_ _ | refine blk_drew ?_ | refine blk_alloc ?_ _)); refine blk_put (cs := #[.int .u64 0, .int .u64 0, .int .u64 0, .bool false, .int .u64 0, .int .u64 0, .int .u64 0, .int .u64 0]) ?_ 0 _ rfl; (with_reducible repeat (first | refine blk_drewN ?_ _ | refine blk_drew ?_ | refine blk_alloc ?_ _)); exact BK251.out⟩, ⟨by repeat (first | (with_reducible first | exact HB.out | apply below_alloc | apply pw_below_drewN | apply below_drew1 | refine below_set ?_ GE251.out) | exact HB.out)⟩⟩
  case round =>
    clear H'
    try clear p2
    try clear c3
    try clear c7
    try clear hcz7_0
    try clear hcz7_1
    try clear hcz7_2
    try clear hcz7_3
    try clear hcz7_4
    try clear hcz7_5
    try clear hcz7_6
    try clear hcz7_7
    try clear hfz7_0
    try clear hfz7_1
    try clear hfz7_2
    try clear hfz7_3
    try clear hfz7_4
    try clear hfz7_5
    try clear hfz7_6
    try clear hfz7_7
    obtain ⟨x5_1, x252000_1, x252001_1, x252002_1, x252003_1, x252004_1, x252005_1, x252006_1, x252007_1, rfl, HA, HK1, BK251, HB⟩ := hrel
    cases gk with
    | zero => exact absurd HA.out (by simp [wigwaglaw12_CubicHolds.l0])
    | succ k1 =>
      have H := HA.out
      clear HA
      simp only [wigwaglaw12_CubicHolds.l0] at H
      by_cases c8 : x5_1 < (l0.length : Int)
      · rw [if_pos c8] at H
        have c8b0 : decide (x5_1 < (l0.length : Int)) = true := decide_eq_true c8
        clear c8
        by_cases c9 : x5_1 < 200
        · rw [if_pos c9] at H
          have c9b0 : decide (x5_1 < 200) = true := decide_eq_true c9
          clear c9
          by_cases c10 : 0 ≤ x5_1
          · rw [if_pos c10] at H
            have c10b0 : decide (0 ≤ x5_1) = true := decide_eq_true c10
            clear c10
            by_cases c11 : ((rd_T29 l0 x5_1).f0) = 1
            · rw [if_pos c11] at H
              have c11b0 : (((rd_T29 l0 x5_1).f0) == 1) = true := beq_iff_eq.mpr c11
              have c11b1 : (((rd_T29 l0 x5_1).f0) != 1) = false := bne_eq_false_iff_eq.mpr c11
              clear c11
              replace H := Option.bind_eq_some_iff.mp H
              obtain ⟨⟨t259, t260, t261, t262, t263, t264, t265, t266⟩, A120, H⟩ := H
              replace H : (if t259 < x252000_1 then (none) else (if t260 = x252001_1 then (if t261 = x252002_1 then (if t259 < 2400 then (none) else (if t259 > 16777216 then (none) else (if t260 < 2400 then (none) else (if t260 > 16777216 then (none) else (wigwaglaw12_CubicHolds.l0 k1 l0 t242 (wrap64 (x5_1 + 1)) t259 t260 t261 t262 t263 t264 t265 t266))))) else (none)) else (none))) = some r := H
              have A12 := Aside0.mk A120
              clear A120
              by_cases c13 : t259 < x252000_1
              · rw [if_pos c13] at H
                exact absurd H (by simp)
              · rw [if_neg c13] at H
                have c13b0 : decide (t259 < x252000_1) = false := decide_eq_false c13
                clear c13
                by_cases c14 : t260 = x252001_1
                · rw [if_pos c14] at H
                  have c14b0 : (t260 == x252001_1) = true := beq_iff_eq.mpr c14
                  have c14b1 : (t260 != x252001_1) = false := bne_eq_false_iff_eq.mpr c14
                  clear c14
                  by_cases c15 : t261 = x252002_1
                  · rw [if_pos c15] at H
                    have c15b0 : (t261 == x252002_1) = true := beq_iff_eq.mpr c15
                    have c15b1 : (t261 != x252002_1) = false := bne_eq_false_iff_eq.mpr c15
                    clear c15
                    by_cases c16 : t259 < 2400
                    · rw [if_pos c16] at H
                      exact absurd H (by simp)
                    · rw [if_neg c16] at H
                      have c16b0 : decide (t259 < 2400) = false := decide_eq_false c16
                      clear c16
                      by_cases c17 : t259 > 16777216
                      · rw [if_pos c17] at H
                        exact absurd H (by simp)
                      · rw [if_neg c17] at H
                        have c17b0 : decide (16777216 < t259) = false := decide_eq_false c17
                        clear c17
                        by_cases c18 : t260 < 2400
                        · rw [if_pos c18] at H
                          exact absurd H (by simp)
                        · rw [if_neg c18] at H
                          have c18b0 : decide (t260 < 2400) = false := decide_eq_false c18
                          clear c18
                          by_cases c19 : t260 > 16777216
                          · rw [if_pos c19] at H
                            exact absurd H (by simp)
                          · rw [if_neg c19] at H
                            have c19b0 : decide (16777216 < t260) = false := decide_eq_false c19
                            clear c19
                            have H' := Aside0.mk H
                            clear H
                            have hcz20_0 : wr.cell? ⟨gb251, 0, none⟩ = some (.int .u64 x252000_1) := (blk_cell BK251.out 0).trans rfl
                            have hcz20_1 : wr.cell? ⟨gb251, 1, none⟩ = some (.int .u64 x252001_1) := (blk_cell BK251.out 1).trans rfl
                            have hcz20_2 : wr.cell? ⟨gb251, 2, none⟩ = some (.int .u64 x252002_1) := (blk_cell BK251.out 2).trans rfl
                            have hcz20_3 : wr.cell? ⟨gb251, 3, none⟩ = some (.bool x252003_1) := (blk_cell BK251.out 3).trans rfl
                            have hcz20_4 : wr.cell? ⟨gb251, 4, none⟩ = some (.int .u64 x252004_1) := (blk_cell BK251.out 4).trans rfl
                            have hcz20_5 : wr.cell? ⟨gb251, 5, none⟩ = some (.int .u64 x252005_1) := (blk_cell BK251.out 5).trans rfl
                            have hcz20_6 : wr.cell? ⟨gb251, 6, none⟩ = some (.int .u64 x252006_1) := (blk_cell BK251.out 6).trans rfl
                            have hcz20_7 : wr.cell? ⟨gb251, 7, none⟩ = some (.int .u64 x252007_1) := (blk_cell BK251.out 7).trans rfl
                            have hfz20_0 := blk_frozen BK251.out 0
                            have hfz20_1 := blk_frozen BK251.out 1
                            have hfz20_2 := blk_frozen BK251.out 2
                            have hfz20_3 := blk_frozen BK251.out 3
                            have hfz20_4 := blk_frozen BK251.out 4
                            have hfz20_5 := blk_frozen BK251.out 5
                            have hfz20_6 := blk_frozen BK251.out 6
                            have hfz20_7 := blk_frozen BK251.out 7
                            try go_wp2_with (first | ((with_reducible refine gate_dst (N := 6) rfl ?_); refine box_event ?hg (N := 6) ?hd (cs := #[.int .u64 0, .int .u64 0, .int .u64 0, .bool false, .int .u64 0, .int .u64 0, .int .u64 0, .int .u64 0]) (t := 26) ?hr ?_; (case hd => rfl); (case hg => rfl); (case hr => first | (go_simp; done) | (go_simp; rfl)); intro gb252 hg w21 hbox hb; have n0_ := Aside0.mk (blk_below (g := gb251) (o := .cells #[.int .u64 x252000_1, .int .u64 x252001_1, .int .u64 x252002_1, .bool x252003_1, .int .u64 x252004_1, .int .u64 x252005_1, .int .u64 x252006_1, .int .u64 x252007_1] 26 (0, 0)) (by (with_reducible repeat (first | refine blk_drewN ?_ _ | refine blk_drew ?_ | refine blk_alloc ?_ _)); exact BK251.out) hb); have n1_ := Aside0.mk (below_step (by repeat (first | (with_reducible first | exact HB.out | apply below_alloc | apply pw_below_drewN | apply below_drew1 | refine below_set ?_ GE251.out) | exact HB.out)) hb); have n2_ := Aside0.mk (hbox); have n3_ := Aside0.mk ((by rw [hg]; exact (below_size (by repeat (first | (with_reducible first | exact HB.out | apply below_alloc | apply pw_below_drewN | apply below_drew1 | refine below_set ?_ GE251.out) | exact HB.out))) : w.heap.size ≤ gb252)); have n4_ := Aside0.mk ((by rw [hg]; exact (below_size (by repeat (first | (with_reducible first | exact HB.out | apply below_alloc | apply pw_below_drewN | apply below_drew1 | refine below_set ?_ GE251.out) | exact HB.out))) : w.heap.size ≤ gb252)); have n5_ := Aside0.mk ((by rw [hg]; exact Nat.ne_of_lt (blk_lt (g := gb251) (o := .cells #[.int .u64 x252000_1, .int .u64 x252001_1, .int .u64 x252002_1, .bool x252003_1, .int .u64 x252004_1, .int .u64 x252005_1, .int .u64 x252006_1, .int .u64 x252007_1] 26 (0, 0)) (by (with_reducible repeat (first | refine blk_drewN ?_ _ | refine blk_drew ?_ | refine blk_alloc ?_ _)); exact BK251.out)) : gb251 ≠ gb252)); have n6_ := Aside0.mk ((by rw [hg]; exact Nat.ne_of_gt (blk_lt (g := gb251) (o := .cells #[.int .u64 x252000_1, .int .u64 x252001_1, .int .u64 x252002_1, .bool x252003_1, .int .u64 x252004_1, .int .u64 x252005_1, .int .u64 x252006_1, .int .u64 x252007_1] 26 (0, 0)) (by (with_reducible repeat (first | refine blk_drewN ?_ _ | refine blk_drew ?_ | refine blk_alloc ?_ _)); exact BK251.out)) : gb252 ≠ gb251)); clear BK251; clear HB; have BK251 := n0_; have HB := n1_; have BK252 := n2_; have GW252 := n3_; have GE252 := n4_; have NB251_252 := n5_; have NB252_251 := n6_; clear n0_ n1_ n2_ n3_ n4_ n5_ n6_; clear hb hbox hg; have hnb22 := NB252_251.out; have hnc22 := NB251_252.out; have hcz23_0 : w21.cell? ⟨gb252, 0, none⟩ = some (.int .u64 0) := (blk_cell BK252.out 0).trans rfl; have hcz23_1 : w21.cell? ⟨gb252, 1, none⟩ = some (.int .u64 0) := (blk_cell BK252.out 1).trans rfl; have hcz23_2 : w21.cell? ⟨gb252, 2, none⟩ = some (.int .u64 0) := (blk_cell BK252.out 2).trans rfl; have hcz23_3 : w21.cell? ⟨gb252, 3, none⟩ = some (.bool false) := (blk_cell BK252.out 3).trans rfl; have hcz23_4 : w21.cell? ⟨gb252, 4, none⟩ = some (.int .u64 0) := (blk_cell BK252.out 4).trans rfl; have hcz23_5 : w21.cell? ⟨gb252, 5, none⟩ = some (.int .u64 0) := (blk_cell BK252.out 5).trans rfl; have hcz23_6 : w21.cell? ⟨gb252, 6, none⟩ = some (.int .u64 0) := (blk_cell BK252.out 6).trans rfl; have hcz23_7 : w21.cell? ⟨gb252, 7, none⟩ = some (.int .u64 0) := (blk_cell BK252.out 7).trans rfl; have hfz23_0 := blk_frozen BK252.out 0; have hfz23_1 := blk_frozen BK252.out 1; have hfz23_2 := blk_frozen BK252.out 2; have hfz23_3 := blk_frozen BK252.out 3; have hfz23_4 := blk_frozen BK252.out 4; have hfz23_5 := blk_frozen BK252.out 5; have hfz23_6 := blk_frozen BK252.out 6; have hfz23_7 := blk_frozen BK252.out 7; have p253 : 0 ≤ (x5_1 : Int) := of_decide_eq_true (by first | (with_reducible assumption) | assumption); have q253 : x5_1 < (l0.length : Int) := of_decide_eq_true (by first | (with_reducible assumption) | assumption); obtain ⟨ad253, e253, hx253_0, hx253_1, hx253_2, hx253_3, hx253_4, hx253_5⟩ := at_T29 HR0.out x5_1 p253 q253; cases e253; have hn253_0 : ad253.block ≠ gb252 := Nat.ne_of_lt (Nat.lt_of_lt_of_le (by have := World.block_lt_of_cell? _ _ hx253_0; first | rwa [add_block] at this | exact this) GW252.out); have hn253_1 : ad253.block ≠ gb252 := Nat.ne_of_lt (Nat.lt_of_lt_of_le (by have := World.block_lt_of_cell? _ _ hx253_0; first | rwa [add_block] at this | exact this) GW252.out); have hn253_2 : ad253.block ≠ gb252 := Nat.ne_of_lt (Nat.lt_of_lt_of_le (by have := World.block_lt_of_cell? _ _ hx253_0; first | rwa [add_block] at this | exact this) GW252.out); have hn253_3 : ad253.block ≠ gb252 := Nat.ne_of_lt (Nat.lt_of_lt_of_le (by have := World.block_lt_of_cell? _ _ hx253_0; first | rwa [add_block] at this | exact this) GW252.out); have hn253_4 : ad253.block ≠ gb252 := Nat.ne_of_lt (Nat.lt_of_lt_of_le (by have := World.block_lt_of_cell? _ _ hx253_0; first | rwa [add_block] at this | exact this) GW252.out); have hn253_5 : ad253.block ≠ gb252 := Nat.ne_of_lt (Nat.lt_of_lt_of_le (by have := World.block_lt_of_cell? _ _ hx253_0; first | rwa [add_block] at this | exact this) GW252.out); have hn253_6 : ad253.block ≠ gb252 := Nat.ne_of_lt (Nat.lt_of_lt_of_le (by have := World.block_lt_of_cell? _ _ hx253_0; first | rwa [add_block] at this | exact this) GW252.out); have hn253_7 : ad253.block ≠ gb252 := Nat.ne_of_lt (Nat.lt_of_lt_of_le (by have := World.block_lt_of_cell? _ _ hx253_0; first | rwa [add_block] at this | exact this) GW252.out); replace hx253_0 := (HB.out.cell (World.block_lt_of_cell? w _ hx253_0)).trans hx253_0; replace hx253_1 := (HB.out.cell (World.block_lt_of_cell? w _ hx253_1)).trans hx253_1; replace hx253_2 := (HB.out.cell (World.block_lt_of_cell? w _ hx253_2)).trans hx253_2; replace hx253_3 := (HB.out.cell (World.block_lt_of_cell? w _ hx253_3)).trans hx253_3; replace hx253_4 := (HB.out.cell (World.block_lt_of_cell? w _ hx253_4)).trans hx253_4; replace hx253_5 := (HB.out.cell (World.block_lt_of_cell? w _ hx253_5)).trans hx253_5; replace hx253_0 := (cell_far (p := ⟨gb252, 0, none⟩) (by first | (rw [add_block]; exact hn253_0) | (show (Addr.add _ _).block ≠ _; rw [add_block]; exact hn253_0) | exact hn253_0) (.int .u64 x252000_1)).trans hx253_0; replace hx253_1 := (cell_far (p := ⟨gb252, 0, none⟩) (by first | (rw [add_block]; exact hn253_0) | (show (Addr.add _ _).block ≠ _; rw [add_block]; exact hn253_0) | exact hn253_0) (.int .u64 x252000_1)).trans hx253_1; replace hx253_2 := (cell_far (p := ⟨gb252, 0, none⟩) (by first | (rw [add_block]; exact hn253_0) | (show (Addr.add _ _).block ≠ _; rw [add_block]; exact hn253_0) | exact hn253_0) (.int .u64 x252000_1)).trans hx253_2; replace hx253_3 := (cell_far (p := ⟨gb252, 0, none⟩) (by first | (rw [add_block]; exact hn253_0) | (show (Addr.add _ _).block ≠ _; rw [add_block]; exact hn253_0) | exact hn253_0) (.int .u64 x252000_1)).trans hx253_3; replace hx253_4 := (cell_far (p := ⟨gb252, 0, none⟩) (by first | (rw [add_block]; exact hn253_0) | (show (Addr.add _ _).block ≠ _; rw [add_block]; exact hn253_0) | exact hn253_0) (.int .u64 x252000_1)).trans hx253_4; replace hx253_5 := (cell_far (p := ⟨gb252, 0, none⟩) (by first | (rw [add_block]; exact hn253_0) | (show (Addr.add _ _).block ≠ _; rw [add_block]; exact hn253_0) | exact hn253_0) (.int .u64 x252000_1)).trans hx253_5; replace hx253_0 := (cell_far (p := ⟨gb252, 1, none⟩) (by first | (rw [add_block]; exact hn253_1) | (show (Addr.add _ _).block ≠ _; rw [add_block]; exact hn253_1) | exact hn253_1) (.int .u64 x252001_1)).trans hx253_0; replace hx253_1 := (cell_far (p := ⟨gb252, 1, none⟩) (by first | (rw [add_block]; exact hn253_1) | (show (Addr.add _ _).block ≠ _; rw [add_block]; exact hn253_1) | exact hn253_1) (.int .u64 x252001_1)).trans hx253_1; replace hx253_2 := (cell_far (p := ⟨gb252, 1, none⟩) (by first | (rw [add_block]; exact hn253_1) | (show (Addr.add _ _).block ≠ _; rw [add_block]; exact hn253_1) | exact hn253_1) (.int .u64 x252001_1)).trans hx253_2; replace hx253_3 := (cell_far (p := ⟨gb252, 1, none⟩) (by first | (rw [add_block]; exact hn253_1) | (show (Addr.add _ _).block ≠ _; rw [add_block]; exact hn253_1) | exact hn253_1) (.int .u64 x252001_1)).trans hx253_3; replace hx253_4 := (cell_far (p := ⟨gb252, 1, none⟩) (by first | (rw [add_block]; exact hn253_1) | (show (Addr.add _ _).block ≠ _; rw [add_block]; exact hn253_1) | exact hn253_1) (.int .u64 x252001_1)).trans hx253_4; replace hx253_5 := (cell_far (p := ⟨gb252, 1, none⟩) (by first | (rw [add_block]; exact hn253_1) | (show (Addr.add _ _).block ≠ _; rw [add_block]; exact hn253_1) | exact hn253_1) (.int .u64 x252001_1)).trans hx253_5; replace hx253_0 := (cell_far (p := ⟨gb252, 2, none⟩) (by first | (rw [add_block]; exact hn253_2) | (show (Addr.add _ _).block ≠ _; rw [add_block]; exact hn253_2) | exact hn253_2) (.int .u64 x252002_1)).trans hx253_0; replace hx253_1 := (cell_far (p := ⟨gb252, 2, none⟩) (by first | (rw [add_block]; exact hn253_2) | (show (Addr.add _ _).block ≠ _; rw [add_block]; exact hn253_2) | exact hn253_2) (.int .u64 x252002_1)).trans hx253_1; replace hx253_2 := (cell_far (p := ⟨gb252, 2, none⟩) (by first | (rw [add_block]; exact hn253_2) | (show (Addr.add _ _).block ≠ _; rw [add_block]; exact hn253_2) | exact hn253_2) (.int .u64 x252002_1)).trans hx253_2; replace hx253_3 := (cell_far (p := ⟨gb252, 2, none⟩) (by first | (rw [add_block]; exact hn253_2) | (show (Addr.add _ _).block ≠ _; rw [add_block]; exact hn253_2) | exact hn253_2) (.int .u64 x252002_1)).trans hx253_3; replace hx253_4 := (cell_far (p := ⟨gb252, 2, none⟩) (by first | (rw [add_block]; exact hn253_2) | (show (Addr.add _ _).block ≠ _; rw [add_block]; exact hn253_2) | exact hn253_2) (.int .u64 x252002_1)).trans hx253_4; replace hx253_5 := (cell_far (p := ⟨gb252, 2, none⟩) (by first | (rw [add_block]; exact hn253_2) | (show (Addr.add _ _).block ≠ _; rw [add_block]; exact hn253_2) | exact hn253_2) (.int .u64 x252002_1)).trans hx253_5; replace hx253_0 := (cell_far (p := ⟨gb252, 3, none⟩) (by first | (rw [add_block]; exact hn253_3) | (show (Addr.add _ _).block ≠ _; rw [add_block]; exact hn253_3) | exact hn253_3) (.bool x252003_1)).trans hx253_0; replace hx253_1 := (cell_far (p := ⟨gb252, 3, none⟩) (by first | (rw [add_block]; exact hn253_3) | (show (Addr.add _ _).block ≠ _; rw [add_block]; exact hn253_3) | exact hn253_3) (.bool x252003_1)).trans hx253_1; replace hx253_2 := (cell_far (p := ⟨gb252, 3, none⟩) (by first | (rw [add_block]; exact hn253_3) | (show (Addr.add _ _).block ≠ _; rw [add_block]; exact hn253_3) | exact hn253_3) (.bool x252003_1)).trans hx253_2; replace hx253_3 := (cell_far (p := ⟨gb252, 3, none⟩) (by first | (rw [add_block]; exact hn253_3) | (show (Addr.add _ _).block ≠ _; rw [add_block]; exact hn253_3) | exact hn253_3) (.bool x252003_1)).trans hx253_3; replace hx253_4 := (cell_far (p := ⟨gb252, 3, none⟩) (by first | (rw [add_block]; exact hn253_3) | (show (Addr.add _ _).block ≠ _; rw [add_block]; exact hn253_3) | exact hn253_3) (.bool x252003_1)).trans hx253_4; replace hx253_5 := (cell_far (p := ⟨gb252, 3, none⟩) (by first | (rw [add_block]; exact hn253_3) | (show (Addr.add _ _).block ≠ _; rw [add_block]; exact hn253_3) | exact hn253_3) (.bool x252003_1)).trans hx253_5; replace hx253_0 := (cell_far (p := ⟨gb252, 4, none⟩) (by first | (rw [add_block]; exact hn253_4) | (show (Addr.add _ _).block ≠ _; rw [add_block]; exact hn253_4) | exact hn253_4) (.int .u64 x252004_1)).trans hx253_0; replace hx253_1 := (cell_far (p := ⟨gb252, 4, none⟩) (by first | (rw [add_block]; exact hn253_4) | (show (Addr.add _ _).block ≠ _; rw [add_block]; exact hn253_4) | exact hn253_4) (.int .u64 x252004_1)).trans hx253_1; replace hx253_2 := (cell_far (p := ⟨gb252, 4, none⟩) (by first | (rw [add_block]; exact hn253_4) | (show (Addr.add _ _).block ≠ _; rw [add_block]; exact hn253_4) | exact hn253_4) (.int .u64 x252004_1)).trans hx253_2; replace hx253_3 := (cell_far (p := ⟨gb252, 4, none⟩) (by first | (rw [add_block]; exact hn253_4) | (show (Addr.add _ _).block ≠ _; rw [add_block]; exact hn253_4) | exact hn253_4) (.int .u64 x252004_1)).trans hx253_3; replace hx253_4 := (cell_far (p := ⟨gb252, 4, none⟩) (by first | (rw [add_block]; exact hn253_4) | (show (Addr.add _ _).block ≠ _; rw [add_block]; exact hn253_4) | exact hn253_4) (.int .u64 x252004_1)).trans hx253_4; replace hx253_5 := (cell_far (p := ⟨gb252, 4, none⟩) (by first | (rw [add_block]; exact hn253_4) | (show (Addr.add _ _).block ≠ _; rw [add_block]; exact hn253_4) | exact hn253_4) (.int .u64 x252004_1)).trans hx253_5; replace hx253_0 := (cell_far (p := ⟨gb252, 5, none⟩) (by first | (rw [add_block]; exact hn253_5) | (show (Addr.add _ _).block ≠ _; rw [add_block]; exact hn253_5) | exact hn253_5) (.int .u64 x252005_1)).trans hx253_0; replace hx253_1 := (cell_far (p := ⟨gb252, 5, none⟩) (by first | (rw [add_block]; exact hn253_5) | (show (Addr.add _ _).block ≠ _; rw [add_block]; exact hn253_5) | exact hn253_5) (.int .u64 x252005_1)).trans hx253_1; replace hx253_2 := (cell_far (p := ⟨gb252, 5, none⟩) (by first | (rw [add_block]; exact hn253_5) | (show (Addr.add _ _).block ≠ _; rw [add_block]; exact hn253_5) | exact hn253_5) (.int .u64 x252005_1)).trans hx253_2; replace hx253_3 := (cell_far (p := ⟨gb252, 5, none⟩) (by first | (rw [add_block]; exact hn253_5) | (show (Addr.add _ _).block ≠ _; rw [add_block]; exact hn253_5) | exact hn253_5) (.int .u64 x252005_1)).trans hx253_3; replace hx253_4 := (cell_far (p := ⟨gb252, 5, none⟩) (by first | (rw [add_block]; exact hn253_5) | (show (Addr.add _ _).block ≠ _; rw [add_block]; exact hn253_5) | exact hn253_5) (.int .u64 x252005_1)).trans hx253_4; replace hx253_5 := (cell_far (p := ⟨gb252, 5, none⟩) (by first | (rw [add_block]; exact hn253_5) | (show (Addr.add _ _).block ≠ _; rw [add_block]; exact hn253_5) | exact hn253_5) (.int .u64 x252005_1)).trans hx253_5; replace hx253_0 := (cell_far (p := ⟨gb252, 6, none⟩) (by first | (rw [add_block]; exact hn253_6) | (show (Addr.add _ _).block ≠ _; rw [add_block]; exact hn253_6) | exact hn253_6) (.int .u64 x252006_1)).trans hx253_0; replace hx253_1 := (cell_far (p := ⟨gb252, 6, none⟩) (by first | (rw [add_block]; exact hn253_6) | (show (Addr.add _ _).block ≠ _; rw [add_block]; exact hn253_6) | exact hn253_6) (.int .u64 x252006_1)).trans hx253_1; replace hx253_2 := (cell_far (p := ⟨gb252, 6, none⟩) (by first | (rw [add_block]; exact hn253_6) | (show (Addr.add _ _).block ≠ _; rw [add_block]; exact hn253_6) | exact hn253_6) (.int .u64 x252006_1)).trans hx253_2; replace hx253_3 := (cell_far (p := ⟨gb252, 6, none⟩) (by first | (rw [add_block]; exact hn253_6) | (show (Addr.add _ _).block ≠ _; rw [add_block]; exact hn253_6) | exact hn253_6) (.int .u64 x252006_1)).trans hx253_3; replace hx253_4 := (cell_far (p := ⟨gb252, 6, none⟩) (by first | (rw [add_block]; exact hn253_6) | (show (Addr.add _ _).block ≠ _; rw [add_block]; exact hn253_6) | exact hn253_6) (.int .u64 x252006_1)).trans hx253_4; replace hx253_5 := (cell_far (p := ⟨gb252, 6, none⟩) (by first | (rw [add_block]; exact hn253_6) | (show (Addr.add _ _).block ≠ _; rw [add_block]; exact hn253_6) | exact hn253_6) (.int .u64 x252006_1)).trans hx253_5; replace hx253_0 := (cell_far (p := ⟨gb252, 7, none⟩) (by first | (rw [add_block]; exact hn253_7) | (show (Addr.add _ _).block ≠ _; rw [add_block]; exact hn253_7) | exact hn253_7) (.int .u64 x252007_1)).trans hx253_0; replace hx253_1 := (cell_far (p := ⟨gb252, 7, none⟩) (by first | (rw [add_block]; exact hn253_7) | (show (Addr.add _ _).block ≠ _; rw [add_block]; exact hn253_7) | exact hn253_7) (.int .u64 x252007_1)).trans hx253_1; replace hx253_2 := (cell_far (p := ⟨gb252, 7, none⟩) (by first | (rw [add_block]; exact hn253_7) | (show (Addr.add _ _).block ≠ _; rw [add_block]; exact hn253_7) | exact hn253_7) (.int .u64 x252007_1)).trans hx253_2; replace hx253_3 := (cell_far (p := ⟨gb252, 7, none⟩) (by first | (rw [add_block]; exact hn253_7) | (show (Addr.add _ _).block ≠ _; rw [add_block]; exact hn253_7) | exact hn253_7) (.int .u64 x252007_1)).trans hx253_3; replace hx253_4 := (cell_far (p := ⟨gb252, 7, none⟩) (by first | (rw [add_block]; exact hn253_7) | (show (Addr.add _ _).block ≠ _; rw [add_block]; exact hn253_7) | exact hn253_7) (.int .u64 x252007_1)).trans hx253_4; replace hx253_5 := (cell_far (p := ⟨gb252, 7, none⟩) (by first | (rw [add_block]; exact hn253_7) | (show (Addr.add _ _).block ≠ _; rw [add_block]; exact hn253_7) | exact hn253_7) (.int .u64 x252007_1)).trans hx253_5; clear hn253_0; clear hn253_1; clear hn253_2; clear hn253_3; clear hn253_4; clear hn253_5; clear hn253_6; clear hn253_7; replace p253 := eq_true p253; replace q253 := eq_true q253))
                            generalize hW_ : ((((((((w21.setCell ⟨gb252, 0, none⟩ (.int .u64 x252000_1)).setCell ⟨gb252, 1, none⟩ (.int .u64 x252001_1)).setCell ⟨gb252, 2, none⟩ (.int .u64 x252002_1)).setCell ⟨gb252, 3, none⟩ (.bool x252003_1)).setCell ⟨gb252, 4, none⟩ (.int .u64 x252004_1)).setCell ⟨gb252, 5, none⟩ (.int .u64 x252005_1)).setCell ⟨gb252, 6, none⟩ (.int .u64 x252006_1)).setCell ⟨gb252, 7, none⟩ (.int .u64 x252007_1)) = w24
                            have n0_ : Aside0 (w24.heap[gb251]? = some (.cells #[.int .u64 x252000_1, .int .u64 x252001_1, .int .u64 x252002_1, .bool x252003_1, .int .u64 x252004_1, .int .u64 x252005_1, .int .u64 x252006_1, .int .u64 x252007_1] 26 (0, 0))) := ⟨by rw [← hW_]; exact (by (with_reducible repeat (first | refine blk_drewN ?_ _ | refine blk_drew ?_ | refine blk_alloc ?_ _)); refine blk_far ?_ NB251_252.out _; (with_reducible repeat (first | refine blk_drewN ?_ _ | refine blk_drew ?_ | refine blk_alloc ?_ _)); refine blk_far ?_ NB251_252.out _; (with_reducible repeat (first | refine blk_drewN ?_ _ | refine blk_drew ?_ | refine blk_alloc ?_ _)); refine blk_far ?_ NB251_252.out _; (with_reducible repeat (first | refine blk_drewN ?_ _ | refine blk_drew ?_ | refine blk_alloc ?_ _)); refine blk_far ?_ NB251_252.out _; (with_reducible repeat (first | refine blk_drewN ?_ _ | refine blk_drew ?_ | refine blk_alloc ?_ _)); refine blk_far ?_ NB251_252.out _; (with_reducible repeat (first | refine blk_drewN ?_ _ | refine blk_drew ?_ | refine blk_alloc ?_ _)); refine blk_far ?_ NB251_252.out _; (with_reducible repeat (first | refine blk_drewN ?_ _ | refine blk_drew ?_ | refine blk_alloc ?_ _)); refine blk_far ?_ NB251_252.out _; (with_reducible repeat (first | refine blk_drewN ?_ _ | refine blk_drew ?_ | refine blk_alloc ?_ _)); refine blk_far ?_ NB251_252.out _; (with_reducible repeat (first | refine blk_drewN ?_ _ | refine blk_drew ?_ | refine blk_alloc ?_ _)); exact BK251.out)⟩
                            have n1_ : Aside0 (w24.heap[gb252]? = some (.cells #[.int .u64 x252000_1, .int .u64 x252001_1, .int .u64 x252002_1, .bool x252003_1, .int .u64 x252004_1, .int .u64 x252005_1, .int .u64 x252006_1, .int .u64 x252007_1] 26 (0, 0))) := ⟨by rw [← hW_]; exact (by (with_reducible repeat (first | refine blk_drewN ?_ _ | refine blk_drew ?_ | refine blk_alloc ?_ _)); refine blk_put (cs := #[.int .u64 x252000_1, .int .u64 x252001_1, .int .u64 x252002_1, .bool x252003_1, .int .u64 x252004_1, .int .u64 x252005_1, .int .u64 x252006_1, .int .u64 0]) ?_ 7 _ rfl; (with_reducible repeat (first | refine blk_drewN ?_ _ | refine blk_drew ?_ | refine blk_alloc ?_ _)); refine blk_put (cs := #[.int .u64 x252000_1, .int .u64 x252001_1, .int .u64 x252002_1, .bool x252003_1, .int .u64 x252004_1, .int .u64 x252005_1, .int .u64 0, .int .u64 0]) ?_ 6 _ rfl; (with_reducible repeat (first | refine blk_drewN ?_ _ | refine blk_drew ?_ | refine blk_alloc ?_ _)); refine blk_put (cs := #[.int .u64 x252000_1, .int .u64 x252001_1, .int .u64 x252002_1, .bool x252003_1, .int .u64 x252004_1, .int .u64 0, .int .u64 0, .int .u64 0]) ?_ 5 _ rfl; (with_reducible repeat (first | refine blk_drewN ?_ _ | refine blk_drew ?_ | refine blk_alloc ?_ _)); refine blk_put (cs := #[.int .u64 x252000_1, .int .u64 x252001_1, .int .u64 x252002_1, .bool x252003_1, .int .u64 0, .int .u64 0, .int .u64 0, .int .u64 0]) ?_ 4 _ rfl; (with_reducible repeat (first | refine blk_drewN ?_ _ | refine blk_drew ?_ | refine blk_alloc ?_ _)); refine blk_put (cs := #[.int .u64 x252000_1, .int .u64 x252001_1, .int .u64 x252002_1, .bool false, .int .u64 0, .int .u64 0, .int .u64 0, .int .u64 0]) ?_ 3 _ rfl; (with_reducible repeat (first | refine blk_drewN ?_ _ | refine blk_drew ?_ | refine blk_alloc ?_ _)); refine blk_put (cs := #[.int .u64 x252000_1, .int .u64 x252001_1, .int .u64 0, .bool false, .int .u64 0, .int .u64 0, .int .u64 0, .int .u64 0]) ?_ 2 _ rfl; (with_reducible repeat (first | refine blk_drewN ?_ _ | refine blk_drew ?_ | refine blk_alloc ?_ _)); refine blk_put (cs := #[.int .u64 x252000_1, .int .u64 0, .int .u64 0, .bool false, .int .u64 0, .int .u64 0, .int .u64 0, .int .u64 0]) ?_ 1 _ rfl; (with_reducible repeat (first | refine blk_drewN ?_ _ | refine blk_drew ?_ | refine blk_alloc ?_ _)); refine blk_put (cs := #[.int .u64 0, .int .u64 0, .int .u64 0, .bool false, .int .u64 0, .int .u64 0, .int .u64 0, .int .u64 0]) ?_ 0 _ rfl; (with_reducible repeat (first | refine blk_drewN ?_ _ | refine blk_drew ?_ | refine blk_alloc ?_ _)); exact BK252.out)⟩
                            have n2_ : Aside0 (Below w.heap.size w w24) := ⟨by rw [← hW_]; exact (by repeat (first | (with_reducible first | exact HB.out | apply below_alloc | apply pw_below_drewN | apply below_drew1 | refine below_set ?_ GE251.out | refine below_set ?_ GE252.out) | exact HB.out))⟩
                            (try clear BK251)
                            (try clear BK252)
                            (try clear HB)
                            clear hW_
                            have BK251 := n0_
                            have BK252 := n1_
                            have HB := n2_
                            clear n0_ n1_ n2_
                            have n0_ := Aside0.mk (blk_drew BK251.out)
                            have n1_ := Aside0.mk (blk_drew BK252.out)
                            have n2_ := Aside0.mk (below_drew1 HB.out)
                            clear BK251
                            clear BK252
                            clear HB
                            have BK251 := n0_
                            have BK252 := n1_
                            have HB := n2_
                            clear n0_ n1_ n2_
                            have p254 : 0 ≤ (x5_1 : Int) := of_decide_eq_true (by first | (with_reducible assumption) | assumption)
                            have q254 : x5_1 < (l0.length : Int) := of_decide_eq_true (by first | (with_reducible assumption) | assumption)
                            obtain ⟨ad254, e254, hx254_0, hx254_1, hx254_2, hx254_3, hx254_4, hx254_5⟩ := at_T29 HR0.out x5_1 p254 q254
                            have hw254_5 := hx254_5
                            have hw254_4 := hx254_4
                            have hw254_3 := hx254_3
                            have hw254_2 := hx254_2
                            have hw254_1 := hx254_1
                            have hw254_0 := hx254_0
                            obtain rfl : ad253 = ad254 := (by injection e254)
                            replace hx254_0 := (HB.out.cell (World.block_lt_of_cell? w _ hx254_0)).trans hx254_0
                            replace hx254_1 := (HB.out.cell (World.block_lt_of_cell? w _ hx254_1)).trans hx254_1
                            replace hx254_2 := (HB.out.cell (World.block_lt_of_cell? w _ hx254_2)).trans hx254_2
                            replace hx254_3 := (HB.out.cell (World.block_lt_of_cell? w _ hx254_3)).trans hx254_3
                            replace hx254_4 := (HB.out.cell (World.block_lt_of_cell? w _ hx254_4)).trans hx254_4
                            replace hx254_5 := (HB.out.cell (World.block_lt_of_cell? w _ hx254_5)).trans hx254_5
                            replace p254 := eq_true p254
                            replace q254 := eq_true q254
                            have p255 : 0 ≤ (x5_1 : Int) := of_decide_eq_true (by first | (with_reducible assumption) | assumption)
                            have q255 : x5_1 < (l0.length : Int) := of_decide_eq_true (by first | (with_reducible assumption) | assumption)
                            obtain ⟨ad255, e255, hx255_0, hx255_1, hx255_2, hx255_3, hx255_4, hx255_5⟩ := at_T29 HR0.out x5_1 p255 q255
                            have hw255_5 := hx255_5
                            have hw255_4 := hx255_4
                            have hw255_3 := hx255_3
                            have hw255_2 := hx255_2
                            have hw255_1 := hx255_1
                            have hw255_0 := hx255_0
                            obtain rfl : ad253 = ad255 := (by injection e255)
                            replace hx255_0 := (HB.out.cell (World.block_lt_of_cell? w _ hx255_0)).trans hx255_0
                            replace hx255_1 := (HB.out.cell (World.block_lt_of_cell? w _ hx255_1)).trans hx255_1
                            replace hx255_2 := (HB.out.cell (World.block_lt_of_cell? w _ hx255_2)).trans hx255_2
                            replace hx255_3 := (HB.out.cell (World.block_lt_of_cell? w _ hx255_3)).trans hx255_3
                            replace hx255_4 := (HB.out.cell (World.block_lt_of_cell? w _ hx255_4)).trans hx255_4
                            replace hx255_5 := (HB.out.cell (World.block_lt_of_cell? w _ hx255_5)).trans hx255_5
                            replace p255 := eq_true p255
                            replace q255 := eq_true q255
                            have p256 : 0 ≤ (x5_1 : Int) := of_decide_eq_true (by first | (with_reducible assumption) | assumption)
                            have q256 : x5_1 < (l0.length : Int) := of_decide_eq_true (by first | (with_reducible assumption) | assumption)
                            obtain ⟨ad256, e256, hx256_0, hx256_1, hx256_2, hx256_3, hx256_4, hx256_5⟩ := at_T29 HR0.out x5_1 p256 q256
                            have hw256_5 := hx256_5
                            have hw256_4 := hx256_4
                            have hw256_3 := hx256_3
                            have hw256_2 := hx256_2
                            have hw256_1 := hx256_1
                            have hw256_0 := hx256_0
                            obtain rfl : ad253 = ad256 := (by injection e256)
                            replace hx256_0 := (HB.out.cell (World.block_lt_of_cell? w _ hx256_0)).trans hx256_0
                            replace hx256_1 := (HB.out.cell (World.block_lt_of_cell? w _ hx256_1)).trans hx256_1
                            replace hx256_2 := (HB.out.cell (World.block_lt_of_cell? w _ hx256_2)).trans hx256_2
                            replace hx256_3 := (HB.out.cell (World.block_lt_of_cell? w _ hx256_3)).trans hx256_3
                            replace hx256_4 := (HB.out.cell (World.block_lt_of_cell? w _ hx256_4)).trans hx256_4
                            replace hx256_5 := (HB.out.cell (World.block_lt_of_cell? w _ hx256_5)).trans hx256_5
                            replace p256 := eq_true p256
                            replace q256 := eq_true q256
                            have p257 : 0 ≤ (x5_1 : Int) := of_decide_eq_true (by first | (with_reducible assumption) | assumption)
                            have q257 : x5_1 < (l0.length : Int) := of_decide_eq_true (by first | (with_reducible assumption) | assumption)
                            obtain ⟨ad257, e257, hx257_0, hx257_1, hx257_2, hx257_3, hx257_4, hx257_5⟩ := at_T29 HR0.out x5_1 p257 q257
                            have hw257_5 := hx257_5
                            have hw257_4 := hx257_4
                            have hw257_3 := hx257_3
                            have hw257_2 := hx257_2
                            have hw257_1 := hx257_1
                            have hw257_0 := hx257_0
                            obtain rfl : ad253 = ad257 := (by injection e257)
                            replace hx257_0 := (HB.out.cell (World.block_lt_of_cell? w _ hx257_0)).trans hx257_0
                            replace hx257_1 := (HB.out.cell (World.block_lt_of_cell? w _ hx257_1)).trans hx257_1
                            replace hx257_2 := (HB.out.cell (World.block_lt_of_cell? w _ hx257_2)).trans hx257_2
                            replace hx257_3 := (HB.out.cell (World.block_lt_of_cell? w _ hx257_3)).trans hx257_3
                            replace hx257_4 := (HB.out.cell (World.block_lt_of_cell? w _ hx257_4)).trans hx257_4
                            replace hx257_5 := (HB.out.cell (World.block_lt_of_cell? w _ hx257_5)).trans hx257_5
                            replace p257 := eq_true p257
                            replace q257 := eq_true q257
                            have p258 : 0 ≤ (x5_1 : Int) := of_decide_eq_true (by first | (with_reducible assumption) | assumption)
                            have q258 : x5_1 < (l0.length : Int) := of_decide_eq_true (by first | (with_reducible assumption) | assumption)
                            obtain ⟨ad258, e258, hx258_0, hx258_1, hx258_2, hx258_3, hx258_4, hx258_5⟩ := at_T29 HR0.out x5_1 p258 q258
                            have hw258_5 := hx258_5
                            have hw258_4 := hx258_4
                            have hw258_3 := hx258_3
                            have hw258_2 := hx258_2
                            have hw258_1 := hx258_1
                            have hw258_0 := hx258_0
                            obtain rfl : ad253 = ad258 := (by injection e258)
                            replace hx258_0 := (HB.out.cell (World.block_lt_of_cell? w _ hx258_0)).trans hx258_0
                            replace hx258_1 := (HB.out.cell (World.block_lt_of_cell? w _ hx258_1)).trans hx258_1
                            replace hx258_2 := (HB.out.cell (World.block_lt_of_cell? w _ hx258_2)).trans hx258_2
                            replace hx258_3 := (HB.out.cell (World.block_lt_of_cell? w _ hx258_3)).trans hx258_3
                            replace hx258_4 := (HB.out.cell (World.block_lt_of_cell? w _ hx258_4)).trans hx258_4
                            replace hx258_5 := (HB.out.cell (World.block_lt_of_cell? w _ hx258_5)).trans hx258_5
                            replace p258 := eq_true p258
                            replace q258 := eq_true q258
                            refine start_ (n := 28) (S := fun w' => w'.cell? ⟨gb251, 0, none⟩ = some (.int .u64 x252000_1) ∧ w'.cell? ⟨gb251, 1, none⟩ = some (.int .u64 x252001_1) ∧ w'.cell? ⟨gb251, 2, none⟩ = some (.int .u64 x252002_1) ∧ w'.cell? ⟨gb251, 3, none⟩ = some (.bool x252003_1) ∧ w'.cell? ⟨gb251, 4, none⟩ = some (.int .u64 x252004_1) ∧ w'.cell? ⟨gb251, 5, none⟩ = some (.int .u64 x252005_1) ∧ w'.cell? ⟨gb251, 6, none⟩ = some (.int .u64 x252006_1) ∧ w'.cell? ⟨gb251, 7, none⟩ = some (.int .u64 x252007_1) ∧ w'.cell? (ad253.add ((x5_1).toNat * 6)) = some (.int .i64 ((rd_T29 l0 x5_1).f0)) ∧ w'.cell? ⟨(ad253.add ((x5_1).toNat * 6)).block, (ad253.add ((x5_1).toNat * 6)).off + 1, none⟩ = some (.int .u64 ((rd_T29 l0 x5_1).f1)) ∧ w'.cell? ⟨(ad253.add ((x5_1).toNat * 6)).block, (ad253.add ((x5_1).toNat * 6)).off + 2, none⟩ = some (.int .u64 ((rd_T29 l0 x5_1).f2)) ∧ w'.cell? ⟨(ad253.add ((x5_1).toNat * 6)).block, (ad253.add ((x5_1).toNat * 6)).off + 3, none⟩ = some (.int .u64 ((rd_T29 l0 x5_1).f3)) ∧ w'.cell? ⟨(ad253.add ((x5_1).toNat * 6)).block, (ad253.add ((x5_1).toNat * 6)).off + 4, none⟩ = some (.int .u64 ((rd_T29 l0 x5_1).f4)) ∧ w'.cell? ⟨(ad253.add ((x5_1).toNat * 6)).block, (ad253.add ((x5_1).toNat * 6)).off + 5, none⟩ = some (.bool ((rd_T29 l0 x5_1).f5)) ∧ w'.cell? (ad253.add ((x5_1).toNat * 6)) = some (.int .i64 ((rd_T29 l0 x5_1).f0)) ∧ w'.cell? ⟨(ad253.add ((x5_1).toNat * 6)).block, (ad253.add ((x5_1).toNat * 6)).off + 1, none⟩ = some (.int .u64 ((rd_T29 l0 x5_1).f1)) ∧ w'.cell? ⟨(ad253.add ((x5_1).toNat * 6)).block, (ad253.add ((x5_1).toNat * 6)).off + 2, none⟩ = some (.int .u64 ((rd_T29 l0 x5_1).f2)) ∧ w'.cell? ⟨(ad253.add ((x5_1).toNat * 6)).block, (ad253.add ((x5_1).toNat * 6)).off + 3, none⟩ = some (.int .u64 ((rd_T29 l0 x5_1).f3)) ∧ w'.cell? ⟨(ad253.add ((x5_1).toNat * 6)).block, (ad253.add ((x5_1).toNat * 6)).off + 4, none⟩ = some (.int .u64 ((rd_T29 l0 x5_1).f4)) ∧ w'.cell? ⟨(ad253.add ((x5_1).toNat * 6)).block, (ad253.add ((x5_1).toNat * 6)).off + 5, none⟩ = some (.bool ((rd_T29 l0 x5_1).f5)) ∧ w'.cell? (ad253.add ((x5_1).toNat * 6)) = some (.int .i64 ((rd_T29 l0 x5_1).f0)) ∧ w'.cell? ⟨(ad253.add ((x5_1).toNat * 6)).block, (ad253.add ((x5_1).toNat * 6)).off + 1, none⟩ = some (.int .u64 ((rd_T29 l0 x5_1).f1)) ∧ w'.cell? ⟨(ad253.add ((x5_1).toNat * 6)).block, (ad253.add ((x5_1).toNat * 6)).off + 2, none⟩ = some (.int .u64 ((rd_T29 l0 x5_1).f2)) ∧ w'.cell? ⟨(ad253.add ((x5_1).toNat * 6)).block, (ad253.add ((x5_1).toNat * 6)).off + 3, none⟩ = some (.int .u64 ((rd_T29 l0 x5_1).f3)) ∧ w'.cell? ⟨(ad253.add ((x5_1).toNat * 6)).block, (ad253.add ((x5_1).toNat * 6)).off + 4, none⟩ = some (.int .u64 ((rd_T29 l0 x5_1).f4)) ∧ w'.cell? ⟨(ad253.add ((x5_1).toNat * 6)).block, (ad253.add ((x5_1).toNat * 6)).off + 5, none⟩ = some (.bool ((rd_T29 l0 x5_1).f5)) ∧ w'.cell? (ad253.add ((x5_1).toNat * 6)) = some (.int .i64 ((rd_T29 l0 x5_1).f0)) ∧ w'.cell? ⟨(ad253.add ((x5_1).toNat * 6)).block, (ad253.add ((x5_1).toNat * 6)).off + 1, none⟩ = some (.int .u64 ((rd_T29 l0 x5_1).f1)) ∧ w'.cell? ⟨(ad253.add ((x5_1).toNat * 6)).block, (ad253.add ((x5_1).toNat * 6)).off + 2, none⟩ = some (.int .u64 ((rd_T29 l0 x5_1).f2)) ∧ w'.cell? ⟨(ad253.add ((x5_1).toNat * 6)).block, (ad253.add ((x5_1).toNat * 6)).off + 3, none⟩ = some (.int .u64 ((rd_T29 l0 x5_1).f3)) ∧ w'.cell? ⟨(ad253.add ((x5_1).toNat * 6)).block, (ad253.add ((x5_1).toNat * 6)).off + 4, none⟩ = some (.int .u64 ((rd_T29 l0 x5_1).f4)) ∧ w'.cell? ⟨(ad253.add ((x5_1).toNat * 6)).block, (ad253.add ((x5_1).toNat * 6)).off + 5, none⟩ = some (.bool ((rd_T29 l0 x5_1).f5)) ∧ w'.cell? (ad253.add ((x5_1).toNat * 6)) = some (.int .i64 ((rd_T29 l0 x5_1).f0)) ∧ w'.cell? ⟨(ad253.add ((x5_1).toNat * 6)).block, (ad253.add ((x5_1).toNat * 6)).off + 1, none⟩ = some (.int .u64 ((rd_T29 l0 x5_1).f1)) ∧ w'.cell? ⟨(ad253.add ((x5_1).toNat * 6)).block, (ad253.add ((x5_1).toNat * 6)).off + 2, none⟩ = some (.int .u64 ((rd_T29 l0 x5_1).f2)) ∧ w'.cell? ⟨(ad253.add ((x5_1).toNat * 6)).block, (ad253.add ((x5_1).toNat * 6)).off + 3, none⟩ = some (.int .u64 ((rd_T29 l0 x5_1).f3)) ∧ w'.cell? ⟨(ad253.add ((x5_1).toNat * 6)).block, (ad253.add ((x5_1).toNat * 6)).off + 4, none⟩ = some (.int .u64 ((rd_T29 l0 x5_1).f4)) ∧ w'.cell? ⟨(ad253.add ((x5_1).toNat * 6)).block, (ad253.add ((x5_1).toNat * 6)).off + 5, none⟩ = some (.bool ((rd_T29 l0 x5_1).f5))) (ds := [27]) #[false, false, false, false, false, false, false, false, false, false, false, false, false, false, false, false, false, false, false, false, false, false, false, false, false, false, false, false] (by kernel_rfl) rfl rfl ⟨(blk_cell BK251.out 0).trans rfl, (blk_cell BK251.out 1).trans rfl, (blk_cell BK251.out 2).trans rfl, (blk_cell BK251.out 3).trans rfl, (blk_cell BK251.out 4).trans rfl, (blk_cell BK251.out 5).trans rfl, (blk_cell BK251.out 6).trans rfl, (blk_cell BK251.out 7).trans rfl, ((HB.out.cell (World.block_lt_of_cell? w _ hw254_0)).trans hw254_0), ((HB.out.cell (World.block_lt_of_cell? w _ hw254_1)).trans hw254_1), ((HB.out.cell (World.block_lt_of_cell? w _ hw254_2)).trans hw254_2), ((HB.out.cell (World.block_lt_of_cell? w _ hw254_3)).trans hw254_3), ((HB.out.cell (World.block_lt_of_cell? w _ hw254_4)).trans hw254_4), ((HB.out.cell (World.block_lt_of_cell? w _ hw254_5)).trans hw254_5), ((HB.out.cell (World.block_lt_of_cell? w _ hw255_0)).trans hw255_0), ((HB.out.cell (World.block_lt_of_cell? w _ hw255_1)).trans hw255_1), ((HB.out.cell (World.block_lt_of_cell? w _ hw255_2)).trans hw255_2), ((HB.out.cell (World.block_lt_of_cell? w _ hw255_3)).trans hw255_3), ((HB.out.cell (World.block_lt_of_cell? w _ hw255_4)).trans hw255_4), ((HB.out.cell (World.block_lt_of_cell? w _ hw255_5)).trans hw255_5), ((HB.out.cell (World.block_lt_of_cell? w _ hw256_0)).trans hw256_0), ((HB.out.cell (World.block_lt_of_cell? w _ hw256_1)).trans hw256_1), ((HB.out.cell (World.block_lt_of_cell? w _ hw256_2)).trans hw256_2), ((HB.out.cell (World.block_lt_of_cell? w _ hw256_3)).trans hw256_3), ((HB.out.cell (World.block_lt_of_cell? w _ hw256_4)).trans hw256_4), ((HB.out.cell (World.block_lt_of_cell? w _ hw256_5)).trans hw256_5), ((HB.out.cell (World.block_lt_of_cell? w _ hw257_0)).trans hw257_0), ((HB.out.cell (World.block_lt_of_cell? w _ hw257_1)).trans hw257_1), ((HB.out.cell (World.block_lt_of_cell? w _ hw257_2)).trans hw257_2), ((HB.out.cell (World.block_lt_of_cell? w _ hw257_3)).trans hw257_3), ((HB.out.cell (World.block_lt_of_cell? w _ hw257_4)).trans hw257_4), ((HB.out.cell (World.block_lt_of_cell? w _ hw257_5)).trans hw257_5), ((HB.out.cell (World.block_lt_of_cell? w _ hw258_0)).trans hw258_0), ((HB.out.cell (World.block_lt_of_cell? w _ hw258_1)).trans hw258_1), ((HB.out.cell (World.block_lt_of_cell? w _ hw258_2)).trans hw258_2), ((HB.out.cell (World.block_lt_of_cell? w _ hw258_3)).trans hw258_3), ((HB.out.cell (World.block_lt_of_cell? w _ hw258_4)).trans hw258_4), ((HB.out.cell (World.block_lt_of_cell? w _ hw258_5)).trans hw258_5)⟩ (fun hHeld => ?_); refine with_tabW wigwaglaw12_CubicHolds.tab9 wigwaglaw12_CubicHolds.bits9 (fun HT_ HW_ => ?_)
                            generalize w24.drew = w25 at BK251 BK252 HB hx254_0 hx254_1 hx254_2 hx254_3 hx254_4 hx254_5 hx255_0 hx255_1 hx255_2 hx255_3 hx255_4 hx255_5 hx256_0 hx256_1 hx256_2 hx256_3 hx256_4 hx256_5 hx257_0 hx257_1 hx257_2 hx257_3 hx257_4 hx257_5 hx258_0 hx258_1 hx258_2 hx258_3 hx258_4 hx258_5 hHeld ⊢
                            refine pure_ (i := 1) (N := some 28) (v := ?_) (a' := ?_) #[false, true, false, false, false, false, false, false, false, false, false, false, false, false, false, false, false, false, false, false, false, false, false, false, false, false, false, false] rfl rfl (any_of HT_.out (by kernel_rfl)) (fun _ _ _ h => h) (Or.inl ⟨by rfl, ?_⟩) ?_ ?_
                            rotate_left
                            · intro w'
                              go_simp
                              with_reducible rfl
                            rotate_left
                            · simp only [Act.put, List.setIfInBounds_toArray, List.set_cons_zero, List.set_cons_succ, i64_w, i32_w]
                              rfl
                            refine pure_ (i := 2) (N := some 29) (v := ?_) (a' := ?_) #[false, true, true, false, false, false, false, false, false, false, false, false, false, false, false, false, false, false, false, false, false, false, false, false, false, false, false, false] rfl rfl (any_of HT_.out (by kernel_rfl)) (fun _ _ _ h => h) (Or.inl ⟨by rfl, ?_⟩) ?_ ?_
                            rotate_left
                            · intro w'
                              go_simp
                              with_reducible rfl
                            rotate_left
                            · simp only [Act.put, List.setIfInBounds_toArray, List.set_cons_zero, List.set_cons_succ, i64_w, i32_w]
                              rfl
                            refine pure_ (i := 3) (N := some 30) (v := ?_) (a' := ?_) #[false, true, true, true, false, false, false, false, false, false, false, false, false, false, false, false, false, false, false, false, false, false, false, false, false, false, false, false] rfl rfl (any_of HT_.out (by kernel_rfl)) (fun _ _ _ h => h) (Or.inl ⟨by rfl, ?_⟩) ?_ ?_
                            rotate_left
                            · intro w'
                              go_simp
                              with_reducible rfl
                            rotate_left
                            · simp only [Act.put, List.setIfInBounds_toArray, List.set_cons_zero, List.set_cons_succ, i64_w, i32_w]
                              rfl
                            refine pure_ (i := 4) (N := some 31) (v := ?_) (a' := ?_) #[false, true, true, true, true, false, false, false, false, false, false, false, false, false, false, false, false, false, false, false, false, false, false, false, false, false, false, false] rfl rfl (any_of HT_.out (by kernel_rfl)) (fun _ _ _ h => h) (Or.inl ⟨by rfl, ?_⟩) ?_ ?_
                            rotate_left
                            · intro w'
                              go_simp
                              with_reducible rfl
                            rotate_left
                            · simp only [Act.put, List.setIfInBounds_toArray, List.set_cons_zero, List.set_cons_succ, i64_w, i32_w]
                              rfl
                            refine pure_ (i := 6) (N := some 33) (v := ?_) (a' := ?_) #[false, true, true, true, true, false, true, false, false, false, false, false, false, false, false, false, false, false, false, false, false, false, false, false, false, false, false, false] rfl rfl (any_of HT_.out (by kernel_rfl)) (fun _ _ _ h => h) (Or.inl ⟨by rfl, ?_⟩) ?_ ?_
                            rotate_left
                            · intro w'
                              go_simp
                              with_reducible rfl
                            rotate_left
                            · simp only [Act.put, List.setIfInBounds_toArray, List.set_cons_zero, List.set_cons_succ, i64_w, i32_w]
                              rfl
                            refine pure_ (i := 7) (N := some 34) (v := ?_) (a' := ?_) #[false, true, true, true, true, false, true, true, false, false, false, false, false, false, false, false, false, false, false, false, false, false, false, false, false, false, false, false] rfl rfl (any_of HT_.out (by kernel_rfl)) (fun _ _ _ h => h) (Or.inl ⟨by rfl, ?_⟩) ?_ ?_
                            rotate_left
                            · intro w'
                              go_simp
                              with_reducible rfl
                            rotate_left
                            · simp only [Act.put, List.setIfInBounds_toArray, List.set_cons_zero, List.set_cons_succ, i64_w, i32_w]
                              rfl
                            refine pure_ (i := 8) (N := some 35) (v := ?_) (a' := ?_) #[false, true, true, true, true, false, true, true, true, false, false, false, false, false, false, false, false, false, false, false, false, false, false, false, false, false, false, false] rfl rfl (any_of HT_.out (by kernel_rfl)) (fun _ _ _ h => h) (Or.inl ⟨by rfl, ?_⟩) ?_ ?_
                            rotate_left
                            · intro w'
                              go_simp
                              with_reducible rfl
                            rotate_left
                            · simp only [Act.put, List.setIfInBounds_toArray, List.set_cons_zero, List.set_cons_succ, i64_w, i32_w]
                              rfl
                            refine pure_ (i := 9) (N := some 36) (v := ?_) (a' := ?_) #[false, true, true, true, true, false, true, true, true, true, false, false, false, false, false, false, false, false, false, false, false, false, false, false, false, false, false, false] rfl rfl (any_of HT_.out (by kernel_rfl)) (fun _ _ _ h => h) (Or.inl ⟨by rfl, ?_⟩) ?_ ?_
                            rotate_left
                            · intro w'
                              go_simp
                              with_reducible rfl
                            rotate_left
                            · simp only [Act.put, List.setIfInBounds_toArray, List.set_cons_zero, List.set_cons_succ, i64_w, i32_w]
                              rfl
                            refine pure_ (i := 11) (N := some 38) (v := ?_) (a' := ?_) #[false, true, true, true, true, false, true, true, true, true, false, true, false, false, false, false, false, false, false, false, false, false, false, false, false, false, false, false] rfl rfl (any_of HT_.out (by kernel_rfl)) (fun _ _ _ h => h) (Or.inl ⟨by rfl, ?_⟩) ?_ ?_
                            rotate_left
                            · intro w'
                              go_simp
                              with_reducible rfl
                            rotate_left
                            · simp only [Act.put, List.setIfInBounds_toArray, List.set_cons_zero, List.set_cons_succ, i64_w, i32_w]
                              rfl
                            refine pure_ (i := 12) (N := some 39) (v := ?_) (a' := ?_) #[false, true, true, true, true, false, true, true, true, true, false, true, true, false, false, false, false, false, false, false, false, false, false, false, false, false, false, false] rfl rfl (any_of HT_.out (by kernel_rfl)) (fun _ _ _ h => h) (Or.inl ⟨by rfl, ?_⟩) ?_ ?_
                            rotate_left
                            · intro w'
                              go_simp
                              with_reducible rfl
                            rotate_left
                            · simp only [Act.put, List.setIfInBounds_toArray, List.set_cons_zero, List.set_cons_succ, i64_w, i32_w]
                              rfl
                            refine pure_ (i := 13) (N := some 40) (v := ?_) (a' := ?_) #[false, true, true, true, true, false, true, true, true, true, false, true, true, true, false, false, false, false, false, false, false, false, false, false, false, false, false, false] rfl rfl (any_of HT_.out (by kernel_rfl)) (fun _ _ _ h => h) (Or.inl ⟨by rfl, ?_⟩) ?_ ?_
                            rotate_left
                            · intro w'
                              go_simp
                              with_reducible rfl
                            rotate_left
                            · simp only [Act.put, List.setIfInBounds_toArray, List.set_cons_zero, List.set_cons_succ, i64_w, i32_w]
                              rfl
                            refine pure_ (i := 14) (N := some 41) (v := ?_) (a' := ?_) #[false, true, true, true, true, false, true, true, true, true, false, true, true, true, true, false, false, false, false, false, false, false, false, false, false, false, false, false] rfl rfl (any_of HT_.out (by kernel_rfl)) (fun _ _ _ h => h) (Or.inl ⟨by rfl, ?_⟩) ?_ ?_
                            rotate_left
                            · intro w'
                              go_simp
                              with_reducible rfl
                            rotate_left
                            · simp only [Act.put, List.setIfInBounds_toArray, List.set_cons_zero, List.set_cons_succ, i64_w, i32_w]
                              rfl
                            refine pure_ (i := 16) (N := some 43) (v := ?_) (a' := ?_) #[false, true, true, true, true, false, true, true, true, true, false, true, true, true, true, false, true, false, false, false, false, false, false, false, false, false, false, false] rfl rfl (any_of HT_.out (by kernel_rfl)) (fun _ _ _ h => h) (Or.inl ⟨by rfl, ?_⟩) ?_ ?_
                            rotate_left
                            · intro w'
                              go_simp
                              with_reducible rfl
                            rotate_left
                            · simp only [Act.put, List.setIfInBounds_toArray, List.set_cons_zero, List.set_cons_succ, i64_w, i32_w]
                              rfl
                            refine pure_ (i := 17) (N := some 44) (v := ?_) (a' := ?_) #[false, true, true, true, true, false, true, true, true, true, false, true, true, true, true, false, true, true, false, false, false, false, false, false, false, false, false, false] rfl rfl (any_of HT_.out (by kernel_rfl)) (fun _ _ _ h => h) (Or.inl ⟨by rfl, ?_⟩) ?_ ?_
                            rotate_left
                            · intro w'
                              go_simp
                              with_reducible rfl
                            rotate_left
                            · simp only [Act.put, List.setIfInBounds_toArray, List.set_cons_zero, List.set_cons_succ, i64_w, i32_w]
                              rfl
                            refine pure_ (i := 18) (N := some 45) (v := ?_) (a' := ?_) #[false, true, true, true, true, false, true, true, true, true, false, true, true, true, true, false, true, true, true, false, false, false, false, false, false, false, false, false] rfl rfl (any_of HT_.out (by kernel_rfl)) (fun _ _ _ h => h) (Or.inl ⟨by rfl, ?_⟩) ?_ ?_
                            rotate_left
                            · intro w'
                              go_simp
                              with_reducible rfl
                            rotate_left
                            · simp only [Act.put, List.setIfInBounds_toArray, List.set_cons_zero, List.set_cons_succ, i64_w, i32_w]
                              rfl
                            refine pure_ (i := 19) (N := some 46) (v := ?_) (a' := ?_) #[false, true, true, true, true, false, true, true, true, true, false, true, true, true, true, false, true, true, true, true, false, false, false, false, false, false, false, false] rfl rfl (any_of HT_.out (by kernel_rfl)) (fun _ _ _ h => h) (Or.inl ⟨by rfl, ?_⟩) ?_ ?_
                            rotate_left
                            · intro w'
                              go_simp
                              with_reducible rfl
                            rotate_left
                            · simp only [Act.put, List.setIfInBounds_toArray, List.set_cons_zero, List.set_cons_succ, i64_w, i32_w]
                              rfl
                            refine pure_ (i := 21) (N := some 48) (v := ?_) (a' := ?_) #[false, true, true, true, true, false, true, true, true, true, false, true, true, true, true, false, true, true, true, true, false, true, false, false, false, false, false, false] rfl rfl (any_of HT_.out (by kernel_rfl)) (fun _ _ _ h => h) (Or.inl ⟨by rfl, ?_⟩) ?_ ?_
                            rotate_left
                            · intro w'
                              go_simp
                              with_reducible rfl
                            rotate_left
                            · simp only [Act.put, List.setIfInBounds_toArray, List.set_cons_zero, List.set_cons_succ, i64_w, i32_w]
                              rfl
                            refine pure_ (i := 22) (N := some 49) (v := ?_) (a' := ?_) #[false, true, true, true, true, false, true, true, true, true, false, true, true, true, true, false, true, true, true, true, false, true, true, false, false, false, false, false] rfl rfl (any_of HT_.out (by kernel_rfl)) (fun _ _ _ h => h) (Or.inl ⟨by rfl, ?_⟩) ?_ ?_
                            rotate_left
                            · intro w'
                              go_simp
                              with_reducible rfl
                            rotate_left
                            · simp only [Act.put, List.setIfInBounds_toArray, List.set_cons_zero, List.set_cons_succ, i64_w, i32_w]
                              rfl
                            refine pure_ (i := 23) (N := some 50) (v := ?_) (a' := ?_) #[false, true, true, true, true, false, true, true, true, true, false, true, true, true, true, false, true, true, true, true, false, true, true, true, false, false, false, false] rfl rfl (any_of HT_.out (by kernel_rfl)) (fun _ _ _ h => h) (Or.inl ⟨by rfl, ?_⟩) ?_ ?_
                            rotate_left
                            · intro w'
                              go_simp
                              with_reducible rfl
                            rotate_left
                            · simp only [Act.put, List.setIfInBounds_toArray, List.set_cons_zero, List.set_cons_succ, i64_w, i32_w]
                              rfl
                            refine pure_ (i := 24) (N := some 51) (v := ?_) (a' := ?_) #[false, true, true, true, true, false, true, true, true, true, false, true, true, true, true, false, true, true, true, true, false, true, true, true, true, false, false, false] rfl rfl (any_of HT_.out (by kernel_rfl)) (fun _ _ _ h => h) (Or.inl ⟨by rfl, ?_⟩) ?_ ?_
                            rotate_left
                            · intro w'
                              go_simp
                              with_reducible rfl
                            rotate_left
                            · simp only [Act.put, List.setIfInBounds_toArray, List.set_cons_zero, List.set_cons_succ, i64_w, i32_w]
                              rfl
                            refine take_ (i := 0) (N := some 27) (v := ?_) (a' := ?_) #[true, true, true, true, true, false, true, true, true, true, false, true, true, true, true, false, true, true, true, true, false, true, true, true, true, false, false, false] rfl rfl (take_ofW HT_.out HW_.out (by kernel_rfl)) (fun _ _ _ h => h) (Or.inl ⟨by rfl, ?_⟩) hHeld ?_ ?_
                            rotate_left
                            · rintro w' ⟨s0, s1, s2, s3, s4, s5, s6, s7, s8, s9, s10, s11, s12, s13, s14, s15, s16, s17, s18, s19, s20, s21, s22, s23, s24, s25, s26, s27, s28, s29, s30, s31, s32, s33, s34, s35, s36, s37⟩
                              go_simp
                              with_reducible rfl
                            rotate_left
                            · simp only [Act.put, List.setIfInBounds_toArray, List.set_cons_zero, List.set_cons_succ, i64_w, i32_w]
                              rfl
                            refine take_ (i := 5) (N := some 32) (v := ?_) (a' := ?_) #[true, true, true, true, true, true, true, true, true, true, false, true, true, true, true, false, true, true, true, true, false, true, true, true, true, false, false, false] rfl rfl (take_ofW HT_.out HW_.out (by kernel_rfl)) (fun _ _ _ h => h) (Or.inl ⟨by rfl, ?_⟩) hHeld ?_ ?_
                            rotate_left
                            · rintro w' ⟨s0, s1, s2, s3, s4, s5, s6, s7, s8, s9, s10, s11, s12, s13, s14, s15, s16, s17, s18, s19, s20, s21, s22, s23, s24, s25, s26, s27, s28, s29, s30, s31, s32, s33, s34, s35, s36, s37⟩
                              go_simp
                              with_reducible rfl
                            rotate_left
                            · simp only [Act.put, List.setIfInBounds_toArray, List.set_cons_zero, List.set_cons_succ, i64_w, i32_w]
                              rfl
                            refine take_ (i := 10) (N := some 37) (v := ?_) (a' := ?_) #[true, true, true, true, true, true, true, true, true, true, true, true, true, true, true, false, true, true, true, true, false, true, true, true, true, false, false, false] rfl rfl (take_ofW HT_.out HW_.out (by kernel_rfl)) (fun _ _ _ h => h) (Or.inl ⟨by rfl, ?_⟩) hHeld ?_ ?_
                            rotate_left
                            · rintro w' ⟨s0, s1, s2, s3, s4, s5, s6, s7, s8, s9, s10, s11, s12, s13, s14, s15, s16, s17, s18, s19, s20, s21, s22, s23, s24, s25, s26, s27, s28, s29, s30, s31, s32, s33, s34, s35, s36, s37⟩
                              go_simp
                              with_reducible rfl
                            rotate_left
                            · simp only [Act.put, List.setIfInBounds_toArray, List.set_cons_zero, List.set_cons_succ, i64_w, i32_w]
                              rfl
                            refine take_ (i := 15) (N := some 42) (v := ?_) (a' := ?_) #[true, true, true, true, true, true, true, true, true, true, true, true, true, true, true, true, true, true, true, true, false, true, true, true, true, false, false, false] rfl rfl (take_ofW HT_.out HW_.out (by kernel_rfl)) (fun _ _ _ h => h) (Or.inl ⟨by rfl, ?_⟩) hHeld ?_ ?_
                            rotate_left
                            · rintro w' ⟨s0, s1, s2, s3, s4, s5, s6, s7, s8, s9, s10, s11, s12, s13, s14, s15, s16, s17, s18, s19, s20, s21, s22, s23, s24, s25, s26, s27, s28, s29, s30, s31, s32, s33, s34, s35, s36, s37⟩
                              go_simp
                              with_reducible rfl
                            rotate_left
                            · simp only [Act.put, List.setIfInBounds_toArray, List.set_cons_zero, List.set_cons_succ, i64_w, i32_w]
                              rfl
                            refine take_ (i := 20) (N := some 47) (v := ?_) (a' := ?_) #[true, true, true, true, true, true, true, true, true, true, true, true, true, true, true, true, true, true, true, true, true, true, true, true, true, false, false, false] rfl rfl (take_ofW HT_.out HW_.out (by kernel_rfl)) (fun _ _ _ h => h) (Or.inl ⟨by rfl, ?_⟩) hHeld ?_ ?_
                            rotate_left
                            · rintro w' ⟨s0, s1, s2, s3, s4, s5, s6, s7, s8, s9, s10, s11, s12, s13, s14, s15, s16, s17, s18, s19, s20, s21, s22, s23, s24, s25, s26, s27, s28, s29, s30, s31, s32, s33, s34, s35, s36, s37⟩
                              go_simp
                              with_reducible rfl
                            rotate_left
                            · simp only [Act.put, List.setIfInBounds_toArray, List.set_cons_zero, List.set_cons_succ, i64_w, i32_w]
                              rfl
                            refine take_ (i := 25) (N := some 52) (v := ?_) (a' := ?_) #[true, true, true, true, true, true, true, true, true, true, true, true, true, true, true, true, true, true, true, true, true, true, true, true, true, true, false, false] rfl rfl (take_ofW HT_.out HW_.out (by kernel_rfl)) (fun _ _ _ h => h) (Or.inl ⟨by rfl, ?_⟩) hHeld ?_ ?_
                            rotate_left
                            · rintro w' ⟨s0, s1, s2, s3, s4, s5, s6, s7, s8, s9, s10, s11, s12, s13, s14, s15, s16, s17, s18, s19, s20, s21, s22, s23, s24, s25, s26, s27, s28, s29, s30, s31, s32, s33, s34, s35, s36, s37⟩
                              go_simp
                              with_reducible rfl
                            rotate_left
                            · simp only [Act.put, List.setIfInBounds_toArray, List.set_cons_zero, List.set_cons_succ, i64_w, i32_w]
                              rfl
                            refine one_ (i := 26) (N := some 53) #[true, true, true, true, true, true, true, true, true, true, true, true, true, true, true, true, true, true, true, true, true, true, true, true, true, true, true, false] rfl rfl (one_of HT_.out (by kernel_rfl)) (by decide) (fun K hK => ?_)
                            refine goes_ Try.func9 (by kernel_rfl) rfl #[.agg #[.int .u64 x252000_1, .int .u64 x252001_1, .int .u64 x252002_1, .bool x252003_1, .int .u64 x252004_1, .int .u64 x252005_1, .int .u64 x252006_1, .int .u64 x252007_1], .int .u64 ((rd_T29 l0 x5_1).f1), .int .u64 ((rd_T29 l0 x5_1).f2), .int .u64 ((rd_T29 l0 x5_1).f3), .int .u64 ((rd_T29 l0 x5_1).f4), .bool ((rd_T29 l0 x5_1).f5)] (by rfl) rfl rfl (by (try simp only [List.map_toArray, List.map_cons, List.map_nil]); first | done | rfl | (simp only [List.length_drop, List.length_take]; rfl)) ?_
                            with_reducible refine (cubic_Ack.calls x252000_1 x252001_1 x252002_1 x252003_1 x252004_1 x252005_1 x252006_1 x252007_1 ((rd_T29 l0 x5_1).f1) ((rd_T29 l0 x5_1).f2) ((rd_T29 l0 x5_1).f3) ((rd_T29 l0 x5_1).f4) ((rd_T29 l0 x5_1).f5) t259 t260 t261 t262 t263 t264 t265 t266 _ A12.out).mono ?_
                            rintro e w26 ⟨rfl, hb⟩
                            refine ⟨_, rfl, ?_⟩
                            have n0_ := Aside0.mk (blk_below (g := gb251) (o := .cells #[.int .u64 x252000_1, .int .u64 x252001_1, .int .u64 x252002_1, .bool x252003_1, .int .u64 x252004_1, .int .u64 x252005_1, .int .u64 x252006_1, .int .u64 x252007_1] 26 (0, 0)) (by (with_reducible repeat (first | refine blk_drewN ?_ _ | refine blk_drew ?_ | refine blk_alloc ?_ _)); exact BK251.out) hb)
                            have n1_ := Aside0.mk (blk_below (g := gb252) (o := .cells #[.int .u64 x252000_1, .int .u64 x252001_1, .int .u64 x252002_1, .bool x252003_1, .int .u64 x252004_1, .int .u64 x252005_1, .int .u64 x252006_1, .int .u64 x252007_1] 26 (0, 0)) (by (with_reducible repeat (first | refine blk_drewN ?_ _ | refine blk_drew ?_ | refine blk_alloc ?_ _)); exact BK252.out) hb)
                            have n2_ := Aside0.mk (below_step (by repeat (first | (with_reducible first | exact HB.out | apply below_alloc | apply pw_below_drewN | apply below_drew1 | refine below_set ?_ GE251.out | refine below_set ?_ GE252.out) | exact HB.out)) hb)
                            clear BK251
                            clear BK252
                            clear HB
                            have BK251 := n0_
                            have BK252 := n1_
                            have HB := n2_
                            clear n0_ n1_ n2_
                            (try clear hb)
                            (try clear hb2)
                            (try clear hk)
                            (try clear hi)
                            refine hK.out _ _ ⟨(blk_cell BK251.out 0).trans rfl, (blk_cell BK251.out 1).trans rfl, (blk_cell BK251.out 2).trans rfl, (blk_cell BK251.out 3).trans rfl, (blk_cell BK251.out 4).trans rfl, (blk_cell BK251.out 5).trans rfl, (blk_cell BK251.out 6).trans rfl, (blk_cell BK251.out 7).trans rfl, ((HB.out.cell (World.block_lt_of_cell? w _ hw254_0)).trans hw254_0), ((HB.out.cell (World.block_lt_of_cell? w _ hw254_1)).trans hw254_1), ((HB.out.cell (World.block_lt_of_cell? w _ hw254_2)).trans hw254_2), ((HB.out.cell (World.block_lt_of_cell? w _ hw254_3)).trans hw254_3), ((HB.out.cell (World.block_lt_of_cell? w _ hw254_4)).trans hw254_4), ((HB.out.cell (World.block_lt_of_cell? w _ hw254_5)).trans hw254_5), ((HB.out.cell (World.block_lt_of_cell? w _ hw255_0)).trans hw255_0), ((HB.out.cell (World.block_lt_of_cell? w _ hw255_1)).trans hw255_1), ((HB.out.cell (World.block_lt_of_cell? w _ hw255_2)).trans hw255_2), ((HB.out.cell (World.block_lt_of_cell? w _ hw255_3)).trans hw255_3), ((HB.out.cell (World.block_lt_of_cell? w _ hw255_4)).trans hw255_4), ((HB.out.cell (World.block_lt_of_cell? w _ hw255_5)).trans hw255_5), ((HB.out.cell (World.block_lt_of_cell? w _ hw256_0)).trans hw256_0), ((HB.out.cell (World.block_lt_of_cell? w _ hw256_1)).trans hw256_1), ((HB.out.cell (World.block_lt_of_cell? w _ hw256_2)).trans hw256_2), ((HB.out.cell (World.block_lt_of_cell? w _ hw256_3)).trans hw256_3), ((HB.out.cell (World.block_lt_of_cell? w _ hw256_4)).trans hw256_4), ((HB.out.cell (World.block_lt_of_cell? w _ hw256_5)).trans hw256_5), ((HB.out.cell (World.block_lt_of_cell? w _ hw257_0)).trans hw257_0), ((HB.out.cell (World.block_lt_of_cell? w _ hw257_1)).trans hw257_1), ((HB.out.cell (World.block_lt_of_cell? w _ hw257_2)).trans hw257_2), ((HB.out.cell (World.block_lt_of_cell? w _ hw257_3)).trans hw257_3), ((HB.out.cell (World.block_lt_of_cell? w _ hw257_4)).trans hw257_4), ((HB.out.cell (World.block_lt_of_cell? w _ hw257_5)).trans hw257_5), ((HB.out.cell (World.block_lt_of_cell? w _ hw258_0)).trans hw258_0), ((HB.out.cell (World.block_lt_of_cell? w _ hw258_1)).trans hw258_1), ((HB.out.cell (World.block_lt_of_cell? w _ hw258_2)).trans hw258_2), ((HB.out.cell (World.block_lt_of_cell? w _ hw258_3)).trans hw258_3), ((HB.out.cell (World.block_lt_of_cell? w _ hw258_4)).trans hw258_4), ((HB.out.cell (World.block_lt_of_cell? w _ hw258_5)).trans hw258_5)⟩ (fun hHeld => ?_)
                            clear hK K
                            refine norm_ (a' := ?_) ?_ ?_
                            rotate_left
                            · show Act.put _ (some 53) _ = _
                              simp only [Act.put, List.setIfInBounds_toArray, List.set_cons_zero, List.set_cons_succ, i64_w, i32_w]
                              rfl
                            refine last_ (i := 27) (N := none) #[true, true, true, true, true, true, true, true, true, true, true, true, true, true, true, true, true, true, true, true, true, true, true, true, true, true, true, true] rfl rfl (one_of HT_.out (by kernel_rfl)) (by decide) (fun K hK => ?_)
                            have hs27 : w26.cell? ⟨gb251, 0, none⟩ = some (.int .u64 x252000_1) := (blk_cell BK251.out 0).trans rfl
                            have hfs27 := blk_frozen BK251.out 0
                            have hns27_1 := NB252_251.out
                            have hms27_1 := NB251_252.out
                            have hs28 : w26.cell? ⟨gb251, 1, none⟩ = some (.int .u64 x252001_1) := (blk_cell BK251.out 1).trans rfl
                            have hfs28 := blk_frozen BK251.out 1
                            have hns28_1 := NB252_251.out
                            have hms28_1 := NB251_252.out
                            have hs29 : w26.cell? ⟨gb251, 2, none⟩ = some (.int .u64 x252002_1) := (blk_cell BK251.out 2).trans rfl
                            have hfs29 := blk_frozen BK251.out 2
                            have hns29_1 := NB252_251.out
                            have hms29_1 := NB251_252.out
                            have hs30 : w26.cell? ⟨gb251, 3, none⟩ = some (.bool x252003_1) := (blk_cell BK251.out 3).trans rfl
                            have hfs30 := blk_frozen BK251.out 3
                            have hns30_1 := NB252_251.out
                            have hms30_1 := NB251_252.out
                            have hs31 : w26.cell? ⟨gb251, 4, none⟩ = some (.int .u64 x252004_1) := (blk_cell BK251.out 4).trans rfl
                            have hfs31 := blk_frozen BK251.out 4
                            have hns31_1 := NB252_251.out
                            have hms31_1 := NB251_252.out
                            have hs32 : w26.cell? ⟨gb251, 5, none⟩ = some (.int .u64 x252005_1) := (blk_cell BK251.out 5).trans rfl
                            have hfs32 := blk_frozen BK251.out 5
                            have hns32_1 := NB252_251.out
                            have hms32_1 := NB251_252.out
                            have hs33 : w26.cell? ⟨gb251, 6, none⟩ = some (.int .u64 x252006_1) := (blk_cell BK251.out 6).trans rfl
                            have hfs33 := blk_frozen BK251.out 6
                            have hns33_1 := NB252_251.out
                            have hms33_1 := NB251_252.out
                            have hs34 : w26.cell? ⟨gb251, 7, none⟩ = some (.int .u64 x252007_1) := (blk_cell BK251.out 7).trans rfl
                            have hfs34 := blk_frozen BK251.out 7
                            have hns34_1 := NB252_251.out
                            have hms34_1 := NB251_252.out
                            refine skip_ (w1 := ?_) (by rfl) rfl ?_ ?_
                            rotate_left
                            · go_simp
                              rfl
                            refine hK.out _ _ ?_
                            clear hK K
                            refine done_ (done_of HT_.out (by kernel_rfl)) ?_
                            have hcz35_0 : w26.cell? ⟨gb251, 0, none⟩ = some (.int .u64 x252000_1) := (blk_cell BK251.out 0).trans rfl
                            have hcz35_1 : w26.cell? ⟨gb251, 1, none⟩ = some (.int .u64 x252001_1) := (blk_cell BK251.out 1).trans rfl
                            have hcz35_2 : w26.cell? ⟨gb251, 2, none⟩ = some (.int .u64 x252002_1) := (blk_cell BK251.out 2).trans rfl
                            have hcz35_3 : w26.cell? ⟨gb251, 3, none⟩ = some (.bool x252003_1) := (blk_cell BK251.out 3).trans rfl
                            have hcz35_4 : w26.cell? ⟨gb251, 4, none⟩ = some (.int .u64 x252004_1) := (blk_cell BK251.out 4).trans rfl
                            have hcz35_5 : w26.cell? ⟨gb251, 5, none⟩ = some (.int .u64 x252005_1) := (blk_cell BK251.out 5).trans rfl
                            have hcz35_6 : w26.cell? ⟨gb251, 6, none⟩ = some (.int .u64 x252006_1) := (blk_cell BK251.out 6).trans rfl
                            have hcz35_7 : w26.cell? ⟨gb251, 7, none⟩ = some (.int .u64 x252007_1) := (blk_cell BK251.out 7).trans rfl
                            have hfz35_0 := blk_frozen BK251.out 0
                            have hfz35_1 := blk_frozen BK251.out 1
                            have hfz35_2 := blk_frozen BK251.out 2
                            have hfz35_3 := blk_frozen BK251.out 3
                            have hfz35_4 := blk_frozen BK251.out 4
                            have hfz35_5 := blk_frozen BK251.out 5
                            have hfz35_6 := blk_frozen BK251.out 6
                            have hfz35_7 := blk_frozen BK251.out 7
                            have hcz36_0 : w26.cell? ⟨gb252, 0, none⟩ = some (.int .u64 x252000_1) := (blk_cell BK252.out 0).trans rfl
                            have hcz36_1 : w26.cell? ⟨gb252, 1, none⟩ = some (.int .u64 x252001_1) := (blk_cell BK252.out 1).trans rfl
                            have hcz36_2 : w26.cell? ⟨gb252, 2, none⟩ = some (.int .u64 x252002_1) := (blk_cell BK252.out 2).trans rfl
                            have hcz36_3 : w26.cell? ⟨gb252, 3, none⟩ = some (.bool x252003_1) := (blk_cell BK252.out 3).trans rfl
                            have hcz36_4 : w26.cell? ⟨gb252, 4, none⟩ = some (.int .u64 x252004_1) := (blk_cell BK252.out 4).trans rfl
                            have hcz36_5 : w26.cell? ⟨gb252, 5, none⟩ = some (.int .u64 x252005_1) := (blk_cell BK252.out 5).trans rfl
                            have hcz36_6 : w26.cell? ⟨gb252, 6, none⟩ = some (.int .u64 x252006_1) := (blk_cell BK252.out 6).trans rfl
                            have hcz36_7 : w26.cell? ⟨gb252, 7, none⟩ = some (.int .u64 x252007_1) := (blk_cell BK252.out 7).trans rfl
                            have hfz36_0 := blk_frozen BK252.out 0
                            have hfz36_1 := blk_frozen BK252.out 1
                            have hfz36_2 := blk_frozen BK252.out 2
                            have hfz36_3 := blk_frozen BK252.out 3
                            have hfz36_4 := blk_frozen BK252.out 4
                            have hfz36_5 := blk_frozen BK252.out 5
                            have hfz36_6 := blk_frozen BK252.out 6
                            have hfz36_7 := blk_frozen BK252.out 7
                            try go_wp2
                            go_roundg k1
                            case measure => have := HK1.out; omega
                            case rel => exact ⟨(wrap64 (x5_1 + 1)), (t259), (t260), (t261), (t262), (t263), (t264), (t265), (t266), (by first | rfl | (simp; done) | (simp [*]; done)), H', ⟨by have := HK1.out; omega⟩, ⟨by (with_reducible repeat (first | refine blk_drewN ?_ _ | refine blk_drew ?_ | refine blk_alloc ?_ _)); refine blk_put (cs := #[.int .u64 t259, .int .u64 t260, .int .u64 t261, .bool t262, .int .u64 t263, .int .u64 t264, .int .u64 t265, .int .u64 x252007_1]) ?_ 7 _ rfl; (with_reducible repeat (first | refine blk_drewN ?_ _ | refine blk_drew ?_ | refine blk_alloc ?_ _)); refine blk_put (cs := #[.int .u64 t259, .int .u64 t260, .int .u64 t261, .bool t262, .int .u64 t263, .int .u64 t264, .int .u64 x252006_1, .int .u64 x252007_1]) ?_ 6 _ rfl; (with_reducible repeat (first | refine blk_drewN ?_ _ | refine blk_drew ?_ | refine blk_alloc ?_ _)); refine blk_put (cs := #[.int .u64 t259, .int .u64 t260, .int .u64 t261, .bool t262, .int .u64 t263, .int .u64 x252005_1, .int .u64 x252006_1, .int .u64 x252007_1]) ?_ 5 _ rfl; (with_reducible repeat (first | refine blk_drewN ?_ _ | refine blk_drew ?_ | refine blk_alloc ?_ _)); refine blk_put (cs := #[.int .u64 t259, .int .u64 t260, .int .u64 t261, .bool t262, .int .u64 x252004_1, .int .u64 x252005_1, .int .u64 x252006_1, .int .u64 x252007_1]) ?_ 4 _ rfl; (with_reducible repeat (first | refine blk_drewN ?_ _ | refine blk_drew ?_ | refine blk_alloc ?_ _)); refine blk_put (cs := #[.int .u64 t259, .int .u64 t260, .int .u64 t261, .bool x252003_1, .int .u64 x252004_1, .int .u64 x252005_1, .int .u64 x252006_1, .int .u64 x252007_1]) ?_ 3 _ rfl; (with_reducible repeat (first | refine blk_drewN ?_ _ | refine blk_drew ?_ | refine blk_alloc ?_ _)); refine blk_put (cs := #[.int .u64 t259, .int .u64 t260, .int .u64 x252002_1, .bool x252003_1, .int .u64 x252004_1, .int .u64 x252005_1, .int .u64 x252006_1, .int .u64 x252007_1]) ?_ 2 _ rfl; (with_reducible repeat (first | refine blk_drewN ?_ _ | refine blk_drew ?_ | refine blk_alloc ?_ _)); refine blk_put (cs := #[.int .u64 t259, .int .u64 x252001_1, .int .u64 x252002_1, .bool x252003_1, .int .u64 x252004_1, .int .u64 x252005_1, .int .u64 x252006_1, .int .u64 x252007_1]) ?_ 1 _ rfl; (with_reducible repeat (first | refine blk_drewN ?_ _ | refine blk_drew ?_ | refine blk_alloc ?_ _)); refine blk_put (cs := #[.int .u64 x252000_1, .int .u64 x252001_1, .int .u64 x252002_1, .bool x252003_1, .int .u64 x252004_1, .int .u64 x252005_1, .int .u64 x252006_1, .int .u64 x252007_1]) ?_ 0 _ rfl; (with_reducible repeat (first | refine blk_drewN ?_ _ | refine blk_drew ?_ | refine blk_alloc ?_ _)); exact BK251.out⟩, ⟨by repeat (first | (with_reducible first | exact HB.out | apply below_alloc | apply pw_below_drewN | apply below_drew1 | refine below_set ?_ GE251.out | refine below_set ?_ GE252.out) | exact HB.out)⟩⟩
                  · rw [if_neg c15] at H
                    exact absurd H (by simp)
                · rw [if_neg c14] at H
                  exact absurd H (by simp)
            · rw [if_neg c11] at H
              have c11b0 : (((rd_T29 l0 x5_1).f0) == 1) = false := beq_eq_false_iff_ne.mpr c11
              have c11b1 : (((rd_T29 l0 x5_1).f0) != 1) = true := bne_iff_ne.mpr c11
              by_cases c37 : ((rd_T29 l0 x5_1).f0) = 2
              · rw [if_pos c37] at H
                have c37b0 : (((rd_T29 l0 x5_1).f0) == 2) = true := beq_iff_eq.mpr c37
                have c37b1 : (((rd_T29 l0 x5_1).f0) != 2) = false := bne_eq_false_iff_eq.mpr c37
                clear c37
                replace H := Option.bind_eq_some_iff.mp H
                obtain ⟨⟨t269, t270, t271, t272, t273, t274, t275, t276⟩, A380, H⟩ := H
                replace H : (if t269 > x252000_1 then (none) else (if t269 < 2400 then (none) else (if t269 > 16777216 then (none) else (if t270 < 2400 then (none) else (if t270 > 16777216 then (none) else (wigwaglaw12_CubicHolds.l0 k1 l0 t242 (wrap64 (x5_1 + 1)) t269 t270 t271 t272 t273 t274 t275 t276)))))) = some r := H
                have A38 := Aside0.mk A380
                clear A380
                by_cases c39 : t269 > x252000_1
                · rw [if_pos c39] at H
                  exact absurd H (by simp)
                · rw [if_neg c39] at H
                  have c39b0 : decide (x252000_1 < t269) = false := decide_eq_false c39
                  clear c39
                  by_cases c40 : t269 < 2400
                  · rw [if_pos c40] at H
                    exact absurd H (by simp)
                  · rw [if_neg c40] at H
                    have c40b0 : decide (t269 < 2400) = false := decide_eq_false c40
                    clear c40
                    by_cases c41 : t269 > 16777216
                    · rw [if_pos c41] at H
                      exact absurd H (by simp)
                    · rw [if_neg c41] at H
                      have c41b0 : decide (16777216 < t269) = false := decide_eq_false c41
                      clear c41
                      by_cases c42 : t270 < 2400
                      · rw [if_pos c42] at H
                        exact absurd H (by simp)
                      · rw [if_neg c42] at H
                        have c42b0 : decide (t270 < 2400) = false := decide_eq_false c42
                        clear c42
                        by_cases c43 : t270 > 16777216
                        · rw [if_pos c43] at H
                          exact absurd H (by simp)
                        · rw [if_neg c43] at H
                          have c43b0 : decide (16777216 < t270) = false := decide_eq_false c43
                          clear c43
                          have H' := Aside0.mk H
                          clear H
                          have hcz44_0 : wr.cell? ⟨gb251, 0, none⟩ = some (.int .u64 x252000_1) := (blk_cell BK251.out 0).trans rfl
                          have hcz44_1 : wr.cell? ⟨gb251, 1, none⟩ = some (.int .u64 x252001_1) := (blk_cell BK251.out 1).trans rfl
                          have hcz44_2 : wr.cell? ⟨gb251, 2, none⟩ = some (.int .u64 x252002_1) := (blk_cell BK251.out 2).trans rfl
                          have hcz44_3 : wr.cell? ⟨gb251, 3, none⟩ = some (.bool x252003_1) := (blk_cell BK251.out 3).trans rfl
                          have hcz44_4 : wr.cell? ⟨gb251, 4, none⟩ = some (.int .u64 x252004_1) := (blk_cell BK251.out 4).trans rfl
                          have hcz44_5 : wr.cell? ⟨gb251, 5, none⟩ = some (.int .u64 x252005_1) := (blk_cell BK251.out 5).trans rfl
                          have hcz44_6 : wr.cell? ⟨gb251, 6, none⟩ = some (.int .u64 x252006_1) := (blk_cell BK251.out 6).trans rfl
                          have hcz44_7 : wr.cell? ⟨gb251, 7, none⟩ = some (.int .u64 x252007_1) := (blk_cell BK251.out 7).trans rfl
                          have hfz44_0 := blk_frozen BK251.out 0
                          have hfz44_1 := blk_frozen BK251.out 1
                          have hfz44_2 := blk_frozen BK251.out 2
                          have hfz44_3 := blk_frozen BK251.out 3
                          have hfz44_4 := blk_frozen BK251.out 4
                          have hfz44_5 := blk_frozen BK251.out 5
                          have hfz44_6 := blk_frozen BK251.out 6
                          have hfz44_7 := blk_frozen BK251.out 7
                          try go_wp2_with (first | ((with_reducible refine gate_dst (N := 6) rfl ?_); refine box_event ?hg (N := 6) ?hd (cs := #[.int .u64 0, .int .u64 0, .int .u64 0, .bool false, .int .u64 0, .int .u64 0, .int .u64 0, .int .u64 0]) (t := 26) ?hr ?_; (case hd => rfl); (case hg => rfl); (case hr => first | (go_simp; done) | (go_simp; rfl)); intro gb252 hg w45 hbox hb; have n0_ := Aside0.mk (blk_below (g := gb251) (o := .cells #[.int .u64 x252000_1, .int .u64 x252001_1, .int .u64 x252002_1, .bool x252003_1, .int .u64 x252004_1, .int .u64 x252005_1, .int .u64 x252006_1, .int .u64 x252007_1] 26 (0, 0)) (by (with_reducible repeat (first | refine blk_drewN ?_ _ | refine blk_drew ?_ | refine blk_alloc ?_ _)); exact BK251.out) hb); have n1_ := Aside0.mk (below_step (by repeat (first | (with_reducible first | exact HB.out | apply below_alloc | apply pw_below_drewN | apply below_drew1 | refine below_set ?_ GE251.out) | exact HB.out)) hb); have n2_ := Aside0.mk (hbox); have n3_ := Aside0.mk ((by rw [hg]; exact (below_size (by repeat (first | (with_reducible first | exact HB.out | apply below_alloc | apply pw_below_drewN | apply below_drew1 | refine below_set ?_ GE251.out) | exact HB.out))) : w.heap.size ≤ gb252)); have n4_ := Aside0.mk ((by rw [hg]; exact (below_size (by repeat (first | (with_reducible first | exact HB.out | apply below_alloc | apply pw_below_drewN | apply below_drew1 | refine below_set ?_ GE251.out) | exact HB.out))) : w.heap.size ≤ gb252)); have n5_ := Aside0.mk ((by rw [hg]; exact Nat.ne_of_lt (blk_lt (g := gb251) (o := .cells #[.int .u64 x252000_1, .int .u64 x252001_1, .int .u64 x252002_1, .bool x252003_1, .int .u64 x252004_1, .int .u64 x252005_1, .int .u64 x252006_1, .int .u64 x252007_1] 26 (0, 0)) (by (with_reducible repeat (first | refine blk_drewN ?_ _ | refine blk_drew ?_ | refine blk_alloc ?_ _)); exact BK251.out)) : gb251 ≠ gb252)); have n6_ := Aside0.mk ((by rw [hg]; exact Nat.ne_of_gt (blk_lt (g := gb251) (o := .cells #[.int .u64 x252000_1, .int .u64 x252001_1, .int .u64 x252002_1, .bool x252003_1, .int .u64 x252004_1, .int .u64 x252005_1, .int .u64 x252006_1, .int .u64 x252007_1] 26 (0, 0)) (by (with_reducible repeat (first | refine blk_drewN ?_ _ | refine blk_drew ?_ | refine blk_alloc ?_ _)); exact BK251.out)) : gb252 ≠ gb251)); clear BK251; clear HB; have BK251 := n0_; have HB := n1_; have BK252 := n2_; have GW252 := n3_; have GE252 := n4_; have NB251_252 := n5_; have NB252_251 := n6_; clear n0_ n1_ n2_ n3_ n4_ n5_ n6_; clear hb hbox hg; have hnb46 := NB252_251.out; have hnc46 := NB251_252.out; have hcz47_0 : w45.cell? ⟨gb252, 0, none⟩ = some (.int .u64 0) := (blk_cell BK252.out 0).trans rfl; have hcz47_1 : w45.cell? ⟨gb252, 1, none⟩ = some (.int .u64 0) := (blk_cell BK252.out 1).trans rfl; have hcz47_2 : w45.cell? ⟨gb252, 2, none⟩ = some (.int .u64 0) := (blk_cell BK252.out 2).trans rfl; have hcz47_3 : w45.cell? ⟨gb252, 3, none⟩ = some (.bool false) := (blk_cell BK252.out 3).trans rfl; have hcz47_4 : w45.cell? ⟨gb252, 4, none⟩ = some (.int .u64 0) := (blk_cell BK252.out 4).trans rfl; have hcz47_5 : w45.cell? ⟨gb252, 5, none⟩ = some (.int .u64 0) := (blk_cell BK252.out 5).trans rfl; have hcz47_6 : w45.cell? ⟨gb252, 6, none⟩ = some (.int .u64 0) := (blk_cell BK252.out 6).trans rfl; have hcz47_7 : w45.cell? ⟨gb252, 7, none⟩ = some (.int .u64 0) := (blk_cell BK252.out 7).trans rfl; have hfz47_0 := blk_frozen BK252.out 0; have hfz47_1 := blk_frozen BK252.out 1; have hfz47_2 := blk_frozen BK252.out 2; have hfz47_3 := blk_frozen BK252.out 3; have hfz47_4 := blk_frozen BK252.out 4; have hfz47_5 := blk_frozen BK252.out 5; have hfz47_6 := blk_frozen BK252.out 6; have hfz47_7 := blk_frozen BK252.out 7; have p253 : 0 ≤ (x5_1 : Int) := of_decide_eq_true (by first | (with_reducible assumption) | assumption); have q253 : x5_1 < (l0.length : Int) := of_decide_eq_true (by first | (with_reducible assumption) | assumption); obtain ⟨ad253, e253, hx253_0, hx253_1, hx253_2, hx253_3, hx253_4, hx253_5⟩ := at_T29 HR0.out x5_1 p253 q253; cases e253; have hn253_0 : ad253.block ≠ gb252 := Nat.ne_of_lt (Nat.lt_of_lt_of_le (by have := World.block_lt_of_cell? _ _ hx253_0; first | rwa [add_block] at this | exact this) GW252.out); have hn253_1 : ad253.block ≠ gb252 := Nat.ne_of_lt (Nat.lt_of_lt_of_le (by have := World.block_lt_of_cell? _ _ hx253_0; first | rwa [add_block] at this | exact this) GW252.out); have hn253_2 : ad253.block ≠ gb252 := Nat.ne_of_lt (Nat.lt_of_lt_of_le (by have := World.block_lt_of_cell? _ _ hx253_0; first | rwa [add_block] at this | exact this) GW252.out); have hn253_3 : ad253.block ≠ gb252 := Nat.ne_of_lt (Nat.lt_of_lt_of_le (by have := World.block_lt_of_cell? _ _ hx253_0; first | rwa [add_block] at this | exact this) GW252.out); have hn253_4 : ad253.block ≠ gb252 := Nat.ne_of_lt (Nat.lt_of_lt_of_le (by have := World.block_lt_of_cell? _ _ hx253_0; first | rwa [add_block] at this | exact this) GW252.out); have hn253_5 : ad253.block ≠ gb252 := Nat.ne_of_lt (Nat.lt_of_lt_of_le (by have := World.block_lt_of_cell? _ _ hx253_0; first | rwa [add_block] at this | exact this) GW252.out); have hn253_6 : ad253.block ≠ gb252 := Nat.ne_of_lt (Nat.lt_of_lt_of_le (by have := World.block_lt_of_cell? _ _ hx253_0; first | rwa [add_block] at this | exact this) GW252.out); have hn253_7 : ad253.block ≠ gb252 := Nat.ne_of_lt (Nat.lt_of_lt_of_le (by have := World.block_lt_of_cell? _ _ hx253_0; first | rwa [add_block] at this | exact this) GW252.out); replace hx253_0 := (HB.out.cell (World.block_lt_of_cell? w _ hx253_0)).trans hx253_0; replace hx253_1 := (HB.out.cell (World.block_lt_of_cell? w _ hx253_1)).trans hx253_1; replace hx253_2 := (HB.out.cell (World.block_lt_of_cell? w _ hx253_2)).trans hx253_2; replace hx253_3 := (HB.out.cell (World.block_lt_of_cell? w _ hx253_3)).trans hx253_3; replace hx253_4 := (HB.out.cell (World.block_lt_of_cell? w _ hx253_4)).trans hx253_4; replace hx253_5 := (HB.out.cell (World.block_lt_of_cell? w _ hx253_5)).trans hx253_5; replace hx253_0 := (cell_far (p := ⟨gb252, 0, none⟩) (by first | (rw [add_block]; exact hn253_0) | (show (Addr.add _ _).block ≠ _; rw [add_block]; exact hn253_0) | exact hn253_0) (.int .u64 x252000_1)).trans hx253_0; replace hx253_1 := (cell_far (p := ⟨gb252, 0, none⟩) (by first | (rw [add_block]; exact hn253_0) | (show (Addr.add _ _).block ≠ _; rw [add_block]; exact hn253_0) | exact hn253_0) (.int .u64 x252000_1)).trans hx253_1; replace hx253_2 := (cell_far (p := ⟨gb252, 0, none⟩) (by first | (rw [add_block]; exact hn253_0) | (show (Addr.add _ _).block ≠ _; rw [add_block]; exact hn253_0) | exact hn253_0) (.int .u64 x252000_1)).trans hx253_2; replace hx253_3 := (cell_far (p := ⟨gb252, 0, none⟩) (by first | (rw [add_block]; exact hn253_0) | (show (Addr.add _ _).block ≠ _; rw [add_block]; exact hn253_0) | exact hn253_0) (.int .u64 x252000_1)).trans hx253_3; replace hx253_4 := (cell_far (p := ⟨gb252, 0, none⟩) (by first | (rw [add_block]; exact hn253_0) | (show (Addr.add _ _).block ≠ _; rw [add_block]; exact hn253_0) | exact hn253_0) (.int .u64 x252000_1)).trans hx253_4; replace hx253_5 := (cell_far (p := ⟨gb252, 0, none⟩) (by first | (rw [add_block]; exact hn253_0) | (show (Addr.add _ _).block ≠ _; rw [add_block]; exact hn253_0) | exact hn253_0) (.int .u64 x252000_1)).trans hx253_5; replace hx253_0 := (cell_far (p := ⟨gb252, 1, none⟩) (by first | (rw [add_block]; exact hn253_1) | (show (Addr.add _ _).block ≠ _; rw [add_block]; exact hn253_1) | exact hn253_1) (.int .u64 x252001_1)).trans hx253_0; replace hx253_1 := (cell_far (p := ⟨gb252, 1, none⟩) (by first | (rw [add_block]; exact hn253_1) | (show (Addr.add _ _).block ≠ _; rw [add_block]; exact hn253_1) | exact hn253_1) (.int .u64 x252001_1)).trans hx253_1; replace hx253_2 := (cell_far (p := ⟨gb252, 1, none⟩) (by first | (rw [add_block]; exact hn253_1) | (show (Addr.add _ _).block ≠ _; rw [add_block]; exact hn253_1) | exact hn253_1) (.int .u64 x252001_1)).trans hx253_2; replace hx253_3 := (cell_far (p := ⟨gb252, 1, none⟩) (by first | (rw [add_block]; exact hn253_1) | (show (Addr.add _ _).block ≠ _; rw [add_block]; exact hn253_1) | exact hn253_1) (.int .u64 x252001_1)).trans hx253_3; replace hx253_4 := (cell_far (p := ⟨gb252, 1, none⟩) (by first | (rw [add_block]; exact hn253_1) | (show (Addr.add _ _).block ≠ _; rw [add_block]; exact hn253_1) | exact hn253_1) (.int .u64 x252001_1)).trans hx253_4; replace hx253_5 := (cell_far (p := ⟨gb252, 1, none⟩) (by first | (rw [add_block]; exact hn253_1) | (show (Addr.add _ _).block ≠ _; rw [add_block]; exact hn253_1) | exact hn253_1) (.int .u64 x252001_1)).trans hx253_5; replace hx253_0 := (cell_far (p := ⟨gb252, 2, none⟩) (by first | (rw [add_block]; exact hn253_2) | (show (Addr.add _ _).block ≠ _; rw [add_block]; exact hn253_2) | exact hn253_2) (.int .u64 x252002_1)).trans hx253_0; replace hx253_1 := (cell_far (p := ⟨gb252, 2, none⟩) (by first | (rw [add_block]; exact hn253_2) | (show (Addr.add _ _).block ≠ _; rw [add_block]; exact hn253_2) | exact hn253_2) (.int .u64 x252002_1)).trans hx253_1; replace hx253_2 := (cell_far (p := ⟨gb252, 2, none⟩) (by first | (rw [add_block]; exact hn253_2) | (show (Addr.add _ _).block ≠ _; rw [add_block]; exact hn253_2) | exact hn253_2) (.int .u64 x252002_1)).trans hx253_2; replace hx253_3 := (cell_far (p := ⟨gb252, 2, none⟩) (by first | (rw [add_block]; exact hn253_2) | (show (Addr.add _ _).block ≠ _; rw [add_block]; exact hn253_2) | exact hn253_2) (.int .u64 x252002_1)).trans hx253_3; replace hx253_4 := (cell_far (p := ⟨gb252, 2, none⟩) (by first | (rw [add_block]; exact hn253_2) | (show (Addr.add _ _).block ≠ _; rw [add_block]; exact hn253_2) | exact hn253_2) (.int .u64 x252002_1)).trans hx253_4; replace hx253_5 := (cell_far (p := ⟨gb252, 2, none⟩) (by first | (rw [add_block]; exact hn253_2) | (show (Addr.add _ _).block ≠ _; rw [add_block]; exact hn253_2) | exact hn253_2) (.int .u64 x252002_1)).trans hx253_5; replace hx253_0 := (cell_far (p := ⟨gb252, 3, none⟩) (by first | (rw [add_block]; exact hn253_3) | (show (Addr.add _ _).block ≠ _; rw [add_block]; exact hn253_3) | exact hn253_3) (.bool x252003_1)).trans hx253_0; replace hx253_1 := (cell_far (p := ⟨gb252, 3, none⟩) (by first | (rw [add_block]; exact hn253_3) | (show (Addr.add _ _).block ≠ _; rw [add_block]; exact hn253_3) | exact hn253_3) (.bool x252003_1)).trans hx253_1; replace hx253_2 := (cell_far (p := ⟨gb252, 3, none⟩) (by first | (rw [add_block]; exact hn253_3) | (show (Addr.add _ _).block ≠ _; rw [add_block]; exact hn253_3) | exact hn253_3) (.bool x252003_1)).trans hx253_2; replace hx253_3 := (cell_far (p := ⟨gb252, 3, none⟩) (by first | (rw [add_block]; exact hn253_3) | (show (Addr.add _ _).block ≠ _; rw [add_block]; exact hn253_3) | exact hn253_3) (.bool x252003_1)).trans hx253_3; replace hx253_4 := (cell_far (p := ⟨gb252, 3, none⟩) (by first | (rw [add_block]; exact hn253_3) | (show (Addr.add _ _).block ≠ _; rw [add_block]; exact hn253_3) | exact hn253_3) (.bool x252003_1)).trans hx253_4; replace hx253_5 := (cell_far (p := ⟨gb252, 3, none⟩) (by first | (rw [add_block]; exact hn253_3) | (show (Addr.add _ _).block ≠ _; rw [add_block]; exact hn253_3) | exact hn253_3) (.bool x252003_1)).trans hx253_5; replace hx253_0 := (cell_far (p := ⟨gb252, 4, none⟩) (by first | (rw [add_block]; exact hn253_4) | (show (Addr.add _ _).block ≠ _; rw [add_block]; exact hn253_4) | exact hn253_4) (.int .u64 x252004_1)).trans hx253_0; replace hx253_1 := (cell_far (p := ⟨gb252, 4, none⟩) (by first | (rw [add_block]; exact hn253_4) | (show (Addr.add _ _).block ≠ _; rw [add_block]; exact hn253_4) | exact hn253_4) (.int .u64 x252004_1)).trans hx253_1; replace hx253_2 := (cell_far (p := ⟨gb252, 4, none⟩) (by first | (rw [add_block]; exact hn253_4) | (show (Addr.add _ _).block ≠ _; rw [add_block]; exact hn253_4) | exact hn253_4) (.int .u64 x252004_1)).trans hx253_2; replace hx253_3 := (cell_far (p := ⟨gb252, 4, none⟩) (by first | (rw [add_block]; exact hn253_4) | (show (Addr.add _ _).block ≠ _; rw [add_block]; exact hn253_4) | exact hn253_4) (.int .u64 x252004_1)).trans hx253_3; replace hx253_4 := (cell_far (p := ⟨gb252, 4, none⟩) (by first | (rw [add_block]; exact hn253_4) | (show (Addr.add _ _).block ≠ _; rw [add_block]; exact hn253_4) | exact hn253_4) (.int .u64 x252004_1)).trans hx253_4; replace hx253_5 := (cell_far (p := ⟨gb252, 4, none⟩) (by first | (rw [add_block]; exact hn253_4) | (show (Addr.add _ _).block ≠ _; rw [add_block]; exact hn253_4) | exact hn253_4) (.int .u64 x252004_1)).trans hx253_5; replace hx253_0 := (cell_far (p := ⟨gb252, 5, none⟩) (by first | (rw [add_block]; exact hn253_5) | (show (Addr.add _ _).block ≠ _; rw [add_block]; exact hn253_5) | exact hn253_5) (.int .u64 x252005_1)).trans hx253_0; replace hx253_1 := (cell_far (p := ⟨gb252, 5, none⟩) (by first | (rw [add_block]; exact hn253_5) | (show (Addr.add _ _).block ≠ _; rw [add_block]; exact hn253_5) | exact hn253_5) (.int .u64 x252005_1)).trans hx253_1; replace hx253_2 := (cell_far (p := ⟨gb252, 5, none⟩) (by first | (rw [add_block]; exact hn253_5) | (show (Addr.add _ _).block ≠ _; rw [add_block]; exact hn253_5) | exact hn253_5) (.int .u64 x252005_1)).trans hx253_2; replace hx253_3 := (cell_far (p := ⟨gb252, 5, none⟩) (by first | (rw [add_block]; exact hn253_5) | (show (Addr.add _ _).block ≠ _; rw [add_block]; exact hn253_5) | exact hn253_5) (.int .u64 x252005_1)).trans hx253_3; replace hx253_4 := (cell_far (p := ⟨gb252, 5, none⟩) (by first | (rw [add_block]; exact hn253_5) | (show (Addr.add _ _).block ≠ _; rw [add_block]; exact hn253_5) | exact hn253_5) (.int .u64 x252005_1)).trans hx253_4; replace hx253_5 := (cell_far (p := ⟨gb252, 5, none⟩) (by first | (rw [add_block]; exact hn253_5) | (show (Addr.add _ _).block ≠ _; rw [add_block]; exact hn253_5) | exact hn253_5) (.int .u64 x252005_1)).trans hx253_5; replace hx253_0 := (cell_far (p := ⟨gb252, 6, none⟩) (by first | (rw [add_block]; exact hn253_6) | (show (Addr.add _ _).block ≠ _; rw [add_block]; exact hn253_6) | exact hn253_6) (.int .u64 x252006_1)).trans hx253_0; replace hx253_1 := (cell_far (p := ⟨gb252, 6, none⟩) (by first | (rw [add_block]; exact hn253_6) | (show (Addr.add _ _).block ≠ _; rw [add_block]; exact hn253_6) | exact hn253_6) (.int .u64 x252006_1)).trans hx253_1; replace hx253_2 := (cell_far (p := ⟨gb252, 6, none⟩) (by first | (rw [add_block]; exact hn253_6) | (show (Addr.add _ _).block ≠ _; rw [add_block]; exact hn253_6) | exact hn253_6) (.int .u64 x252006_1)).trans hx253_2; replace hx253_3 := (cell_far (p := ⟨gb252, 6, none⟩) (by first | (rw [add_block]; exact hn253_6) | (show (Addr.add _ _).block ≠ _; rw [add_block]; exact hn253_6) | exact hn253_6) (.int .u64 x252006_1)).trans hx253_3; replace hx253_4 := (cell_far (p := ⟨gb252, 6, none⟩) (by first | (rw [add_block]; exact hn253_6) | (show (Addr.add _ _).block ≠ _; rw [add_block]; exact hn253_6) | exact hn253_6) (.int .u64 x252006_1)).trans hx253_4; replace hx253_5 := (cell_far (p := ⟨gb252, 6, none⟩) (by first | (rw [add_block]; exact hn253_6) | (show (Addr.add _ _).block ≠ _; rw [add_block]; exact hn253_6) | exact hn253_6) (.int .u64 x252006_1)).trans hx253_5; replace hx253_0 := (cell_far (p := ⟨gb252, 7, none⟩) (by first | (rw [add_block]; exact hn253_7) | (show (Addr.add _ _).block ≠ _; rw [add_block]; exact hn253_7) | exact hn253_7) (.int .u64 x252007_1)).trans hx253_0; replace hx253_1 := (cell_far (p := ⟨gb252, 7, none⟩) (by first | (rw [add_block]; exact hn253_7) | (show (Addr.add _ _).block ≠ _; rw [add_block]; exact hn253_7) | exact hn253_7) (.int .u64 x252007_1)).trans hx253_1; replace hx253_2 := (cell_far (p := ⟨gb252, 7, none⟩) (by first | (rw [add_block]; exact hn253_7) | (show (Addr.add _ _).block ≠ _; rw [add_block]; exact hn253_7) | exact hn253_7) (.int .u64 x252007_1)).trans hx253_2; replace hx253_3 := (cell_far (p := ⟨gb252, 7, none⟩) (by first | (rw [add_block]; exact hn253_7) | (show (Addr.add _ _).block ≠ _; rw [add_block]; exact hn253_7) | exact hn253_7) (.int .u64 x252007_1)).trans hx253_3; replace hx253_4 := (cell_far (p := ⟨gb252, 7, none⟩) (by first | (rw [add_block]; exact hn253_7) | (show (Addr.add _ _).block ≠ _; rw [add_block]; exact hn253_7) | exact hn253_7) (.int .u64 x252007_1)).trans hx253_4; replace hx253_5 := (cell_far (p := ⟨gb252, 7, none⟩) (by first | (rw [add_block]; exact hn253_7) | (show (Addr.add _ _).block ≠ _; rw [add_block]; exact hn253_7) | exact hn253_7) (.int .u64 x252007_1)).trans hx253_5; clear hn253_0; clear hn253_1; clear hn253_2; clear hn253_3; clear hn253_4; clear hn253_5; clear hn253_6; clear hn253_7; replace p253 := eq_true p253; replace q253 := eq_true q253))
                          generalize hW_ : ((((((((w45.setCell ⟨gb252, 0, none⟩ (.int .u64 x252000_1)).setCell ⟨gb252, 1, none⟩ (.int .u64 x252001_1)).setCell ⟨gb252, 2, none⟩ (.int .u64 x252002_1)).setCell ⟨gb252, 3, none⟩ (.bool x252003_1)).setCell ⟨gb252, 4, none⟩ (.int .u64 x252004_1)).setCell ⟨gb252, 5, none⟩ (.int .u64 x252005_1)).setCell ⟨gb252, 6, none⟩ (.int .u64 x252006_1)).setCell ⟨gb252, 7, none⟩ (.int .u64 x252007_1)) = w48
                          have n0_ : Aside0 (w48.heap[gb251]? = some (.cells #[.int .u64 x252000_1, .int .u64 x252001_1, .int .u64 x252002_1, .bool x252003_1, .int .u64 x252004_1, .int .u64 x252005_1, .int .u64 x252006_1, .int .u64 x252007_1] 26 (0, 0))) := ⟨by rw [← hW_]; exact (by (with_reducible repeat (first | refine blk_drewN ?_ _ | refine blk_drew ?_ | refine blk_alloc ?_ _)); refine blk_far ?_ NB251_252.out _; (with_reducible repeat (first | refine blk_drewN ?_ _ | refine blk_drew ?_ | refine blk_alloc ?_ _)); refine blk_far ?_ NB251_252.out _; (with_reducible repeat (first | refine blk_drewN ?_ _ | refine blk_drew ?_ | refine blk_alloc ?_ _)); refine blk_far ?_ NB251_252.out _; (with_reducible repeat (first | refine blk_drewN ?_ _ | refine blk_drew ?_ | refine blk_alloc ?_ _)); refine blk_far ?_ NB251_252.out _; (with_reducible repeat (first | refine blk_drewN ?_ _ | refine blk_drew ?_ | refine blk_alloc ?_ _)); refine blk_far ?_ NB251_252.out _; (with_reducible repeat (first | refine blk_drewN ?_ _ | refine blk_drew ?_ | refine blk_alloc ?_ _)); refine blk_far ?_ NB251_252.out _; (with_reducible repeat (first | refine blk_drewN ?_ _ | refine blk_drew ?_ | refine blk_alloc ?_ _)); refine blk_far ?_ NB251_252.out _; (with_reducible repeat (first | refine blk_drewN ?_ _ | refine blk_drew ?_ | refine blk_alloc ?_ _)); refine blk_far ?_ NB251_252.out _; (with_reducible repeat (first | refine blk_drewN ?_ _ | refine blk_drew ?_ | refine blk_alloc ?_ _)); exact BK251.out)⟩
                          have n1_ : Aside0 (w48.heap[gb252]? = some (.cells #[.int .u64 x252000_1, .int .u64 x252001_1, .int .u64 x252002_1, .bool x252003_1, .int .u64 x252004_1, .int .u64 x252005_1, .int .u64 x252006_1, .int .u64 x252007_1] 26 (0, 0))) := ⟨by rw [← hW_]; exact (by (with_reducible repeat (first | refine blk_drewN ?_ _ | refine blk_drew ?_ | refine blk_alloc ?_ _)); refine blk_put (cs := #[.int .u64 x252000_1, .int .u64 x252001_1, .int .u64 x252002_1, .bool x252003_1, .int .u64 x252004_1, .int .u64 x252005_1, .int .u64 x252006_1, .int .u64 0]) ?_ 7 _ rfl; (with_reducible repeat (first | refine blk_drewN ?_ _ | refine blk_drew ?_ | refine blk_alloc ?_ _)); refine blk_put (cs := #[.int .u64 x252000_1, .int .u64 x252001_1, .int .u64 x252002_1, .bool x252003_1, .int .u64 x252004_1, .int .u64 x252005_1, .int .u64 0, .int .u64 0]) ?_ 6 _ rfl; (with_reducible repeat (first | refine blk_drewN ?_ _ | refine blk_drew ?_ | refine blk_alloc ?_ _)); refine blk_put (cs := #[.int .u64 x252000_1, .int .u64 x252001_1, .int .u64 x252002_1, .bool x252003_1, .int .u64 x252004_1, .int .u64 0, .int .u64 0, .int .u64 0]) ?_ 5 _ rfl; (with_reducible repeat (first | refine blk_drewN ?_ _ | refine blk_drew ?_ | refine blk_alloc ?_ _)); refine blk_put (cs := #[.int .u64 x252000_1, .int .u64 x252001_1, .int .u64 x252002_1, .bool x252003_1, .int .u64 0, .int .u64 0, .int .u64 0, .int .u64 0]) ?_ 4 _ rfl; (with_reducible repeat (first | refine blk_drewN ?_ _ | refine blk_drew ?_ | refine blk_alloc ?_ _)); refine blk_put (cs := #[.int .u64 x252000_1, .int .u64 x252001_1, .int .u64 x252002_1, .bool false, .int .u64 0, .int .u64 0, .int .u64 0, .int .u64 0]) ?_ 3 _ rfl; (with_reducible repeat (first | refine blk_drewN ?_ _ | refine blk_drew ?_ | refine blk_alloc ?_ _)); refine blk_put (cs := #[.int .u64 x252000_1, .int .u64 x252001_1, .int .u64 0, .bool false, .int .u64 0, .int .u64 0, .int .u64 0, .int .u64 0]) ?_ 2 _ rfl; (with_reducible repeat (first | refine blk_drewN ?_ _ | refine blk_drew ?_ | refine blk_alloc ?_ _)); refine blk_put (cs := #[.int .u64 x252000_1, .int .u64 0, .int .u64 0, .bool false, .int .u64 0, .int .u64 0, .int .u64 0, .int .u64 0]) ?_ 1 _ rfl; (with_reducible repeat (first | refine blk_drewN ?_ _ | refine blk_drew ?_ | refine blk_alloc ?_ _)); refine blk_put (cs := #[.int .u64 0, .int .u64 0, .int .u64 0, .bool false, .int .u64 0, .int .u64 0, .int .u64 0, .int .u64 0]) ?_ 0 _ rfl; (with_reducible repeat (first | refine blk_drewN ?_ _ | refine blk_drew ?_ | refine blk_alloc ?_ _)); exact BK252.out)⟩
                          have n2_ : Aside0 (Below w.heap.size w w48) := ⟨by rw [← hW_]; exact (by repeat (first | (with_reducible first | exact HB.out | apply below_alloc | apply pw_below_drewN | apply below_drew1 | refine below_set ?_ GE251.out | refine below_set ?_ GE252.out) | exact HB.out))⟩
                          (try clear BK251)
                          (try clear BK252)
                          (try clear HB)
                          clear hW_
                          have BK251 := n0_
                          have BK252 := n1_
                          have HB := n2_
                          clear n0_ n1_ n2_
                          have n0_ := Aside0.mk (blk_drew BK251.out)
                          have n1_ := Aside0.mk (blk_drew BK252.out)
                          have n2_ := Aside0.mk (below_drew1 HB.out)
                          clear BK251
                          clear BK252
                          clear HB
                          have BK251 := n0_
                          have BK252 := n1_
                          have HB := n2_
                          clear n0_ n1_ n2_
                          have p267 : 0 ≤ (x5_1 : Int) := of_decide_eq_true (by first | (with_reducible assumption) | assumption)
                          have q267 : x5_1 < (l0.length : Int) := of_decide_eq_true (by first | (with_reducible assumption) | assumption)
                          obtain ⟨ad267, e267, hx267_0, hx267_1, hx267_2, hx267_3, hx267_4, hx267_5⟩ := at_T29 HR0.out x5_1 p267 q267
                          have hw267_5 := hx267_5
                          have hw267_4 := hx267_4
                          have hw267_3 := hx267_3
                          have hw267_2 := hx267_2
                          have hw267_1 := hx267_1
                          have hw267_0 := hx267_0
                          obtain rfl : ad253 = ad267 := (by injection e267)
                          replace hx267_0 := (HB.out.cell (World.block_lt_of_cell? w _ hx267_0)).trans hx267_0
                          replace hx267_1 := (HB.out.cell (World.block_lt_of_cell? w _ hx267_1)).trans hx267_1
                          replace hx267_2 := (HB.out.cell (World.block_lt_of_cell? w _ hx267_2)).trans hx267_2
                          replace hx267_3 := (HB.out.cell (World.block_lt_of_cell? w _ hx267_3)).trans hx267_3
                          replace hx267_4 := (HB.out.cell (World.block_lt_of_cell? w _ hx267_4)).trans hx267_4
                          replace hx267_5 := (HB.out.cell (World.block_lt_of_cell? w _ hx267_5)).trans hx267_5
                          replace p267 := eq_true p267
                          replace q267 := eq_true q267
                          have p268 : 0 ≤ (x5_1 : Int) := of_decide_eq_true (by first | (with_reducible assumption) | assumption)
                          have q268 : x5_1 < (l0.length : Int) := of_decide_eq_true (by first | (with_reducible assumption) | assumption)
                          obtain ⟨ad268, e268, hx268_0, hx268_1, hx268_2, hx268_3, hx268_4, hx268_5⟩ := at_T29 HR0.out x5_1 p268 q268
                          have hw268_5 := hx268_5
                          have hw268_4 := hx268_4
                          have hw268_3 := hx268_3
                          have hw268_2 := hx268_2
                          have hw268_1 := hx268_1
                          have hw268_0 := hx268_0
                          obtain rfl : ad253 = ad268 := (by injection e268)
                          replace hx268_0 := (HB.out.cell (World.block_lt_of_cell? w _ hx268_0)).trans hx268_0
                          replace hx268_1 := (HB.out.cell (World.block_lt_of_cell? w _ hx268_1)).trans hx268_1
                          replace hx268_2 := (HB.out.cell (World.block_lt_of_cell? w _ hx268_2)).trans hx268_2
                          replace hx268_3 := (HB.out.cell (World.block_lt_of_cell? w _ hx268_3)).trans hx268_3
                          replace hx268_4 := (HB.out.cell (World.block_lt_of_cell? w _ hx268_4)).trans hx268_4
                          replace hx268_5 := (HB.out.cell (World.block_lt_of_cell? w _ hx268_5)).trans hx268_5
                          replace p268 := eq_true p268
                          replace q268 := eq_true q268
                          refine start_ (n := 13) (S := fun w' => w'.cell? ⟨gb251, 0, none⟩ = some (.int .u64 x252000_1) ∧ w'.cell? ⟨gb251, 1, none⟩ = some (.int .u64 x252001_1) ∧ w'.cell? ⟨gb251, 2, none⟩ = some (.int .u64 x252002_1) ∧ w'.cell? ⟨gb251, 3, none⟩ = some (.bool x252003_1) ∧ w'.cell? ⟨gb251, 4, none⟩ = some (.int .u64 x252004_1) ∧ w'.cell? ⟨gb251, 5, none⟩ = some (.int .u64 x252005_1) ∧ w'.cell? ⟨gb251, 6, none⟩ = some (.int .u64 x252006_1) ∧ w'.cell? ⟨gb251, 7, none⟩ = some (.int .u64 x252007_1) ∧ w'.cell? (ad253.add ((x5_1).toNat * 6)) = some (.int .i64 ((rd_T29 l0 x5_1).f0)) ∧ w'.cell? ⟨(ad253.add ((x5_1).toNat * 6)).block, (ad253.add ((x5_1).toNat * 6)).off + 1, none⟩ = some (.int .u64 ((rd_T29 l0 x5_1).f1)) ∧ w'.cell? ⟨(ad253.add ((x5_1).toNat * 6)).block, (ad253.add ((x5_1).toNat * 6)).off + 2, none⟩ = some (.int .u64 ((rd_T29 l0 x5_1).f2)) ∧ w'.cell? ⟨(ad253.add ((x5_1).toNat * 6)).block, (ad253.add ((x5_1).toNat * 6)).off + 3, none⟩ = some (.int .u64 ((rd_T29 l0 x5_1).f3)) ∧ w'.cell? ⟨(ad253.add ((x5_1).toNat * 6)).block, (ad253.add ((x5_1).toNat * 6)).off + 4, none⟩ = some (.int .u64 ((rd_T29 l0 x5_1).f4)) ∧ w'.cell? ⟨(ad253.add ((x5_1).toNat * 6)).block, (ad253.add ((x5_1).toNat * 6)).off + 5, none⟩ = some (.bool ((rd_T29 l0 x5_1).f5)) ∧ w'.cell? (ad253.add ((x5_1).toNat * 6)) = some (.int .i64 ((rd_T29 l0 x5_1).f0)) ∧ w'.cell? ⟨(ad253.add ((x5_1).toNat * 6)).block, (ad253.add ((x5_1).toNat * 6)).off + 1, none⟩ = some (.int .u64 ((rd_T29 l0 x5_1).f1)) ∧ w'.cell? ⟨(ad253.add ((x5_1).toNat * 6)).block, (ad253.add ((x5_1).toNat * 6)).off + 2, none⟩ = some (.int .u64 ((rd_T29 l0 x5_1).f2)) ∧ w'.cell? ⟨(ad253.add ((x5_1).toNat * 6)).block, (ad253.add ((x5_1).toNat * 6)).off + 3, none⟩ = some (.int .u64 ((rd_T29 l0 x5_1).f3)) ∧ w'.cell? ⟨(ad253.add ((x5_1).toNat * 6)).block, (ad253.add ((x5_1).toNat * 6)).off + 4, none⟩ = some (.int .u64 ((rd_T29 l0 x5_1).f4)) ∧ w'.cell? ⟨(ad253.add ((x5_1).toNat * 6)).block, (ad253.add ((x5_1).toNat * 6)).off + 5, none⟩ = some (.bool ((rd_T29 l0 x5_1).f5))) (ds := [12]) #[false, false, false, false, false, false, false, false, false, false, false, false, false] (by kernel_rfl) rfl rfl ⟨(blk_cell BK251.out 0).trans rfl, (blk_cell BK251.out 1).trans rfl, (blk_cell BK251.out 2).trans rfl, (blk_cell BK251.out 3).trans rfl, (blk_cell BK251.out 4).trans rfl, (blk_cell BK251.out 5).trans rfl, (blk_cell BK251.out 6).trans rfl, (blk_cell BK251.out 7).trans rfl, ((HB.out.cell (World.block_lt_of_cell? w _ hw267_0)).trans hw267_0), ((HB.out.cell (World.block_lt_of_cell? w _ hw267_1)).trans hw267_1), ((HB.out.cell (World.block_lt_of_cell? w _ hw267_2)).trans hw267_2), ((HB.out.cell (World.block_lt_of_cell? w _ hw267_3)).trans hw267_3), ((HB.out.cell (World.block_lt_of_cell? w _ hw267_4)).trans hw267_4), ((HB.out.cell (World.block_lt_of_cell? w _ hw267_5)).trans hw267_5), ((HB.out.cell (World.block_lt_of_cell? w _ hw268_0)).trans hw268_0), ((HB.out.cell (World.block_lt_of_cell? w _ hw268_1)).trans hw268_1), ((HB.out.cell (World.block_lt_of_cell? w _ hw268_2)).trans hw268_2), ((HB.out.cell (World.block_lt_of_cell? w _ hw268_3)).trans hw268_3), ((HB.out.cell (World.block_lt_of_cell? w _ hw268_4)).trans hw268_4), ((HB.out.cell (World.block_lt_of_cell? w _ hw268_5)).trans hw268_5)⟩ (fun hHeld => ?_); refine with_tabW wigwaglaw12_CubicHolds.tab13 wigwaglaw12_CubicHolds.bits13 (fun HT_ HW_ => ?_)
                          generalize w48.drew = w49 at BK251 BK252 HB hx267_0 hx267_1 hx267_2 hx267_3 hx267_4 hx267_5 hx268_0 hx268_1 hx268_2 hx268_3 hx268_4 hx268_5 hHeld ⊢
                          refine pure_ (i := 1) (N := some 76) (v := ?_) (a' := ?_) #[false, true, false, false, false, false, false, false, false, false, false, false, false] rfl rfl (any_of HT_.out (by kernel_rfl)) (fun _ _ _ h => h) (Or.inl ⟨by rfl, ?_⟩) ?_ ?_
                          rotate_left
                          · intro w'
                            go_simp
                            with_reducible rfl
                          rotate_left
                          · simp only [Act.put, List.setIfInBounds_toArray, List.set_cons_zero, List.set_cons_succ, i64_w, i32_w]
                            rfl
                          refine pure_ (i := 2) (N := some 77) (v := ?_) (a' := ?_) #[false, true, true, false, false, false, false, false, false, false, false, false, false] rfl rfl (any_of HT_.out (by kernel_rfl)) (fun _ _ _ h => h) (Or.inl ⟨by rfl, ?_⟩) ?_ ?_
                          rotate_left
                          · intro w'
                            go_simp
                            with_reducible rfl
                          rotate_left
                          · simp only [Act.put, List.setIfInBounds_toArray, List.set_cons_zero, List.set_cons_succ, i64_w, i32_w]
                            rfl
                          refine pure_ (i := 3) (N := some 78) (v := ?_) (a' := ?_) #[false, true, true, true, false, false, false, false, false, false, false, false, false] rfl rfl (any_of HT_.out (by kernel_rfl)) (fun _ _ _ h => h) (Or.inl ⟨by rfl, ?_⟩) ?_ ?_
                          rotate_left
                          · intro w'
                            go_simp
                            with_reducible rfl
                          rotate_left
                          · simp only [Act.put, List.setIfInBounds_toArray, List.set_cons_zero, List.set_cons_succ, i64_w, i32_w]
                            rfl
                          refine pure_ (i := 4) (N := some 79) (v := ?_) (a' := ?_) #[false, true, true, true, true, false, false, false, false, false, false, false, false] rfl rfl (any_of HT_.out (by kernel_rfl)) (fun _ _ _ h => h) (Or.inl ⟨by rfl, ?_⟩) ?_ ?_
                          rotate_left
                          · intro w'
                            go_simp
                            with_reducible rfl
                          rotate_left
                          · simp only [Act.put, List.setIfInBounds_toArray, List.set_cons_zero, List.set_cons_succ, i64_w, i32_w]
                            rfl
                          refine pure_ (i := 6) (N := some 81) (v := ?_) (a' := ?_) #[false, true, true, true, true, false, true, false, false, false, false, false, false] rfl rfl (any_of HT_.out (by kernel_rfl)) (fun _ _ _ h => h) (Or.inl ⟨by rfl, ?_⟩) ?_ ?_
                          rotate_left
                          · intro w'
                            go_simp
                            with_reducible rfl
                          rotate_left
                          · simp only [Act.put, List.setIfInBounds_toArray, List.set_cons_zero, List.set_cons_succ, i64_w, i32_w]
                            rfl
                          refine pure_ (i := 7) (N := some 82) (v := ?_) (a' := ?_) #[false, true, true, true, true, false, true, true, false, false, false, false, false] rfl rfl (any_of HT_.out (by kernel_rfl)) (fun _ _ _ h => h) (Or.inl ⟨by rfl, ?_⟩) ?_ ?_
                          rotate_left
                          · intro w'
                            go_simp
                            with_reducible rfl
                          rotate_left
                          · simp only [Act.put, List.setIfInBounds_toArray, List.set_cons_zero, List.set_cons_succ, i64_w, i32_w]
                            rfl
                          refine pure_ (i := 8) (N := some 83) (v := ?_) (a' := ?_) #[false, true, true, true, true, false, true, true, true, false, false, false, false] rfl rfl (any_of HT_.out (by kernel_rfl)) (fun _ _ _ h => h) (Or.inl ⟨by rfl, ?_⟩) ?_ ?_
                          rotate_left
                          · intro w'
                            go_simp
                            with_reducible rfl
                          rotate_left
                          · simp only [Act.put, List.setIfInBounds_toArray, List.set_cons_zero, List.set_cons_succ, i64_w, i32_w]
                            rfl
                          refine pure_ (i := 9) (N := some 84) (v := ?_) (a' := ?_) #[false, true, true, true, true, false, true, true, true, true, false, false, false] rfl rfl (any_of HT_.out (by kernel_rfl)) (fun _ _ _ h => h) (Or.inl ⟨by rfl, ?_⟩) ?_ ?_
                          rotate_left
                          · intro w'
                            go_simp
                            with_reducible rfl
                          rotate_left
                          · simp only [Act.put, List.setIfInBounds_toArray, List.set_cons_zero, List.set_cons_succ, i64_w, i32_w]
                            rfl
                          refine take_ (i := 0) (N := some 75) (v := ?_) (a' := ?_) #[true, true, true, true, true, false, true, true, true, true, false, false, false] rfl rfl (take_ofW HT_.out HW_.out (by kernel_rfl)) (fun _ _ _ h => h) (Or.inl ⟨by rfl, ?_⟩) hHeld ?_ ?_
                          rotate_left
                          · rintro w' ⟨s0, s1, s2, s3, s4, s5, s6, s7, s8, s9, s10, s11, s12, s13, s14, s15, s16, s17, s18, s19⟩
                            go_simp
                            with_reducible rfl
                          rotate_left
                          · simp only [Act.put, List.setIfInBounds_toArray, List.set_cons_zero, List.set_cons_succ, i64_w, i32_w]
                            rfl
                          refine take_ (i := 5) (N := some 80) (v := ?_) (a' := ?_) #[true, true, true, true, true, true, true, true, true, true, false, false, false] rfl rfl (take_ofW HT_.out HW_.out (by kernel_rfl)) (fun _ _ _ h => h) (Or.inl ⟨by rfl, ?_⟩) hHeld ?_ ?_
                          rotate_left
                          · rintro w' ⟨s0, s1, s2, s3, s4, s5, s6, s7, s8, s9, s10, s11, s12, s13, s14, s15, s16, s17, s18, s19⟩
                            go_simp
                            with_reducible rfl
                          rotate_left
                          · simp only [Act.put, List.setIfInBounds_toArray, List.set_cons_zero, List.set_cons_succ, i64_w, i32_w]
                            rfl
                          refine take_ (i := 10) (N := some 85) (v := ?_) (a' := ?_) #[true, true, true, true, true, true, true, true, true, true, true, false, false] rfl rfl (take_ofW HT_.out HW_.out (by kernel_rfl)) (fun _ _ _ h => h) (Or.inl ⟨by rfl, ?_⟩) hHeld ?_ ?_
                          rotate_left
                          · rintro w' ⟨s0, s1, s2, s3, s4, s5, s6, s7, s8, s9, s10, s11, s12, s13, s14, s15, s16, s17, s18, s19⟩
                            go_simp
                            with_reducible rfl
                          rotate_left
                          · simp only [Act.put, List.setIfInBounds_toArray, List.set_cons_zero, List.set_cons_succ, i64_w, i32_w]
                            rfl
                          refine one_ (i := 11) (N := some 86) #[true, true, true, true, true, true, true, true, true, true, true, true, false] rfl rfl (one_of HT_.out (by kernel_rfl)) (by decide) (fun K hK => ?_)
                          refine goes_ Try.func10 (by kernel_rfl) rfl #[.agg #[.int .u64 x252000_1, .int .u64 x252001_1, .int .u64 x252002_1, .bool x252003_1, .int .u64 x252004_1, .int .u64 x252005_1, .int .u64 x252006_1, .int .u64 x252007_1], .int .u64 ((rd_T29 l0 x5_1).f2), .int .u64 ((rd_T29 l0 x5_1).f3)] (by rfl) rfl rfl (by (try simp only [List.map_toArray, List.map_cons, List.map_nil]); first | done | rfl | (simp only [List.length_drop, List.length_take]; rfl)) ?_
                          with_reducible refine (cubic_Loss.calls x252000_1 x252001_1 x252002_1 x252003_1 x252004_1 x252005_1 x252006_1 x252007_1 ((rd_T29 l0 x5_1).f2) ((rd_T29 l0 x5_1).f3) t269 t270 t271 t272 t273 t274 t275 t276 _ A38.out).mono ?_
                          rintro e w50 ⟨rfl, hb⟩
                          refine ⟨_, rfl, ?_⟩
                          have n0_ := Aside0.mk (blk_below (g := gb251) (o := .cells #[.int .u64 x252000_1, .int .u64 x252001_1, .int .u64 x252002_1, .bool x252003_1, .int .u64 x252004_1, .int .u64 x252005_1, .int .u64 x252006_1, .int .u64 x252007_1] 26 (0, 0)) (by (with_reducible repeat (first | refine blk_drewN ?_ _ | refine blk_drew ?_ | refine blk_alloc ?_ _)); exact BK251.out) hb)
                          have n1_ := Aside0.mk (blk_below (g := gb252) (o := .cells #[.int .u64 x252000_1, .int .u64 x252001_1, .int .u64 x252002_1, .bool x252003_1, .int .u64 x252004_1, .int .u64 x252005_1, .int .u64 x252006_1, .int .u64 x252007_1] 26 (0, 0)) (by (with_reducible repeat (first | refine blk_drewN ?_ _ | refine blk_drew ?_ | refine blk_alloc ?_ _)); exact BK252.out) hb)
                          have n2_ := Aside0.mk (below_step (by repeat (first | (with_reducible first | exact HB.out | apply below_alloc | apply pw_below_drewN | apply below_drew1 | refine below_set ?_ GE251.out | refine below_set ?_ GE252.out) | exact HB.out)) hb)
                          clear BK251
                          clear BK252
                          clear HB
                          have BK251 := n0_
                          have BK252 := n1_
                          have HB := n2_
                          clear n0_ n1_ n2_
                          (try clear hb)
                          (try clear hb2)
                          (try clear hk)
                          (try clear hi)
                          refine hK.out _ _ ⟨(blk_cell BK251.out 0).trans rfl, (blk_cell BK251.out 1).trans rfl, (blk_cell BK251.out 2).trans rfl, (blk_cell BK251.out 3).trans rfl, (blk_cell BK251.out 4).trans rfl, (blk_cell BK251.out 5).trans rfl, (blk_cell BK251.out 6).trans rfl, (blk_cell BK251.out 7).trans rfl, ((HB.out.cell (World.block_lt_of_cell? w _ hw267_0)).trans hw267_0), ((HB.out.cell (World.block_lt_of_cell? w _ hw267_1)).trans hw267_1), ((HB.out.cell (World.block_lt_of_cell? w _ hw267_2)).trans hw267_2), ((HB.out.cell (World.block_lt_of_cell? w _ hw267_3)).trans hw267_3), ((HB.out.cell (World.block_lt_of_cell? w _ hw267_4)).trans hw267_4), ((HB.out.cell (World.block_lt_of_cell? w _ hw267_5)).trans hw267_5), ((HB.out.cell (World.block_lt_of_cell? w _ hw268_0)).trans hw268_0), ((HB.out.cell (World.block_lt_of_cell? w _ hw268_1)).trans hw268_1), ((HB.out.cell (World.block_lt_of_cell? w _ hw268_2)).trans hw268_2), ((HB.out.cell (World.block_lt_of_cell? w _ hw268_3)).trans hw268_3), ((HB.out.cell (World.block_lt_of_cell? w _ hw268_4)).trans hw268_4), ((HB.out.cell (World.block_lt_of_cell? w _ hw268_5)).trans hw268_5)⟩ (fun hHeld => ?_)
                          clear hK K
                          refine norm_ (a' := ?_) ?_ ?_
                          rotate_left
                          · show Act.put _ (some 86) _ = _
                            simp only [Act.put, List.setIfInBounds_toArray, List.set_cons_zero, List.set_cons_succ, i64_w, i32_w]
                            rfl
                          refine last_ (i := 12) (N := none) #[true, true, true, true, true, true, true, true, true, true, true, true, true] rfl rfl (one_of HT_.out (by kernel_rfl)) (by decide) (fun K hK => ?_)
                          have hs51 : w50.cell? ⟨gb251, 0, none⟩ = some (.int .u64 x252000_1) := (blk_cell BK251.out 0).trans rfl
                          have hfs51 := blk_frozen BK251.out 0
                          have hns51_1 := NB252_251.out
                          have hms51_1 := NB251_252.out
                          have hs52 : w50.cell? ⟨gb251, 1, none⟩ = some (.int .u64 x252001_1) := (blk_cell BK251.out 1).trans rfl
                          have hfs52 := blk_frozen BK251.out 1
                          have hns52_1 := NB252_251.out
                          have hms52_1 := NB251_252.out
                          have hs53 : w50.cell? ⟨gb251, 2, none⟩ = some (.int .u64 x252002_1) := (blk_cell BK251.out 2).trans rfl
                          have hfs53 := blk_frozen BK251.out 2
                          have hns53_1 := NB252_251.out
                          have hms53_1 := NB251_252.out
                          have hs54 : w50.cell? ⟨gb251, 3, none⟩ = some (.bool x252003_1) := (blk_cell BK251.out 3).trans rfl
                          have hfs54 := blk_frozen BK251.out 3
                          have hns54_1 := NB252_251.out
                          have hms54_1 := NB251_252.out
                          have hs55 : w50.cell? ⟨gb251, 4, none⟩ = some (.int .u64 x252004_1) := (blk_cell BK251.out 4).trans rfl
                          have hfs55 := blk_frozen BK251.out 4
                          have hns55_1 := NB252_251.out
                          have hms55_1 := NB251_252.out
                          have hs56 : w50.cell? ⟨gb251, 5, none⟩ = some (.int .u64 x252005_1) := (blk_cell BK251.out 5).trans rfl
                          have hfs56 := blk_frozen BK251.out 5
                          have hns56_1 := NB252_251.out
                          have hms56_1 := NB251_252.out
                          have hs57 : w50.cell? ⟨gb251, 6, none⟩ = some (.int .u64 x252006_1) := (blk_cell BK251.out 6).trans rfl
                          have hfs57 := blk_frozen BK251.out 6
                          have hns57_1 := NB252_251.out
                          have hms57_1 := NB251_252.out
                          have hs58 : w50.cell? ⟨gb251, 7, none⟩ = some (.int .u64 x252007_1) := (blk_cell BK251.out 7).trans rfl
                          have hfs58 := blk_frozen BK251.out 7
                          have hns58_1 := NB252_251.out
                          have hms58_1 := NB251_252.out
                          refine skip_ (w1 := ?_) (by rfl) rfl ?_ ?_
                          rotate_left
                          · go_simp
                            rfl
                          refine hK.out _ _ ?_
                          clear hK K
                          refine done_ (done_of HT_.out (by kernel_rfl)) ?_
                          have hcz59_0 : w50.cell? ⟨gb251, 0, none⟩ = some (.int .u64 x252000_1) := (blk_cell BK251.out 0).trans rfl
                          have hcz59_1 : w50.cell? ⟨gb251, 1, none⟩ = some (.int .u64 x252001_1) := (blk_cell BK251.out 1).trans rfl
                          have hcz59_2 : w50.cell? ⟨gb251, 2, none⟩ = some (.int .u64 x252002_1) := (blk_cell BK251.out 2).trans rfl
                          have hcz59_3 : w50.cell? ⟨gb251, 3, none⟩ = some (.bool x252003_1) := (blk_cell BK251.out 3).trans rfl
                          have hcz59_4 : w50.cell? ⟨gb251, 4, none⟩ = some (.int .u64 x252004_1) := (blk_cell BK251.out 4).trans rfl
                          have hcz59_5 : w50.cell? ⟨gb251, 5, none⟩ = some (.int .u64 x252005_1) := (blk_cell BK251.out 5).trans rfl
                          have hcz59_6 : w50.cell? ⟨gb251, 6, none⟩ = some (.int .u64 x252006_1) := (blk_cell BK251.out 6).trans rfl
                          have hcz59_7 : w50.cell? ⟨gb251, 7, none⟩ = some (.int .u64 x252007_1) := (blk_cell BK251.out 7).trans rfl
                          have hfz59_0 := blk_frozen BK251.out 0
                          have hfz59_1 := blk_frozen BK251.out 1
                          have hfz59_2 := blk_frozen BK251.out 2
                          have hfz59_3 := blk_frozen BK251.out 3
                          have hfz59_4 := blk_frozen BK251.out 4
                          have hfz59_5 := blk_frozen BK251.out 5
                          have hfz59_6 := blk_frozen BK251.out 6
                          have hfz59_7 := blk_frozen BK251.out 7
                          have hcz60_0 : w50.cell? ⟨gb252, 0, none⟩ = some (.int .u64 x252000_1) := (blk_cell BK252.out 0).trans rfl
                          have hcz60_1 : w50.cell? ⟨gb252, 1, none⟩ = some (.int .u64 x252001_1) := (blk_cell BK252.out 1).trans rfl
                          have hcz60_2 : w50.cell? ⟨gb252, 2, none⟩ = some (.int .u64 x252002_1) := (blk_cell BK252.out 2).trans rfl
                          have hcz60_3 : w50.cell? ⟨gb252, 3, none⟩ = some (.bool x252003_1) := (blk_cell BK252.out 3).trans rfl
                          have hcz60_4 : w50.cell? ⟨gb252, 4, none⟩ = some (.int .u64 x252004_1) := (blk_cell BK252.out 4).trans rfl
                          have hcz60_5 : w50.cell? ⟨gb252, 5, none⟩ = some (.int .u64 x252005_1) := (blk_cell BK252.out 5).trans rfl
                          have hcz60_6 : w50.cell? ⟨gb252, 6, none⟩ = some (.int .u64 x252006_1) := (blk_cell BK252.out 6).trans rfl
                          have hcz60_7 : w50.cell? ⟨gb252, 7, none⟩ = some (.int .u64 x252007_1) := (blk_cell BK252.out 7).trans rfl
                          have hfz60_0 := blk_frozen BK252.out 0
                          have hfz60_1 := blk_frozen BK252.out 1
                          have hfz60_2 := blk_frozen BK252.out 2
                          have hfz60_3 := blk_frozen BK252.out 3
                          have hfz60_4 := blk_frozen BK252.out 4
                          have hfz60_5 := blk_frozen BK252.out 5
                          have hfz60_6 := blk_frozen BK252.out 6
                          have hfz60_7 := blk_frozen BK252.out 7
                          try go_wp2
                          go_roundg k1
                          case measure => have := HK1.out; omega
                          case rel => exact ⟨(wrap64 (x5_1 + 1)), (t269), (t270), (t271), (t272), (t273), (t274), (t275), (t276), (by first | rfl | (simp; done) | (simp [*]; done)), H', ⟨by have := HK1.out; omega⟩, ⟨by (with_reducible repeat (first | refine blk_drewN ?_ _ | refine blk_drew ?_ | refine blk_alloc ?_ _)); refine blk_put (cs := #[.int .u64 t269, .int .u64 t270, .int .u64 t271, .bool t272, .int .u64 t273, .int .u64 t274, .int .u64 t275, .int .u64 x252007_1]) ?_ 7 _ rfl; (with_reducible repeat (first | refine blk_drewN ?_ _ | refine blk_drew ?_ | refine blk_alloc ?_ _)); refine blk_put (cs := #[.int .u64 t269, .int .u64 t270, .int .u64 t271, .bool t272, .int .u64 t273, .int .u64 t274, .int .u64 x252006_1, .int .u64 x252007_1]) ?_ 6 _ rfl; (with_reducible repeat (first | refine blk_drewN ?_ _ | refine blk_drew ?_ | refine blk_alloc ?_ _)); refine blk_put (cs := #[.int .u64 t269, .int .u64 t270, .int .u64 t271, .bool t272, .int .u64 t273, .int .u64 x252005_1, .int .u64 x252006_1, .int .u64 x252007_1]) ?_ 5 _ rfl; (with_reducible repeat (first | refine blk_drewN ?_ _ | refine blk_drew ?_ | refine blk_alloc ?_ _)); refine blk_put (cs := #[.int .u64 t269, .int .u64 t270, .int .u64 t271, .bool t272, .int .u64 x252004_1, .int .u64 x252005_1, .int .u64 x252006_1, .int .u64 x252007_1]) ?_ 4 _ rfl; (with_reducible repeat (first | refine blk_drewN ?_ _ | refine blk_drew ?_ | refine blk_alloc ?_ _)); refine blk_put (cs := #[.int .u64 t269, .int .u64 t270, .int .u64 t271, .bool x252003_1, .int .u64 x252004_1, .int .u64 x252005_1, .int .u64 x252006_1, .int .u64 x252007_1]) ?_ 3 _ rfl; (with_reducible repeat (first | refine blk_drewN ?_ _ | refine blk_drew ?_ | refine blk_alloc ?_ _)); refine blk_put (cs := #[.int .u64 t269, .int .u64 t270, .int .u64 x252002_1, .bool x252003_1, .int .u64 x252004_1, .int .u64 x252005_1, .int .u64 x252006_1, .int .u64 x252007_1]) ?_ 2 _ rfl; (with_reducible repeat (first | refine blk_drewN ?_ _ | refine blk_drew ?_ | refine blk_alloc ?_ _)); refine blk_put (cs := #[.int .u64 t269, .int .u64 x252001_1, .int .u64 x252002_1, .bool x252003_1, .int .u64 x252004_1, .int .u64 x252005_1, .int .u64 x252006_1, .int .u64 x252007_1]) ?_ 1 _ rfl; (with_reducible repeat (first | refine blk_drewN ?_ _ | refine blk_drew ?_ | refine blk_alloc ?_ _)); refine blk_put (cs := #[.int .u64 x252000_1, .int .u64 x252001_1, .int .u64 x252002_1, .bool x252003_1, .int .u64 x252004_1, .int .u64 x252005_1, .int .u64 x252006_1, .int .u64 x252007_1]) ?_ 0 _ rfl; (with_reducible repeat (first | refine blk_drewN ?_ _ | refine blk_drew ?_ | refine blk_alloc ?_ _)); exact BK251.out⟩, ⟨by repeat (first | (with_reducible first | exact HB.out | apply below_alloc | apply pw_below_drewN | apply below_drew1 | refine below_set ?_ GE251.out | refine below_set ?_ GE252.out) | exact HB.out)⟩⟩
              · rw [if_neg c37] at H
                have c37b0 : (((rd_T29 l0 x5_1).f0) == 2) = false := beq_eq_false_iff_ne.mpr c37
                have c37b1 : (((rd_T29 l0 x5_1).f0) != 2) = true := bne_iff_ne.mpr c37
                by_cases c61 : ((rd_T29 l0 x5_1).f0) = 3
                · rw [if_pos c61] at H
                  have c61b0 : (((rd_T29 l0 x5_1).f0) == 3) = true := beq_iff_eq.mpr c61
                  have c61b1 : (((rd_T29 l0 x5_1).f0) != 3) = false := bne_eq_false_iff_eq.mpr c61
                  clear c61
                  replace H := Option.bind_eq_some_iff.mp H
                  obtain ⟨⟨t277, t278, t279, t280, t281, t282, t283, t284⟩, A620, H⟩ := H
                  replace H : (if t277 < 2400 then (none) else (if t277 > 16777216 then (none) else (if t278 < 2400 then (none) else (if t278 > 16777216 then (none) else (wigwaglaw12_CubicHolds.l0 k1 l0 t242 (wrap64 (x5_1 + 1)) t277 t278 t279 t280 t281 t282 t283 t284))))) = some r := H
                  have A62 := Aside0.mk A620
                  clear A620
                  by_cases c63 : t277 < 2400
                  · rw [if_pos c63] at H
                    exact absurd H (by simp)
                  · rw [if_neg c63] at H
                    have c63b0 : decide (t277 < 2400) = false := decide_eq_false c63
                    clear c63
                    by_cases c64 : t277 > 16777216
                    · rw [if_pos c64] at H
                      exact absurd H (by simp)
                    · rw [if_neg c64] at H
                      have c64b0 : decide (16777216 < t277) = false := decide_eq_false c64
                      clear c64
                      by_cases c65 : t278 < 2400
                      · rw [if_pos c65] at H
                        exact absurd H (by simp)
                      · rw [if_neg c65] at H
                        have c65b0 : decide (t278 < 2400) = false := decide_eq_false c65
                        clear c65
                        by_cases c66 : t278 > 16777216
                        · rw [if_pos c66] at H
                          exact absurd H (by simp)
                        · rw [if_neg c66] at H
                          have c66b0 : decide (16777216 < t278) = false := decide_eq_false c66
                          clear c66
                          have H' := Aside0.mk H
                          clear H
                          have hcz67_0 : wr.cell? ⟨gb251, 0, none⟩ = some (.int .u64 x252000_1) := (blk_cell BK251.out 0).trans rfl
                          have hcz67_1 : wr.cell? ⟨gb251, 1, none⟩ = some (.int .u64 x252001_1) := (blk_cell BK251.out 1).trans rfl
                          have hcz67_2 : wr.cell? ⟨gb251, 2, none⟩ = some (.int .u64 x252002_1) := (blk_cell BK251.out 2).trans rfl
                          have hcz67_3 : wr.cell? ⟨gb251, 3, none⟩ = some (.bool x252003_1) := (blk_cell BK251.out 3).trans rfl
                          have hcz67_4 : wr.cell? ⟨gb251, 4, none⟩ = some (.int .u64 x252004_1) := (blk_cell BK251.out 4).trans rfl
                          have hcz67_5 : wr.cell? ⟨gb251, 5, none⟩ = some (.int .u64 x252005_1) := (blk_cell BK251.out 5).trans rfl
                          have hcz67_6 : wr.cell? ⟨gb251, 6, none⟩ = some (.int .u64 x252006_1) := (blk_cell BK251.out 6).trans rfl
                          have hcz67_7 : wr.cell? ⟨gb251, 7, none⟩ = some (.int .u64 x252007_1) := (blk_cell BK251.out 7).trans rfl
                          have hfz67_0 := blk_frozen BK251.out 0
                          have hfz67_1 := blk_frozen BK251.out 1
                          have hfz67_2 := blk_frozen BK251.out 2
                          have hfz67_3 := blk_frozen BK251.out 3
                          have hfz67_4 := blk_frozen BK251.out 4
                          have hfz67_5 := blk_frozen BK251.out 5
                          have hfz67_6 := blk_frozen BK251.out 6
                          have hfz67_7 := blk_frozen BK251.out 7
                          go_wp2_with (first | ((with_reducible refine gate_dst (N := 6) rfl ?_); refine box_event ?hg (N := 6) ?hd (cs := #[.int .u64 0, .int .u64 0, .int .u64 0, .bool false, .int .u64 0, .int .u64 0, .int .u64 0, .int .u64 0]) (t := 26) ?hr ?_; (case hd => rfl); (case hg => rfl); (case hr => first | (go_simp; done) | (go_simp; rfl)); intro gb252 hg w68 hbox hb; have n0_ := Aside0.mk (blk_below (g := gb251) (o := .cells #[.int .u64 x252000_1, .int .u64 x252001_1, .int .u64 x252002_1, .bool x252003_1, .int .u64 x252004_1, .int .u64 x252005_1, .int .u64 x252006_1, .int .u64 x252007_1] 26 (0, 0)) (by (with_reducible repeat (first | refine blk_drewN ?_ _ | refine blk_drew ?_ | refine blk_alloc ?_ _)); exact BK251.out) hb); have n1_ := Aside0.mk (below_step (by repeat (first | (with_reducible first | exact HB.out | apply below_alloc | apply pw_below_drewN | apply below_drew1 | refine below_set ?_ GE251.out) | exact HB.out)) hb); have n2_ := Aside0.mk (hbox); have n3_ := Aside0.mk ((by rw [hg]; exact (below_size (by repeat (first | (with_reducible first | exact HB.out | apply below_alloc | apply pw_below_drewN | apply below_drew1 | refine below_set ?_ GE251.out) | exact HB.out))) : w.heap.size ≤ gb252)); have n4_ := Aside0.mk ((by rw [hg]; exact (below_size (by repeat (first | (with_reducible first | exact HB.out | apply below_alloc | apply pw_below_drewN | apply below_drew1 | refine below_set ?_ GE251.out) | exact HB.out))) : w.heap.size ≤ gb252)); have n5_ := Aside0.mk ((by rw [hg]; exact Nat.ne_of_lt (blk_lt (g := gb251) (o := .cells #[.int .u64 x252000_1, .int .u64 x252001_1, .int .u64 x252002_1, .bool x252003_1, .int .u64 x252004_1, .int .u64 x252005_1, .int .u64 x252006_1, .int .u64 x252007_1] 26 (0, 0)) (by (with_reducible repeat (first | refine blk_drewN ?_ _ | refine blk_drew ?_ | refine blk_alloc ?_ _)); exact BK251.out)) : gb251 ≠ gb252)); have n6_ := Aside0.mk ((by rw [hg]; exact Nat.ne_of_gt (blk_lt (g := gb251) (o := .cells #[.int .u64 x252000_1, .int .u64 x252001_1, .int .u64 x252002_1, .bool x252003_1, .int .u64 x252004_1, .int .u64 x252005_1, .int .u64 x252006_1, .int .u64 x252007_1] 26 (0, 0)) (by (with_reducible repeat (first | refine blk_drewN ?_ _ | refine blk_drew ?_ | refine blk_alloc ?_ _)); exact BK251.out)) : gb252 ≠ gb251)); clear BK251; clear HB; have BK251 := n0_; have HB := n1_; have BK252 := n2_; have GW252 := n3_; have GE252 := n4_; have NB251_252 := n5_; have NB252_251 := n6_; clear n0_ n1_ n2_ n3_ n4_ n5_ n6_; clear hb hbox hg; have hnb69 := NB252_251.out; have hnc69 := NB251_252.out; have hcz70_0 : w68.cell? ⟨gb252, 0, none⟩ = some (.int .u64 0) := (blk_cell BK252.out 0).trans rfl; have hcz70_1 : w68.cell? ⟨gb252, 1, none⟩ = some (.int .u64 0) := (blk_cell BK252.out 1).trans rfl; have hcz70_2 : w68.cell? ⟨gb252, 2, none⟩ = some (.int .u64 0) := (blk_cell BK252.out 2).trans rfl; have hcz70_3 : w68.cell? ⟨gb252, 3, none⟩ = some (.bool false) := (blk_cell BK252.out 3).trans rfl; have hcz70_4 : w68.cell? ⟨gb252, 4, none⟩ = some (.int .u64 0) := (blk_cell BK252.out 4).trans rfl; have hcz70_5 : w68.cell? ⟨gb252, 5, none⟩ = some (.int .u64 0) := (blk_cell BK252.out 5).trans rfl; have hcz70_6 : w68.cell? ⟨gb252, 6, none⟩ = some (.int .u64 0) := (blk_cell BK252.out 6).trans rfl; have hcz70_7 : w68.cell? ⟨gb252, 7, none⟩ = some (.int .u64 0) := (blk_cell BK252.out 7).trans rfl; have hfz70_0 := blk_frozen BK252.out 0; have hfz70_1 := blk_frozen BK252.out 1; have hfz70_2 := blk_frozen BK252.out 2; have hfz70_3 := blk_frozen BK252.out 3; have hfz70_4 := blk_frozen BK252.out 4; have hfz70_5 := blk_frozen BK252.out 5; have hfz70_6 := blk_frozen BK252.out 6; have hfz70_7 := blk_frozen BK252.out 7; have p253 : 0 ≤ (x5_1 : Int) := of_decide_eq_true (by first | (with_reducible assumption) | assumption); have q253 : x5_1 < (l0.length : Int) := of_decide_eq_true (by first | (with_reducible assumption) | assumption); obtain ⟨ad253, e253, hx253_0, hx253_1, hx253_2, hx253_3, hx253_4, hx253_5⟩ := at_T29 HR0.out x5_1 p253 q253; cases e253; have hn253_0 : ad253.block ≠ gb252 := Nat.ne_of_lt (Nat.lt_of_lt_of_le (by have := World.block_lt_of_cell? _ _ hx253_0; first | rwa [add_block] at this | exact this) GW252.out); have hn253_1 : ad253.block ≠ gb252 := Nat.ne_of_lt (Nat.lt_of_lt_of_le (by have := World.block_lt_of_cell? _ _ hx253_0; first | rwa [add_block] at this | exact this) GW252.out); have hn253_2 : ad253.block ≠ gb252 := Nat.ne_of_lt (Nat.lt_of_lt_of_le (by have := World.block_lt_of_cell? _ _ hx253_0; first | rwa [add_block] at this | exact this) GW252.out); have hn253_3 : ad253.block ≠ gb252 := Nat.ne_of_lt (Nat.lt_of_lt_of_le (by have := World.block_lt_of_cell? _ _ hx253_0; first | rwa [add_block] at this | exact this) GW252.out); have hn253_4 : ad253.block ≠ gb252 := Nat.ne_of_lt (Nat.lt_of_lt_of_le (by have := World.block_lt_of_cell? _ _ hx253_0; first | rwa [add_block] at this | exact this) GW252.out); have hn253_5 : ad253.block ≠ gb252 := Nat.ne_of_lt (Nat.lt_of_lt_of_le (by have := World.block_lt_of_cell? _ _ hx253_0; first | rwa [add_block] at this | exact this) GW252.out); have hn253_6 : ad253.block ≠ gb252 := Nat.ne_of_lt (Nat.lt_of_lt_of_le (by have := World.block_lt_of_cell? _ _ hx253_0; first | rwa [add_block] at this | exact this) GW252.out); have hn253_7 : ad253.block ≠ gb252 := Nat.ne_of_lt (Nat.lt_of_lt_of_le (by have := World.block_lt_of_cell? _ _ hx253_0; first | rwa [add_block] at this | exact this) GW252.out); replace hx253_0 := (HB.out.cell (World.block_lt_of_cell? w _ hx253_0)).trans hx253_0; replace hx253_1 := (HB.out.cell (World.block_lt_of_cell? w _ hx253_1)).trans hx253_1; replace hx253_2 := (HB.out.cell (World.block_lt_of_cell? w _ hx253_2)).trans hx253_2; replace hx253_3 := (HB.out.cell (World.block_lt_of_cell? w _ hx253_3)).trans hx253_3; replace hx253_4 := (HB.out.cell (World.block_lt_of_cell? w _ hx253_4)).trans hx253_4; replace hx253_5 := (HB.out.cell (World.block_lt_of_cell? w _ hx253_5)).trans hx253_5; replace hx253_0 := (cell_far (p := ⟨gb252, 0, none⟩) (by first | (rw [add_block]; exact hn253_0) | (show (Addr.add _ _).block ≠ _; rw [add_block]; exact hn253_0) | exact hn253_0) (.int .u64 x252000_1)).trans hx253_0; replace hx253_1 := (cell_far (p := ⟨gb252, 0, none⟩) (by first | (rw [add_block]; exact hn253_0) | (show (Addr.add _ _).block ≠ _; rw [add_block]; exact hn253_0) | exact hn253_0) (.int .u64 x252000_1)).trans hx253_1; replace hx253_2 := (cell_far (p := ⟨gb252, 0, none⟩) (by first | (rw [add_block]; exact hn253_0) | (show (Addr.add _ _).block ≠ _; rw [add_block]; exact hn253_0) | exact hn253_0) (.int .u64 x252000_1)).trans hx253_2; replace hx253_3 := (cell_far (p := ⟨gb252, 0, none⟩) (by first | (rw [add_block]; exact hn253_0) | (show (Addr.add _ _).block ≠ _; rw [add_block]; exact hn253_0) | exact hn253_0) (.int .u64 x252000_1)).trans hx253_3; replace hx253_4 := (cell_far (p := ⟨gb252, 0, none⟩) (by first | (rw [add_block]; exact hn253_0) | (show (Addr.add _ _).block ≠ _; rw [add_block]; exact hn253_0) | exact hn253_0) (.int .u64 x252000_1)).trans hx253_4; replace hx253_5 := (cell_far (p := ⟨gb252, 0, none⟩) (by first | (rw [add_block]; exact hn253_0) | (show (Addr.add _ _).block ≠ _; rw [add_block]; exact hn253_0) | exact hn253_0) (.int .u64 x252000_1)).trans hx253_5; replace hx253_0 := (cell_far (p := ⟨gb252, 1, none⟩) (by first | (rw [add_block]; exact hn253_1) | (show (Addr.add _ _).block ≠ _; rw [add_block]; exact hn253_1) | exact hn253_1) (.int .u64 x252001_1)).trans hx253_0; replace hx253_1 := (cell_far (p := ⟨gb252, 1, none⟩) (by first | (rw [add_block]; exact hn253_1) | (show (Addr.add _ _).block ≠ _; rw [add_block]; exact hn253_1) | exact hn253_1) (.int .u64 x252001_1)).trans hx253_1; replace hx253_2 := (cell_far (p := ⟨gb252, 1, none⟩) (by first | (rw [add_block]; exact hn253_1) | (show (Addr.add _ _).block ≠ _; rw [add_block]; exact hn253_1) | exact hn253_1) (.int .u64 x252001_1)).trans hx253_2; replace hx253_3 := (cell_far (p := ⟨gb252, 1, none⟩) (by first | (rw [add_block]; exact hn253_1) | (show (Addr.add _ _).block ≠ _; rw [add_block]; exact hn253_1) | exact hn253_1) (.int .u64 x252001_1)).trans hx253_3; replace hx253_4 := (cell_far (p := ⟨gb252, 1, none⟩) (by first | (rw [add_block]; exact hn253_1) | (show (Addr.add _ _).block ≠ _; rw [add_block]; exact hn253_1) | exact hn253_1) (.int .u64 x252001_1)).trans hx253_4; replace hx253_5 := (cell_far (p := ⟨gb252, 1, none⟩) (by first | (rw [add_block]; exact hn253_1) | (show (Addr.add _ _).block ≠ _; rw [add_block]; exact hn253_1) | exact hn253_1) (.int .u64 x252001_1)).trans hx253_5; replace hx253_0 := (cell_far (p := ⟨gb252, 2, none⟩) (by first | (rw [add_block]; exact hn253_2) | (show (Addr.add _ _).block ≠ _; rw [add_block]; exact hn253_2) | exact hn253_2) (.int .u64 x252002_1)).trans hx253_0; replace hx253_1 := (cell_far (p := ⟨gb252, 2, none⟩) (by first | (rw [add_block]; exact hn253_2) | (show (Addr.add _ _).block ≠ _; rw [add_block]; exact hn253_2) | exact hn253_2) (.int .u64 x252002_1)).trans hx253_1; replace hx253_2 := (cell_far (p := ⟨gb252, 2, none⟩) (by first | (rw [add_block]; exact hn253_2) | (show (Addr.add _ _).block ≠ _; rw [add_block]; exact hn253_2) | exact hn253_2) (.int .u64 x252002_1)).trans hx253_2; replace hx253_3 := (cell_far (p := ⟨gb252, 2, none⟩) (by first | (rw [add_block]; exact hn253_2) | (show (Addr.add _ _).block ≠ _; rw [add_block]; exact hn253_2) | exact hn253_2) (.int .u64 x252002_1)).trans hx253_3; replace hx253_4 := (cell_far (p := ⟨gb252, 2, none⟩) (by first | (rw [add_block]; exact hn253_2) | (show (Addr.add _ _).block ≠ _; rw [add_block]; exact hn253_2) | exact hn253_2) (.int .u64 x252002_1)).trans hx253_4; replace hx253_5 := (cell_far (p := ⟨gb252, 2, none⟩) (by first | (rw [add_block]; exact hn253_2) | (show (Addr.add _ _).block ≠ _; rw [add_block]; exact hn253_2) | exact hn253_2) (.int .u64 x252002_1)).trans hx253_5; replace hx253_0 := (cell_far (p := ⟨gb252, 3, none⟩) (by first | (rw [add_block]; exact hn253_3) | (show (Addr.add _ _).block ≠ _; rw [add_block]; exact hn253_3) | exact hn253_3) (.bool x252003_1)).trans hx253_0; replace hx253_1 := (cell_far (p := ⟨gb252, 3, none⟩) (by first | (rw [add_block]; exact hn253_3) | (show (Addr.add _ _).block ≠ _; rw [add_block]; exact hn253_3) | exact hn253_3) (.bool x252003_1)).trans hx253_1; replace hx253_2 := (cell_far (p := ⟨gb252, 3, none⟩) (by first | (rw [add_block]; exact hn253_3) | (show (Addr.add _ _).block ≠ _; rw [add_block]; exact hn253_3) | exact hn253_3) (.bool x252003_1)).trans hx253_2; replace hx253_3 := (cell_far (p := ⟨gb252, 3, none⟩) (by first | (rw [add_block]; exact hn253_3) | (show (Addr.add _ _).block ≠ _; rw [add_block]; exact hn253_3) | exact hn253_3) (.bool x252003_1)).trans hx253_3; replace hx253_4 := (cell_far (p := ⟨gb252, 3, none⟩) (by first | (rw [add_block]; exact hn253_3) | (show (Addr.add _ _).block ≠ _; rw [add_block]; exact hn253_3) | exact hn253_3) (.bool x252003_1)).trans hx253_4; replace hx253_5 := (cell_far (p := ⟨gb252, 3, none⟩) (by first | (rw [add_block]; exact hn253_3) | (show (Addr.add _ _).block ≠ _; rw [add_block]; exact hn253_3) | exact hn253_3) (.bool x252003_1)).trans hx253_5; replace hx253_0 := (cell_far (p := ⟨gb252, 4, none⟩) (by first | (rw [add_block]; exact hn253_4) | (show (Addr.add _ _).block ≠ _; rw [add_block]; exact hn253_4) | exact hn253_4) (.int .u64 x252004_1)).trans hx253_0; replace hx253_1 := (cell_far (p := ⟨gb252, 4, none⟩) (by first | (rw [add_block]; exact hn253_4) | (show (Addr.add _ _).block ≠ _; rw [add_block]; exact hn253_4) | exact hn253_4) (.int .u64 x252004_1)).trans hx253_1; replace hx253_2 := (cell_far (p := ⟨gb252, 4, none⟩) (by first | (rw [add_block]; exact hn253_4) | (show (Addr.add _ _).block ≠ _; rw [add_block]; exact hn253_4) | exact hn253_4) (.int .u64 x252004_1)).trans hx253_2; replace hx253_3 := (cell_far (p := ⟨gb252, 4, none⟩) (by first | (rw [add_block]; exact hn253_4) | (show (Addr.add _ _).block ≠ _; rw [add_block]; exact hn253_4) | exact hn253_4) (.int .u64 x252004_1)).trans hx253_3; replace hx253_4 := (cell_far (p := ⟨gb252, 4, none⟩) (by first | (rw [add_block]; exact hn253_4) | (show (Addr.add _ _).block ≠ _; rw [add_block]; exact hn253_4) | exact hn253_4) (.int .u64 x252004_1)).trans hx253_4; replace hx253_5 := (cell_far (p := ⟨gb252, 4, none⟩) (by first | (rw [add_block]; exact hn253_4) | (show (Addr.add _ _).block ≠ _; rw [add_block]; exact hn253_4) | exact hn253_4) (.int .u64 x252004_1)).trans hx253_5; replace hx253_0 := (cell_far (p := ⟨gb252, 5, none⟩) (by first | (rw [add_block]; exact hn253_5) | (show (Addr.add _ _).block ≠ _; rw [add_block]; exact hn253_5) | exact hn253_5) (.int .u64 x252005_1)).trans hx253_0; replace hx253_1 := (cell_far (p := ⟨gb252, 5, none⟩) (by first | (rw [add_block]; exact hn253_5) | (show (Addr.add _ _).block ≠ _; rw [add_block]; exact hn253_5) | exact hn253_5) (.int .u64 x252005_1)).trans hx253_1; replace hx253_2 := (cell_far (p := ⟨gb252, 5, none⟩) (by first | (rw [add_block]; exact hn253_5) | (show (Addr.add _ _).block ≠ _; rw [add_block]; exact hn253_5) | exact hn253_5) (.int .u64 x252005_1)).trans hx253_2; replace hx253_3 := (cell_far (p := ⟨gb252, 5, none⟩) (by first | (rw [add_block]; exact hn253_5) | (show (Addr.add _ _).block ≠ _; rw [add_block]; exact hn253_5) | exact hn253_5) (.int .u64 x252005_1)).trans hx253_3; replace hx253_4 := (cell_far (p := ⟨gb252, 5, none⟩) (by first | (rw [add_block]; exact hn253_5) | (show (Addr.add _ _).block ≠ _; rw [add_block]; exact hn253_5) | exact hn253_5) (.int .u64 x252005_1)).trans hx253_4; replace hx253_5 := (cell_far (p := ⟨gb252, 5, none⟩) (by first | (rw [add_block]; exact hn253_5) | (show (Addr.add _ _).block ≠ _; rw [add_block]; exact hn253_5) | exact hn253_5) (.int .u64 x252005_1)).trans hx253_5; replace hx253_0 := (cell_far (p := ⟨gb252, 6, none⟩) (by first | (rw [add_block]; exact hn253_6) | (show (Addr.add _ _).block ≠ _; rw [add_block]; exact hn253_6) | exact hn253_6) (.int .u64 x252006_1)).trans hx253_0; replace hx253_1 := (cell_far (p := ⟨gb252, 6, none⟩) (by first | (rw [add_block]; exact hn253_6) | (show (Addr.add _ _).block ≠ _; rw [add_block]; exact hn253_6) | exact hn253_6) (.int .u64 x252006_1)).trans hx253_1; replace hx253_2 := (cell_far (p := ⟨gb252, 6, none⟩) (by first | (rw [add_block]; exact hn253_6) | (show (Addr.add _ _).block ≠ _; rw [add_block]; exact hn253_6) | exact hn253_6) (.int .u64 x252006_1)).trans hx253_2; replace hx253_3 := (cell_far (p := ⟨gb252, 6, none⟩) (by first | (rw [add_block]; exact hn253_6) | (show (Addr.add _ _).block ≠ _; rw [add_block]; exact hn253_6) | exact hn253_6) (.int .u64 x252006_1)).trans hx253_3; replace hx253_4 := (cell_far (p := ⟨gb252, 6, none⟩) (by first | (rw [add_block]; exact hn253_6) | (show (Addr.add _ _).block ≠ _; rw [add_block]; exact hn253_6) | exact hn253_6) (.int .u64 x252006_1)).trans hx253_4; replace hx253_5 := (cell_far (p := ⟨gb252, 6, none⟩) (by first | (rw [add_block]; exact hn253_6) | (show (Addr.add _ _).block ≠ _; rw [add_block]; exact hn253_6) | exact hn253_6) (.int .u64 x252006_1)).trans hx253_5; replace hx253_0 := (cell_far (p := ⟨gb252, 7, none⟩) (by first | (rw [add_block]; exact hn253_7) | (show (Addr.add _ _).block ≠ _; rw [add_block]; exact hn253_7) | exact hn253_7) (.int .u64 x252007_1)).trans hx253_0; replace hx253_1 := (cell_far (p := ⟨gb252, 7, none⟩) (by first | (rw [add_block]; exact hn253_7) | (show (Addr.add _ _).block ≠ _; rw [add_block]; exact hn253_7) | exact hn253_7) (.int .u64 x252007_1)).trans hx253_1; replace hx253_2 := (cell_far (p := ⟨gb252, 7, none⟩) (by first | (rw [add_block]; exact hn253_7) | (show (Addr.add _ _).block ≠ _; rw [add_block]; exact hn253_7) | exact hn253_7) (.int .u64 x252007_1)).trans hx253_2; replace hx253_3 := (cell_far (p := ⟨gb252, 7, none⟩) (by first | (rw [add_block]; exact hn253_7) | (show (Addr.add _ _).block ≠ _; rw [add_block]; exact hn253_7) | exact hn253_7) (.int .u64 x252007_1)).trans hx253_3; replace hx253_4 := (cell_far (p := ⟨gb252, 7, none⟩) (by first | (rw [add_block]; exact hn253_7) | (show (Addr.add _ _).block ≠ _; rw [add_block]; exact hn253_7) | exact hn253_7) (.int .u64 x252007_1)).trans hx253_4; replace hx253_5 := (cell_far (p := ⟨gb252, 7, none⟩) (by first | (rw [add_block]; exact hn253_7) | (show (Addr.add _ _).block ≠ _; rw [add_block]; exact hn253_7) | exact hn253_7) (.int .u64 x252007_1)).trans hx253_5; clear hn253_0; clear hn253_1; clear hn253_2; clear hn253_3; clear hn253_4; clear hn253_5; clear hn253_6; clear hn253_7; replace p253 := eq_true p253; replace q253 := eq_true q253; have hcz71_0 : w68.cell? ⟨gb251, 0, none⟩ = some (.int .u64 x252000_1) := (blk_cell BK251.out 0).trans rfl; have hcz71_1 : w68.cell? ⟨gb251, 1, none⟩ = some (.int .u64 x252001_1) := (blk_cell BK251.out 1).trans rfl; have hcz71_2 : w68.cell? ⟨gb251, 2, none⟩ = some (.int .u64 x252002_1) := (blk_cell BK251.out 2).trans rfl; have hcz71_3 : w68.cell? ⟨gb251, 3, none⟩ = some (.bool x252003_1) := (blk_cell BK251.out 3).trans rfl; have hcz71_4 : w68.cell? ⟨gb251, 4, none⟩ = some (.int .u64 x252004_1) := (blk_cell BK251.out 4).trans rfl; have hcz71_5 : w68.cell? ⟨gb251, 5, none⟩ = some (.int .u64 x252005_1) := (blk_cell BK251.out 5).trans rfl; have hcz71_6 : w68.cell? ⟨gb251, 6, none⟩ = some (.int .u64 x252006_1) := (blk_cell BK251.out 6).trans rfl; have hcz71_7 : w68.cell? ⟨gb251, 7, none⟩ = some (.int .u64 x252007_1) := (blk_cell BK251.out 7).trans rfl; have hfz71_0 := blk_frozen BK251.out 0; have hfz71_1 := blk_frozen BK251.out 1; have hfz71_2 := blk_frozen BK251.out 2; have hfz71_3 := blk_frozen BK251.out 3; have hfz71_4 := blk_frozen BK251.out 4; have hfz71_5 := blk_frozen BK251.out 5; have hfz71_6 := blk_frozen BK251.out 6; have hfz71_7 := blk_frozen BK251.out 7) | ((with_reducible refine gate_callee (f := 11) rfl ?_); refine goesL_ (some 95) rfl rfl Try.func11 (by kernel_rfl) rfl #[.agg #[.int .u64 x252000_1, .int .u64 x252001_1, .int .u64 x252002_1, .bool x252003_1, .int .u64 x252004_1, .int .u64 x252005_1, .int .u64 x252006_1, .int .u64 x252007_1]] rfl (by (try simp only [List.map_toArray, List.map_cons, List.map_nil]); first | done | rfl | (simp only [List.length_drop, List.length_take]; rfl)) ?_; (with_reducible refine (cubic_Collapse.calls x252000_1 x252001_1 x252002_1 x252003_1 x252004_1 x252005_1 x252006_1 x252007_1 t277 t278 t279 t280 t281 t282 t283 t284 _ A62.out).mono ?_); rintro e w72 ⟨rfl, hb⟩; refine ⟨_, rfl, ?_⟩; have n0_ := Aside0.mk (blk_below (g := gb251) (o := .cells #[.int .u64 x252000_1, .int .u64 x252001_1, .int .u64 x252002_1, .bool x252003_1, .int .u64 x252004_1, .int .u64 x252005_1, .int .u64 x252006_1, .int .u64 x252007_1] 26 (0, 0)) (by (with_reducible repeat (first | refine blk_drewN ?_ _ | refine blk_drew ?_ | refine blk_alloc ?_ _)); refine blk_far ?_ NB251_252.out _; (with_reducible repeat (first | refine blk_drewN ?_ _ | refine blk_drew ?_ | refine blk_alloc ?_ _)); refine blk_far ?_ NB251_252.out _; (with_reducible repeat (first | refine blk_drewN ?_ _ | refine blk_drew ?_ | refine blk_alloc ?_ _)); refine blk_far ?_ NB251_252.out _; (with_reducible repeat (first | refine blk_drewN ?_ _ | refine blk_drew ?_ | refine blk_alloc ?_ _)); refine blk_far ?_ NB251_252.out _; (with_reducible repeat (first | refine blk_drewN ?_ _ | refine blk_drew ?_ | refine blk_alloc ?_ _)); refine blk_far ?_ NB251_252.out _; (with_reducible repeat (first | refine blk_drewN ?_ _ | refine blk_drew ?_ | refine blk_alloc ?_ _)); refine blk_far ?_ NB251_252.out _; (with_reducible repeat (first | refine blk_drewN ?_ _ | refine blk_drew ?_ | refine blk_alloc ?_ _)); refine blk_far ?_ NB251_252.out _; (with_reducible repeat (first | refine blk_drewN ?_ _ | refine blk_drew ?_ | refine blk_alloc ?_ _)); refine blk_far ?_ NB251_252.out _; (with_reducible repeat (first | refine blk_drewN ?_ _ | refine blk_drew ?_ | refine blk_alloc ?_ _)); exact BK251.out) hb); have n1_ := Aside0.mk (blk_below (g := gb252) (o := .cells #[.int .u64 x252000_1, .int .u64 x252001_1, .int .u64 x252002_1, .bool x252003_1, .int .u64 x252004_1, .int .u64 x252005_1, .int .u64 x252006_1, .int .u64 x252007_1] 26 (0, 0)) (by (with_reducible repeat (first | refine blk_drewN ?_ _ | refine blk_drew ?_ | refine blk_alloc ?_ _)); refine blk_put (cs := #[.int .u64 x252000_1, .int .u64 x252001_1, .int .u64 x252002_1, .bool x252003_1, .int .u64 x252004_1, .int .u64 x252005_1, .int .u64 x252006_1, .int .u64 0]) ?_ 7 _ rfl; (with_reducible repeat (first | refine blk_drewN ?_ _ | refine blk_drew ?_ | refine blk_alloc ?_ _)); refine blk_put (cs := #[.int .u64 x252000_1, .int .u64 x252001_1, .int .u64 x252002_1, .bool x252003_1, .int .u64 x252004_1, .int .u64 x252005_1, .int .u64 0, .int .u64 0]) ?_ 6 _ rfl; (with_reducible repeat (first | refine blk_drewN ?_ _ | refine blk_drew ?_ | refine blk_alloc ?_ _)); refine blk_put (cs := #[.int .u64 x252000_1, .int .u64 x252001_1, .int .u64 x252002_1, .bool x252003_1, .int .u64 x252004_1, .int .u64 0, .int .u64 0, .int .u64 0]) ?_ 5 _ rfl; (with_reducible repeat (first | refine blk_drewN ?_ _ | refine blk_drew ?_ | refine blk_alloc ?_ _)); refine blk_put (cs := #[.int .u64 x252000_1, .int .u64 x252001_1, .int .u64 x252002_1, .bool x252003_1, .int .u64 0, .int .u64 0, .int .u64 0, .int .u64 0]) ?_ 4 _ rfl; (with_reducible repeat (first | refine blk_drewN ?_ _ | refine blk_drew ?_ | refine blk_alloc ?_ _)); refine blk_put (cs := #[.int .u64 x252000_1, .int .u64 x252001_1, .int .u64 x252002_1, .bool false, .int .u64 0, .int .u64 0, .int .u64 0, .int .u64 0]) ?_ 3 _ rfl; (with_reducible repeat (first | refine blk_drewN ?_ _ | refine blk_drew ?_ | refine blk_alloc ?_ _)); refine blk_put (cs := #[.int .u64 x252000_1, .int .u64 x252001_1, .int .u64 0, .bool false, .int .u64 0, .int .u64 0, .int .u64 0, .int .u64 0]) ?_ 2 _ rfl; (with_reducible repeat (first | refine blk_drewN ?_ _ | refine blk_drew ?_ | refine blk_alloc ?_ _)); refine blk_put (cs := #[.int .u64 x252000_1, .int .u64 0, .int .u64 0, .bool false, .int .u64 0, .int .u64 0, .int .u64 0, .int .u64 0]) ?_ 1 _ rfl; (with_reducible repeat (first | refine blk_drewN ?_ _ | refine blk_drew ?_ | refine blk_alloc ?_ _)); refine blk_put (cs := #[.int .u64 0, .int .u64 0, .int .u64 0, .bool false, .int .u64 0, .int .u64 0, .int .u64 0, .int .u64 0]) ?_ 0 _ rfl; (with_reducible repeat (first | refine blk_drewN ?_ _ | refine blk_drew ?_ | refine blk_alloc ?_ _)); exact BK252.out) hb); have n2_ := Aside0.mk (below_step (by repeat (first | (with_reducible first | exact HB.out | apply below_alloc | apply pw_below_drewN | apply below_drew1 | refine below_set ?_ GE251.out | refine below_set ?_ GE252.out) | exact HB.out)) hb); clear BK251; clear BK252; clear HB; have BK251 := n0_; have BK252 := n1_; have HB := n2_; clear n0_ n1_ n2_; (try clear hb); (try clear hb2); (try clear hk); (try clear hi); have hcz73_0 : w72.cell? ⟨gb251, 0, none⟩ = some (.int .u64 x252000_1) := (blk_cell BK251.out 0).trans rfl; have hcz73_1 : w72.cell? ⟨gb251, 1, none⟩ = some (.int .u64 x252001_1) := (blk_cell BK251.out 1).trans rfl; have hcz73_2 : w72.cell? ⟨gb251, 2, none⟩ = some (.int .u64 x252002_1) := (blk_cell BK251.out 2).trans rfl; have hcz73_3 : w72.cell? ⟨gb251, 3, none⟩ = some (.bool x252003_1) := (blk_cell BK251.out 3).trans rfl; have hcz73_4 : w72.cell? ⟨gb251, 4, none⟩ = some (.int .u64 x252004_1) := (blk_cell BK251.out 4).trans rfl; have hcz73_5 : w72.cell? ⟨gb251, 5, none⟩ = some (.int .u64 x252005_1) := (blk_cell BK251.out 5).trans rfl; have hcz73_6 : w72.cell? ⟨gb251, 6, none⟩ = some (.int .u64 x252006_1) := (blk_cell BK251.out 6).trans rfl; have hcz73_7 : w72.cell? ⟨gb251, 7, none⟩ = some (.int .u64 x252007_1) := (blk_cell BK251.out 7).trans rfl; have hfz73_0 := blk_frozen BK251.out 0; have hfz73_1 := blk_frozen BK251.out 1; have hfz73_2 := blk_frozen BK251.out 2; have hfz73_3 := blk_frozen BK251.out 3; have hfz73_4 := blk_frozen BK251.out 4; have hfz73_5 := blk_frozen BK251.out 5; have hfz73_6 := blk_frozen BK251.out 6; have hfz73_7 := blk_frozen BK251.out 7))
                          go_roundg k1
                          case measure => have := HK1.out; omega
                          case rel => exact ⟨(wrap64 (x5_1 + 1)), (t277), (t278), (t279), (t280), (t281), (t282), (t283), (t284), (by first | rfl | (simp; done) | (simp [*]; done)), H', ⟨by have := HK1.out; omega⟩, ⟨by (with_reducible repeat (first | refine blk_drewN ?_ _ | refine blk_drew ?_ | refine blk_alloc ?_ _)); refine blk_put (cs := #[.int .u64 t277, .int .u64 t278, .int .u64 t279, .bool t280, .int .u64 t281, .int .u64 t282, .int .u64 t283, .int .u64 x252007_1]) ?_ 7 _ rfl; (with_reducible repeat (first | refine blk_drewN ?_ _ | refine blk_drew ?_ | refine blk_alloc ?_ _)); refine blk_put (cs := #[.int .u64 t277, .int .u64 t278, .int .u64 t279, .bool t280, .int .u64 t281, .int .u64 t282, .int .u64 x252006_1, .int .u64 x252007_1]) ?_ 6 _ rfl; (with_reducible repeat (first | refine blk_drewN ?_ _ | refine blk_drew ?_ | refine blk_alloc ?_ _)); refine blk_put (cs := #[.int .u64 t277, .int .u64 t278, .int .u64 t279, .bool t280, .int .u64 t281, .int .u64 x252005_1, .int .u64 x252006_1, .int .u64 x252007_1]) ?_ 5 _ rfl; (with_reducible repeat (first | refine blk_drewN ?_ _ | refine blk_drew ?_ | refine blk_alloc ?_ _)); refine blk_put (cs := #[.int .u64 t277, .int .u64 t278, .int .u64 t279, .bool t280, .int .u64 x252004_1, .int .u64 x252005_1, .int .u64 x252006_1, .int .u64 x252007_1]) ?_ 4 _ rfl; (with_reducible repeat (first | refine blk_drewN ?_ _ | refine blk_drew ?_ | refine blk_alloc ?_ _)); refine blk_put (cs := #[.int .u64 t277, .int .u64 t278, .int .u64 t279, .bool x252003_1, .int .u64 x252004_1, .int .u64 x252005_1, .int .u64 x252006_1, .int .u64 x252007_1]) ?_ 3 _ rfl; (with_reducible repeat (first | refine blk_drewN ?_ _ | refine blk_drew ?_ | refine blk_alloc ?_ _)); refine blk_put (cs := #[.int .u64 t277, .int .u64 t278, .int .u64 x252002_1, .bool x252003_1, .int .u64 x252004_1, .int .u64 x252005_1, .int .u64 x252006_1, .int .u64 x252007_1]) ?_ 2 _ rfl; (with_reducible repeat (first | refine blk_drewN ?_ _ | refine blk_drew ?_ | refine blk_alloc ?_ _)); refine blk_put (cs := #[.int .u64 t277, .int .u64 x252001_1, .int .u64 x252002_1, .bool x252003_1, .int .u64 x252004_1, .int .u64 x252005_1, .int .u64 x252006_1, .int .u64 x252007_1]) ?_ 1 _ rfl; (with_reducible repeat (first | refine blk_drewN ?_ _ | refine blk_drew ?_ | refine blk_alloc ?_ _)); refine blk_put (cs := #[.int .u64 x252000_1, .int .u64 x252001_1, .int .u64 x252002_1, .bool x252003_1, .int .u64 x252004_1, .int .u64 x252005_1, .int .u64 x252006_1, .int .u64 x252007_1]) ?_ 0 _ rfl; (with_reducible repeat (first | refine blk_drewN ?_ _ | refine blk_drew ?_ | refine blk_alloc ?_ _)); exact BK251.out⟩, ⟨by repeat (first | (with_reducible first | exact HB.out | apply below_alloc | apply pw_below_drewN | apply below_drew1 | refine below_set ?_ GE251.out | refine below_set ?_ GE252.out) | exact HB.out)⟩⟩
                · rw [if_neg c61] at H
                  have c61b0 : (((rd_T29 l0 x5_1).f0) == 3) = false := beq_eq_false_iff_ne.mpr c61
                  have c61b1 : (((rd_T29 l0 x5_1).f0) != 3) = true := bne_iff_ne.mpr c61
                  by_cases c74 : x252000_1 < 2400
                  · rw [if_pos c74] at H
                    exact absurd H (by simp)
                  · rw [if_neg c74] at H
                    have c74b0 : decide (x252000_1 < 2400) = false := decide_eq_false c74
                    clear c74
                    by_cases c75 : x252000_1 > 16777216
                    · rw [if_pos c75] at H
                      exact absurd H (by simp)
                    · rw [if_neg c75] at H
                      have c75b0 : decide (16777216 < x252000_1) = false := decide_eq_false c75
                      clear c75
                      by_cases c76 : x252001_1 < 2400
                      · rw [if_pos c76] at H
                        exact absurd H (by simp)
                      · rw [if_neg c76] at H
                        have c76b0 : decide (x252001_1 < 2400) = false := decide_eq_false c76
                        clear c76
                        by_cases c77 : x252001_1 > 16777216
                        · rw [if_pos c77] at H
                          exact absurd H (by simp)
                        · rw [if_neg c77] at H
                          have c77b0 : decide (16777216 < x252001_1) = false := decide_eq_false c77
                          clear c77
                          have H' := Aside0.mk H
                          clear H
                          have hcz78_0 : wr.cell? ⟨gb251, 0, none⟩ = some (.int .u64 x252000_1) := (blk_cell BK251.out 0).trans rfl
                          have hcz78_1 : wr.cell? ⟨gb251, 1, none⟩ = some (.int .u64 x252001_1) := (blk_cell BK251.out 1).trans rfl
                          have hcz78_2 : wr.cell? ⟨gb251, 2, none⟩ = some (.int .u64 x252002_1) := (blk_cell BK251.out 2).trans rfl
                          have hcz78_3 : wr.cell? ⟨gb251, 3, none⟩ = some (.bool x252003_1) := (blk_cell BK251.out 3).trans rfl
                          have hcz78_4 : wr.cell? ⟨gb251, 4, none⟩ = some (.int .u64 x252004_1) := (blk_cell BK251.out 4).trans rfl
                          have hcz78_5 : wr.cell? ⟨gb251, 5, none⟩ = some (.int .u64 x252005_1) := (blk_cell BK251.out 5).trans rfl
                          have hcz78_6 : wr.cell? ⟨gb251, 6, none⟩ = some (.int .u64 x252006_1) := (blk_cell BK251.out 6).trans rfl
                          have hcz78_7 : wr.cell? ⟨gb251, 7, none⟩ = some (.int .u64 x252007_1) := (blk_cell BK251.out 7).trans rfl
                          have hfz78_0 := blk_frozen BK251.out 0
                          have hfz78_1 := blk_frozen BK251.out 1
                          have hfz78_2 := blk_frozen BK251.out 2
                          have hfz78_3 := blk_frozen BK251.out 3
                          have hfz78_4 := blk_frozen BK251.out 4
                          have hfz78_5 := blk_frozen BK251.out 5
                          have hfz78_6 := blk_frozen BK251.out 6
                          have hfz78_7 := blk_frozen BK251.out 7
                          go_wp2_with (first | ((with_reducible refine gate_dst (N := 6) rfl ?_); refine box_event ?hg (N := 6) ?hd (cs := #[.int .u64 0, .int .u64 0, .int .u64 0, .bool false, .int .u64 0, .int .u64 0, .int .u64 0, .int .u64 0]) (t := 26) ?hr ?_; (case hd => rfl); (case hg => rfl); (case hr => first | (go_simp; done) | (go_simp; rfl)); intro gb252 hg w79 hbox hb; have n0_ := Aside0.mk (blk_below (g := gb251) (o := .cells #[.int .u64 x252000_1, .int .u64 x252001_1, .int .u64 x252002_1, .bool x252003_1, .int .u64 x252004_1, .int .u64 x252005_1, .int .u64 x252006_1, .int .u64 x252007_1] 26 (0, 0)) (by (with_reducible repeat (first | refine blk_drewN ?_ _ | refine blk_drew ?_ | refine blk_alloc ?_ _)); exact BK251.out) hb); have n1_ := Aside0.mk (below_step (by repeat (first | (with_reducible first | exact HB.out | apply below_alloc | apply pw_below_drewN | apply below_drew1 | refine below_set ?_ GE251.out) | exact HB.out)) hb); have n2_ := Aside0.mk (hbox); have n3_ := Aside0.mk ((by rw [hg]; exact (below_size (by repeat (first | (with_reducible first | exact HB.out | apply below_alloc | apply pw_below_drewN | apply below_drew1 | refine below_set ?_ GE251.out) | exact HB.out))) : w.heap.size ≤ gb252)); have n4_ := Aside0.mk ((by rw [hg]; exact (below_size (by repeat (first | (with_reducible first | exact HB.out | apply below_alloc | apply pw_below_drewN | apply below_drew1 | refine below_set ?_ GE251.out) | exact HB.out))) : w.heap.size ≤ gb252)); have n5_ := Aside0.mk ((by rw [hg]; exact Nat.ne_of_lt (blk_lt (g := gb251) (o := .cells #[.int .u64 x252000_1, .int .u64 x252001_1, .int .u64 x252002_1, .bool x252003_1, .int .u64 x252004_1, .int .u64 x252005_1, .int .u64 x252006_1, .int .u64 x252007_1] 26 (0, 0)) (by (with_reducible repeat (first | refine blk_drewN ?_ _ | refine blk_drew ?_ | refine blk_alloc ?_ _)); exact BK251.out)) : gb251 ≠ gb252)); have n6_ := Aside0.mk ((by rw [hg]; exact Nat.ne_of_gt (blk_lt (g := gb251) (o := .cells #[.int .u64 x252000_1, .int .u64 x252001_1, .int .u64 x252002_1, .bool x252003_1, .int .u64 x252004_1, .int .u64 x252005_1, .int .u64 x252006_1, .int .u64 x252007_1] 26 (0, 0)) (by (with_reducible repeat (first | refine blk_drewN ?_ _ | refine blk_drew ?_ | refine blk_alloc ?_ _)); exact BK251.out)) : gb252 ≠ gb251)); clear BK251; clear HB; have BK251 := n0_; have HB := n1_; have BK252 := n2_; have GW252 := n3_; have GE252 := n4_; have NB251_252 := n5_; have NB252_251 := n6_; clear n0_ n1_ n2_ n3_ n4_ n5_ n6_; clear hb hbox hg; have hnb80 := NB252_251.out; have hnc80 := NB251_252.out; have hcz81_0 : w79.cell? ⟨gb252, 0, none⟩ = some (.int .u64 0) := (blk_cell BK252.out 0).trans rfl; have hcz81_1 : w79.cell? ⟨gb252, 1, none⟩ = some (.int .u64 0) := (blk_cell BK252.out 1).trans rfl; have hcz81_2 : w79.cell? ⟨gb252, 2, none⟩ = some (.int .u64 0) := (blk_cell BK252.out 2).trans rfl; have hcz81_3 : w79.cell? ⟨gb252, 3, none⟩ = some (.bool false) := (blk_cell BK252.out 3).trans rfl; have hcz81_4 : w79.cell? ⟨gb252, 4, none⟩ = some (.int .u64 0) := (blk_cell BK252.out 4).trans rfl; have hcz81_5 : w79.cell? ⟨gb252, 5, none⟩ = some (.int .u64 0) := (blk_cell BK252.out 5).trans rfl; have hcz81_6 : w79.cell? ⟨gb252, 6, none⟩ = some (.int .u64 0) := (blk_cell BK252.out 6).trans rfl; have hcz81_7 : w79.cell? ⟨gb252, 7, none⟩ = some (.int .u64 0) := (blk_cell BK252.out 7).trans rfl; have hfz81_0 := blk_frozen BK252.out 0; have hfz81_1 := blk_frozen BK252.out 1; have hfz81_2 := blk_frozen BK252.out 2; have hfz81_3 := blk_frozen BK252.out 3; have hfz81_4 := blk_frozen BK252.out 4; have hfz81_5 := blk_frozen BK252.out 5; have hfz81_6 := blk_frozen BK252.out 6; have hfz81_7 := blk_frozen BK252.out 7; have p253 : 0 ≤ (x5_1 : Int) := of_decide_eq_true (by first | (with_reducible assumption) | assumption); have q253 : x5_1 < (l0.length : Int) := of_decide_eq_true (by first | (with_reducible assumption) | assumption); obtain ⟨ad253, e253, hx253_0, hx253_1, hx253_2, hx253_3, hx253_4, hx253_5⟩ := at_T29 HR0.out x5_1 p253 q253; cases e253; have hn253_0 : ad253.block ≠ gb252 := Nat.ne_of_lt (Nat.lt_of_lt_of_le (by have := World.block_lt_of_cell? _ _ hx253_0; first | rwa [add_block] at this | exact this) GW252.out); have hn253_1 : ad253.block ≠ gb252 := Nat.ne_of_lt (Nat.lt_of_lt_of_le (by have := World.block_lt_of_cell? _ _ hx253_0; first | rwa [add_block] at this | exact this) GW252.out); have hn253_2 : ad253.block ≠ gb252 := Nat.ne_of_lt (Nat.lt_of_lt_of_le (by have := World.block_lt_of_cell? _ _ hx253_0; first | rwa [add_block] at this | exact this) GW252.out); have hn253_3 : ad253.block ≠ gb252 := Nat.ne_of_lt (Nat.lt_of_lt_of_le (by have := World.block_lt_of_cell? _ _ hx253_0; first | rwa [add_block] at this | exact this) GW252.out); have hn253_4 : ad253.block ≠ gb252 := Nat.ne_of_lt (Nat.lt_of_lt_of_le (by have := World.block_lt_of_cell? _ _ hx253_0; first | rwa [add_block] at this | exact this) GW252.out); have hn253_5 : ad253.block ≠ gb252 := Nat.ne_of_lt (Nat.lt_of_lt_of_le (by have := World.block_lt_of_cell? _ _ hx253_0; first | rwa [add_block] at this | exact this) GW252.out); have hn253_6 : ad253.block ≠ gb252 := Nat.ne_of_lt (Nat.lt_of_lt_of_le (by have := World.block_lt_of_cell? _ _ hx253_0; first | rwa [add_block] at this | exact this) GW252.out); have hn253_7 : ad253.block ≠ gb252 := Nat.ne_of_lt (Nat.lt_of_lt_of_le (by have := World.block_lt_of_cell? _ _ hx253_0; first | rwa [add_block] at this | exact this) GW252.out); replace hx253_0 := (HB.out.cell (World.block_lt_of_cell? w _ hx253_0)).trans hx253_0; replace hx253_1 := (HB.out.cell (World.block_lt_of_cell? w _ hx253_1)).trans hx253_1; replace hx253_2 := (HB.out.cell (World.block_lt_of_cell? w _ hx253_2)).trans hx253_2; replace hx253_3 := (HB.out.cell (World.block_lt_of_cell? w _ hx253_3)).trans hx253_3; replace hx253_4 := (HB.out.cell (World.block_lt_of_cell? w _ hx253_4)).trans hx253_4; replace hx253_5 := (HB.out.cell (World.block_lt_of_cell? w _ hx253_5)).trans hx253_5; replace hx253_0 := (cell_far (p := ⟨gb252, 0, none⟩) (by first | (rw [add_block]; exact hn253_0) | (show (Addr.add _ _).block ≠ _; rw [add_block]; exact hn253_0) | exact hn253_0) (.int .u64 x252000_1)).trans hx253_0; replace hx253_1 := (cell_far (p := ⟨gb252, 0, none⟩) (by first | (rw [add_block]; exact hn253_0) | (show (Addr.add _ _).block ≠ _; rw [add_block]; exact hn253_0) | exact hn253_0) (.int .u64 x252000_1)).trans hx253_1; replace hx253_2 := (cell_far (p := ⟨gb252, 0, none⟩) (by first | (rw [add_block]; exact hn253_0) | (show (Addr.add _ _).block ≠ _; rw [add_block]; exact hn253_0) | exact hn253_0) (.int .u64 x252000_1)).trans hx253_2; replace hx253_3 := (cell_far (p := ⟨gb252, 0, none⟩) (by first | (rw [add_block]; exact hn253_0) | (show (Addr.add _ _).block ≠ _; rw [add_block]; exact hn253_0) | exact hn253_0) (.int .u64 x252000_1)).trans hx253_3; replace hx253_4 := (cell_far (p := ⟨gb252, 0, none⟩) (by first | (rw [add_block]; exact hn253_0) | (show (Addr.add _ _).block ≠ _; rw [add_block]; exact hn253_0) | exact hn253_0) (.int .u64 x252000_1)).trans hx253_4; replace hx253_5 := (cell_far (p := ⟨gb252, 0, none⟩) (by first | (rw [add_block]; exact hn253_0) | (show (Addr.add _ _).block ≠ _; rw [add_block]; exact hn253_0) | exact hn253_0) (.int .u64 x252000_1)).trans hx253_5; replace hx253_0 := (cell_far (p := ⟨gb252, 1, none⟩) (by first | (rw [add_block]; exact hn253_1) | (show (Addr.add _ _).block ≠ _; rw [add_block]; exact hn253_1) | exact hn253_1) (.int .u64 x252001_1)).trans hx253_0; replace hx253_1 := (cell_far (p := ⟨gb252, 1, none⟩) (by first | (rw [add_block]; exact hn253_1) | (show (Addr.add _ _).block ≠ _; rw [add_block]; exact hn253_1) | exact hn253_1) (.int .u64 x252001_1)).trans hx253_1; replace hx253_2 := (cell_far (p := ⟨gb252, 1, none⟩) (by first | (rw [add_block]; exact hn253_1) | (show (Addr.add _ _).block ≠ _; rw [add_block]; exact hn253_1) | exact hn253_1) (.int .u64 x252001_1)).trans hx253_2; replace hx253_3 := (cell_far (p := ⟨gb252, 1, none⟩) (by first | (rw [add_block]; exact hn253_1) | (show (Addr.add _ _).block ≠ _; rw [add_block]; exact hn253_1) | exact hn253_1) (.int .u64 x252001_1)).trans hx253_3; replace hx253_4 := (cell_far (p := ⟨gb252, 1, none⟩) (by first | (rw [add_block]; exact hn253_1) | (show (Addr.add _ _).block ≠ _; rw [add_block]; exact hn253_1) | exact hn253_1) (.int .u64 x252001_1)).trans hx253_4; replace hx253_5 := (cell_far (p := ⟨gb252, 1, none⟩) (by first | (rw [add_block]; exact hn253_1) | (show (Addr.add _ _).block ≠ _; rw [add_block]; exact hn253_1) | exact hn253_1) (.int .u64 x252001_1)).trans hx253_5; replace hx253_0 := (cell_far (p := ⟨gb252, 2, none⟩) (by first | (rw [add_block]; exact hn253_2) | (show (Addr.add _ _).block ≠ _; rw [add_block]; exact hn253_2) | exact hn253_2) (.int .u64 x252002_1)).trans hx253_0; replace hx253_1 := (cell_far (p := ⟨gb252, 2, none⟩) (by first | (rw [add_block]; exact hn253_2) | (show (Addr.add _ _).block ≠ _; rw [add_block]; exact hn253_2) | exact hn253_2) (.int .u64 x252002_1)).trans hx253_1; replace hx253_2 := (cell_far (p := ⟨gb252, 2, none⟩) (by first | (rw [add_block]; exact hn253_2) | (show (Addr.add _ _).block ≠ _; rw [add_block]; exact hn253_2) | exact hn253_2) (.int .u64 x252002_1)).trans hx253_2; replace hx253_3 := (cell_far (p := ⟨gb252, 2, none⟩) (by first | (rw [add_block]; exact hn253_2) | (show (Addr.add _ _).block ≠ _; rw [add_block]; exact hn253_2) | exact hn253_2) (.int .u64 x252002_1)).trans hx253_3; replace hx253_4 := (cell_far (p := ⟨gb252, 2, none⟩) (by first | (rw [add_block]; exact hn253_2) | (show (Addr.add _ _).block ≠ _; rw [add_block]; exact hn253_2) | exact hn253_2) (.int .u64 x252002_1)).trans hx253_4; replace hx253_5 := (cell_far (p := ⟨gb252, 2, none⟩) (by first | (rw [add_block]; exact hn253_2) | (show (Addr.add _ _).block ≠ _; rw [add_block]; exact hn253_2) | exact hn253_2) (.int .u64 x252002_1)).trans hx253_5; replace hx253_0 := (cell_far (p := ⟨gb252, 3, none⟩) (by first | (rw [add_block]; exact hn253_3) | (show (Addr.add _ _).block ≠ _; rw [add_block]; exact hn253_3) | exact hn253_3) (.bool x252003_1)).trans hx253_0; replace hx253_1 := (cell_far (p := ⟨gb252, 3, none⟩) (by first | (rw [add_block]; exact hn253_3) | (show (Addr.add _ _).block ≠ _; rw [add_block]; exact hn253_3) | exact hn253_3) (.bool x252003_1)).trans hx253_1; replace hx253_2 := (cell_far (p := ⟨gb252, 3, none⟩) (by first | (rw [add_block]; exact hn253_3) | (show (Addr.add _ _).block ≠ _; rw [add_block]; exact hn253_3) | exact hn253_3) (.bool x252003_1)).trans hx253_2; replace hx253_3 := (cell_far (p := ⟨gb252, 3, none⟩) (by first | (rw [add_block]; exact hn253_3) | (show (Addr.add _ _).block ≠ _; rw [add_block]; exact hn253_3) | exact hn253_3) (.bool x252003_1)).trans hx253_3; replace hx253_4 := (cell_far (p := ⟨gb252, 3, none⟩) (by first | (rw [add_block]; exact hn253_3) | (show (Addr.add _ _).block ≠ _; rw [add_block]; exact hn253_3) | exact hn253_3) (.bool x252003_1)).trans hx253_4; replace hx253_5 := (cell_far (p := ⟨gb252, 3, none⟩) (by first | (rw [add_block]; exact hn253_3) | (show (Addr.add _ _).block ≠ _; rw [add_block]; exact hn253_3) | exact hn253_3) (.bool x252003_1)).trans hx253_5; replace hx253_0 := (cell_far (p := ⟨gb252, 4, none⟩) (by first | (rw [add_block]; exact hn253_4) | (show (Addr.add _ _).block ≠ _; rw [add_block]; exact hn253_4) | exact hn253_4) (.int .u64 x252004_1)).trans hx253_0; replace hx253_1 := (cell_far (p := ⟨gb252, 4, none⟩) (by first | (rw [add_block]; exact hn253_4) | (show (Addr.add _ _).block ≠ _; rw [add_block]; exact hn253_4) | exact hn253_4) (.int .u64 x252004_1)).trans hx253_1; replace hx253_2 := (cell_far (p := ⟨gb252, 4, none⟩) (by first | (rw [add_block]; exact hn253_4) | (show (Addr.add _ _).block ≠ _; rw [add_block]; exact hn253_4) | exact hn253_4) (.int .u64 x252004_1)).trans hx253_2; replace hx253_3 := (cell_far (p := ⟨gb252, 4, none⟩) (by first | (rw [add_block]; exact hn253_4) | (show (Addr.add _ _).block ≠ _; rw [add_block]; exact hn253_4) | exact hn253_4) (.int .u64 x252004_1)).trans hx253_3; replace hx253_4 := (cell_far (p := ⟨gb252, 4, none⟩) (by first | (rw [add_block]; exact hn253_4) | (show (Addr.add _ _).block ≠ _; rw [add_block]; exact hn253_4) | exact hn253_4) (.int .u64 x252004_1)).trans hx253_4; replace hx253_5 := (cell_far (p := ⟨gb252, 4, none⟩) (by first | (rw [add_block]; exact hn253_4) | (show (Addr.add _ _).block ≠ _; rw [add_block]; exact hn253_4) | exact hn253_4) (.int .u64 x252004_1)).trans hx253_5; replace hx253_0 := (cell_far (p := ⟨gb252, 5, none⟩) (by first | (rw [add_block]; exact hn253_5) | (show (Addr.add _ _).block ≠ _; rw [add_block]; exact hn253_5) | exact hn253_5) (.int .u64 x252005_1)).trans hx253_0; replace hx253_1 := (cell_far (p := ⟨gb252, 5, none⟩) (by first | (rw [add_block]; exact hn253_5) | (show (Addr.add _ _).block ≠ _; rw [add_block]; exact hn253_5) | exact hn253_5) (.int .u64 x252005_1)).trans hx253_1; replace hx253_2 := (cell_far (p := ⟨gb252, 5, none⟩) (by first | (rw [add_block]; exact hn253_5) | (show (Addr.add _ _).block ≠ _; rw [add_block]; exact hn253_5) | exact hn253_5) (.int .u64 x252005_1)).trans hx253_2; replace hx253_3 := (cell_far (p := ⟨gb252, 5, none⟩) (by first | (rw [add_block]; exact hn253_5) | (show (Addr.add _ _).block ≠ _; rw [add_block]; exact hn253_5) | exact hn253_5) (.int .u64 x252005_1)).trans hx253_3; replace hx253_4 := (cell_far (p := ⟨gb252, 5, none⟩) (by first | (rw [add_block]; exact hn253_5) | (show (Addr.add _ _).block ≠ _; rw [add_block]; exact hn253_5) | exact hn253_5) (.int .u64 x252005_1)).trans hx253_4; replace hx253_5 := (cell_far (p := ⟨gb252, 5, none⟩) (by first | (rw [add_block]; exact hn253_5) | (show (Addr.add _ _).block ≠ _; rw [add_block]; exact hn253_5) | exact hn253_5) (.int .u64 x252005_1)).trans hx253_5; replace hx253_0 := (cell_far (p := ⟨gb252, 6, none⟩) (by first | (rw [add_block]; exact hn253_6) | (show (Addr.add _ _).block ≠ _; rw [add_block]; exact hn253_6) | exact hn253_6) (.int .u64 x252006_1)).trans hx253_0; replace hx253_1 := (cell_far (p := ⟨gb252, 6, none⟩) (by first | (rw [add_block]; exact hn253_6) | (show (Addr.add _ _).block ≠ _; rw [add_block]; exact hn253_6) | exact hn253_6) (.int .u64 x252006_1)).trans hx253_1; replace hx253_2 := (cell_far (p := ⟨gb252, 6, none⟩) (by first | (rw [add_block]; exact hn253_6) | (show (Addr.add _ _).block ≠ _; rw [add_block]; exact hn253_6) | exact hn253_6) (.int .u64 x252006_1)).trans hx253_2; replace hx253_3 := (cell_far (p := ⟨gb252, 6, none⟩) (by first | (rw [add_block]; exact hn253_6) | (show (Addr.add _ _).block ≠ _; rw [add_block]; exact hn253_6) | exact hn253_6) (.int .u64 x252006_1)).trans hx253_3; replace hx253_4 := (cell_far (p := ⟨gb252, 6, none⟩) (by first | (rw [add_block]; exact hn253_6) | (show (Addr.add _ _).block ≠ _; rw [add_block]; exact hn253_6) | exact hn253_6) (.int .u64 x252006_1)).trans hx253_4; replace hx253_5 := (cell_far (p := ⟨gb252, 6, none⟩) (by first | (rw [add_block]; exact hn253_6) | (show (Addr.add _ _).block ≠ _; rw [add_block]; exact hn253_6) | exact hn253_6) (.int .u64 x252006_1)).trans hx253_5; replace hx253_0 := (cell_far (p := ⟨gb252, 7, none⟩) (by first | (rw [add_block]; exact hn253_7) | (show (Addr.add _ _).block ≠ _; rw [add_block]; exact hn253_7) | exact hn253_7) (.int .u64 x252007_1)).trans hx253_0; replace hx253_1 := (cell_far (p := ⟨gb252, 7, none⟩) (by first | (rw [add_block]; exact hn253_7) | (show (Addr.add _ _).block ≠ _; rw [add_block]; exact hn253_7) | exact hn253_7) (.int .u64 x252007_1)).trans hx253_1; replace hx253_2 := (cell_far (p := ⟨gb252, 7, none⟩) (by first | (rw [add_block]; exact hn253_7) | (show (Addr.add _ _).block ≠ _; rw [add_block]; exact hn253_7) | exact hn253_7) (.int .u64 x252007_1)).trans hx253_2; replace hx253_3 := (cell_far (p := ⟨gb252, 7, none⟩) (by first | (rw [add_block]; exact hn253_7) | (show (Addr.add _ _).block ≠ _; rw [add_block]; exact hn253_7) | exact hn253_7) (.int .u64 x252007_1)).trans hx253_3; replace hx253_4 := (cell_far (p := ⟨gb252, 7, none⟩) (by first | (rw [add_block]; exact hn253_7) | (show (Addr.add _ _).block ≠ _; rw [add_block]; exact hn253_7) | exact hn253_7) (.int .u64 x252007_1)).trans hx253_4; replace hx253_5 := (cell_far (p := ⟨gb252, 7, none⟩) (by first | (rw [add_block]; exact hn253_7) | (show (Addr.add _ _).block ≠ _; rw [add_block]; exact hn253_7) | exact hn253_7) (.int .u64 x252007_1)).trans hx253_5; clear hn253_0; clear hn253_1; clear hn253_2; clear hn253_3; clear hn253_4; clear hn253_5; clear hn253_6; clear hn253_7; replace p253 := eq_true p253; replace q253 := eq_true q253; have hcz82_0 : w79.cell? ⟨gb251, 0, none⟩ = some (.int .u64 x252000_1) := (blk_cell BK251.out 0).trans rfl; have hcz82_1 : w79.cell? ⟨gb251, 1, none⟩ = some (.int .u64 x252001_1) := (blk_cell BK251.out 1).trans rfl; have hcz82_2 : w79.cell? ⟨gb251, 2, none⟩ = some (.int .u64 x252002_1) := (blk_cell BK251.out 2).trans rfl; have hcz82_3 : w79.cell? ⟨gb251, 3, none⟩ = some (.bool x252003_1) := (blk_cell BK251.out 3).trans rfl; have hcz82_4 : w79.cell? ⟨gb251, 4, none⟩ = some (.int .u64 x252004_1) := (blk_cell BK251.out 4).trans rfl; have hcz82_5 : w79.cell? ⟨gb251, 5, none⟩ = some (.int .u64 x252005_1) := (blk_cell BK251.out 5).trans rfl; have hcz82_6 : w79.cell? ⟨gb251, 6, none⟩ = some (.int .u64 x252006_1) := (blk_cell BK251.out 6).trans rfl; have hcz82_7 : w79.cell? ⟨gb251, 7, none⟩ = some (.int .u64 x252007_1) := (blk_cell BK251.out 7).trans rfl; have hfz82_0 := blk_frozen BK251.out 0; have hfz82_1 := blk_frozen BK251.out 1; have hfz82_2 := blk_frozen BK251.out 2; have hfz82_3 := blk_frozen BK251.out 3; have hfz82_4 := blk_frozen BK251.out 4; have hfz82_5 := blk_frozen BK251.out 5; have hfz82_6 := blk_frozen BK251.out 6; have hfz82_7 := blk_frozen BK251.out 7))
                          go_roundg k1
                          case measure => have := HK1.out; omega
                          case rel => exact ⟨(wrap64 (x5_1 + 1)), (x252000_1), (x252001_1), (x252002_1), (x252003_1), (x252004_1), (x252005_1), (x252006_1), (x252007_1), (by first | rfl | (simp; done) | (simp [*]; done)), H', ⟨by have := HK1.out; omega⟩, ⟨by (with_reducible repeat (first | refine blk_drewN ?_ _ | refine blk_drew ?_ | refine blk_alloc ?_ _)); refine blk_far ?_ NB251_252.out _; (with_reducible repeat (first | refine blk_drewN ?_ _ | refine blk_drew ?_ | refine blk_alloc ?_ _)); refine blk_far ?_ NB251_252.out _; (with_reducible repeat (first | refine blk_drewN ?_ _ | refine blk_drew ?_ | refine blk_alloc ?_ _)); refine blk_far ?_ NB251_252.out _; (with_reducible repeat (first | refine blk_drewN ?_ _ | refine blk_drew ?_ | refine blk_alloc ?_ _)); refine blk_far ?_ NB251_252.out _; (with_reducible repeat (first | refine blk_drewN ?_ _ | refine blk_drew ?_ | refine blk_alloc ?_ _)); refine blk_far ?_ NB251_252.out _; (with_reducible repeat (first | refine blk_drewN ?_ _ | refine blk_drew ?_ | refine blk_alloc ?_ _)); refine blk_far ?_ NB251_252.out _; (with_reducible repeat (first | refine blk_drewN ?_ _ | refine blk_drew ?_ | refine blk_alloc ?_ _)); refine blk_far ?_ NB251_252.out _; (with_reducible repeat (first | refine blk_drewN ?_ _ | refine blk_drew ?_ | refine blk_alloc ?_ _)); refine blk_far ?_ NB251_252.out _; (with_reducible repeat (first | refine blk_drewN ?_ _ | refine blk_drew ?_ | refine blk_alloc ?_ _)); exact BK251.out⟩, ⟨by repeat (first | (with_reducible first | exact HB.out | apply below_alloc | apply pw_below_drewN | apply below_drew1 | refine below_set ?_ GE251.out | refine below_set ?_ GE252.out) | exact HB.out)⟩⟩
          · rw [if_neg c10] at H
            exact absurd H (by simp)
        · rw [if_neg c9] at H
          have c9b0 : decide (x5_1 < 200) = false := decide_eq_false c9
          clear c9
          obtain rfl := Option.some.inj H
          go_wp2
          go_ret
          exact ⟨by first | rfl | (simp [errW_none, errW_some] <;> rfl) | (simp [*, errW_none, errW_some] <;> rfl), by repeat (first | (with_reducible first | exact HB.out | apply below_alloc | apply pw_below_drewN | apply below_drew1 | refine below_set ?_ GE251.out) | exact HB.out)⟩
      · rw [if_neg c8] at H
        have c8b0 : decide (x5_1 < (l0.length : Int)) = false := decide_eq_false c8
        clear c8
        obtain rfl := Option.some.inj H
        go_wp2
        go_ret
        exact ⟨by first | rfl | (simp [errW_none, errW_some] <;> rfl) | (simp [*, errW_none, errW_some] <;> rfl), by repeat (first | (with_reducible first | exact HB.out | apply below_alloc | apply pw_below_drewN | apply below_drew1 | refine below_set ?_ GE251.out) | exact HB.out)⟩

end Go.Proofs.Ytjjemhcddjgdaaa.PCub
