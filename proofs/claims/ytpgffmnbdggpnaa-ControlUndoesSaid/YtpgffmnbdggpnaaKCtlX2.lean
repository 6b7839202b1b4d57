/- What the parts of a controller make of it. -/
import Derived.Deep.DeepMust
import Derived.Test.YtpgffmnbdggpnaaKCtlV
import Derived.Test.YtpgffmnbdggpnaaKCtlA
import Derived.Test.YtpgffmnbdggpnaaKW
namespace Go.Proofs.Ytpgffmnbdggpnaa.PCv
open Go.RowKit Go.Proofs.YtpgffmnbdggpnaaW.PrintWords Go.Proofs.YtpgffmnbdggpnaaW.PrintLast Go.Proofs.YtpgffmnbdggpnaaW.PrintMore
set_option linter.unusedVariables false
set_option linter.unusedSimpArgs false
set_option maxRecDepth 100000 in
set_option maxHeartbeats 4000000 in
theorem renoO_0 (r0 r1 r2 r3 : Int)  (w : World) :
    Calls Try.prog 59 #[.agg #[.int .u64 r0, .int .u64 r1, .int .u64 r2, .int .u64 r3]] w fun e w' => e = .returned (.agg #[.int .u64 2400, .int .u64 r1, .int .u64 0, .int .u64 0]) ∧ Below w.heap.size w w' := by
  have hu25 := Try.underlying25
  have HS := Since.refl w
  go_enter Try.func59, Try.ntmps59
  go_wp2_with (first | ((with_reducible refine gate_dst (N := 1) rfl ?_); refine seg_new rfl (N := 1) rfl [.int .u64 r0, .int .u64 r1, .int .u64 r2, .int .u64 r3] 25 ?hr ?_; (case hr => first | (go_simp; done) | (go_simp; rfl) | kernel_rfl); intro g0 hg w1 hn hl; have GEg0 := ge_new HS hg; clear hg; replace HS := HS.below hl; have Bg0 := hn; clear hl hn) | ((with_reducible refine gate_dst (N := 2) rfl ?_); refine seg_new rfl (N := 2) rfl [.int .u64 0, .int .u64 0, .int .u64 0, .int .u64 0] 25 ?hr ?_; (case hr => first | (go_simp; done) | (go_simp; rfl) | kernel_rfl); intro g1 hg w2 hn hl; have Ng1_g0 := ne_new Bg0 hg; have GEg1 := ge_new HS hg; clear hg; replace Bg0 := Bg0.below hl; replace HS := HS.below hl; have Bg1 := hn; clear hl hn; have kg0_1 := Bg0.at 1 rfl) | ((with_reducible refine gate_ (.store 25 (.tmp 2) (.tmp 5)) rfl ?_); refine seg_store rfl rfl 25 (.tmp 2) (.tmp 5) rfl g1 0 [.int .u64 2400, .int .u64 r1, .int .u64 0, .int .u64 0] [.int .u64 2400, .int .u64 r1, .int .u64 0, .int .u64 0] (.agg #[.int .u64 2400, .int .u64 r1, .int .u64 0, .int .u64 0]) ?hx ?hy rfl Bg1 (by kernel_rfl) (Nat.le_of_ble_eq_true rfl) rfl rfl ?_; (case hx => first | rfl | (go_simp; done) | (go_simp; rfl)); (case hy => first | rfl | (go_simp; done) | (go_simp; rfl)); intro w3 hn hw; replace Bg0 := Bg0.grown hw Ng1_g0.symm; replace HS := HS.grown hw GEg1; replace Bg1 := hn; clear hw; clear kg0_1; clear hn))
  all_goals exact bodyPost_ret (results_cell1 rfl _ _ g1 25 [.int .u64 2400, .int .u64 r1, .int .u64 0, .int .u64 0] _ rfl Bg1 Try.underlying25 rfl (by kernel_rfl)) rfl ⟨rfl, HS.out⟩
set_option maxRecDepth 100000 in
set_option maxHeartbeats 4000000 in
theorem cubicO_0 (r0 r1 r2 r4 r5 r6 r7 : Int) (b3 : Bool)  (w : World) :
    Calls Try.prog 60 #[.agg #[.int .u64 r0, .int .u64 r1, .int .u64 r2, .bool b3, .int .u64 r4, .int .u64 r5, .int .u64 r6, .int .u64 r7]] w fun e w' => e = .returned (.agg #[.int .u64 2400, .int .u64 r1, .int .u64 0, .bool false, .int .u64 0, .int .u64 r5, .int .u64 0, .int .u64 0]) ∧ Below w.heap.size w w' := by
  have hu29 := Try.underlying29
  have HS := Since.refl w
  go_enter Try.func60, Try.ntmps60
  go_wp2_with (first | ((with_reducible refine gate_dst (N := 1) rfl ?_); refine seg_new rfl (N := 1) rfl [.int .u64 r0, .int .u64 r1, .int .u64 r2, .bool b3, .int .u64 r4, .int .u64 r5, .int .u64 r6, .int .u64 r7] 29 ?hr ?_; (case hr => first | (go_simp; done) | (go_simp; rfl) | kernel_rfl); intro g0 hg w1 hn hl; have GEg0 := ge_new HS hg; clear hg; replace HS := HS.below hl; have Bg0 := hn; clear hl hn) | ((with_reducible refine gate_dst (N := 2) rfl ?_); refine seg_new rfl (N := 2) rfl [.int .u64 0, .int .u64 0, .int .u64 0, .bool false, .int .u64 0, .int .u64 0, .int .u64 0, .int .u64 0] 29 ?hr ?_; (case hr => first | (go_simp; done) | (go_simp; rfl) | kernel_rfl); intro g1 hg w2 hn hl; have Ng1_g0 := ne_new Bg0 hg; have GEg1 := ge_new HS hg; clear hg; replace Bg0 := Bg0.below hl; replace HS := HS.below hl; have Bg1 := hn; clear hl hn; have kg0_1 := Bg0.at 1 rfl; have kg0_5 := Bg0.at 5 rfl) | ((with_reducible refine gate_ (.store 29 (.tmp 2) (.tmp 7)) rfl ?_); refine seg_store rfl rfl 29 (.tmp 2) (.tmp 7) rfl g1 0 [.int .u64 2400, .int .u64 r1, .int .u64 0, .bool false, .int .u64 0, .int .u64 r5, .int .u64 0, .int .u64 0] [.int .u64 2400, .int .u64 r1, .int .u64 0, .bool false, .int .u64 0, .int .u64 r5, .int .u64 0, .int .u64 0] (.agg #[.int .u64 2400, .int .u64 r1, .int .u64 0, .bool false, .int .u64 0, .int .u64 r5, .int .u64 0, .int .u64 0]) ?hx ?hy rfl Bg1 (by kernel_rfl) (Nat.le_of_ble_eq_true rfl) rfl rfl ?_; (case hx => first | rfl | (go_simp; done) | (go_simp; rfl)); (case hy => first | rfl | (go_simp; done) | (go_simp; rfl)); intro w3 hn hw; replace Bg0 := Bg0.grown hw Ng1_g0.symm; replace HS := HS.grown hw GEg1; replace Bg1 := hn; clear hw; clear kg0_1 kg0_5; clear hn))
  all_goals exact bodyPost_ret (results_cell1 rfl _ _ g1 29 [.int .u64 2400, .int .u64 r1, .int .u64 0, .bool false, .int .u64 0, .int .u64 r5, .int .u64 0, .int .u64 0] _ rfl Bg1 Try.underlying29 rfl (by kernel_rfl)) rfl ⟨rfl, HS.out⟩
set_option maxRecDepth 100000 in
set_option maxHeartbeats 4000000 in
theorem pragueO_0 (r0 r1 r2 r3 r4 r5 r6 r7 : Int) (b8 : Bool)  (w : World) :
    Calls Try.prog 61 #[.agg #[.int .u64 r0, .int .u64 r1, .int .u64 r2, .int .u64 r3, .int .u64 r4, .int .u64 r5, .int .u64 r6, .int .u64 r7, .bool b8]] w fun e w' => e = .returned (.agg #[.int .u64 2400, .int .u64 r1, .int .u64 0, .int .u64 0, .int .u64 r4, .int .u64 r5, .int .u64 r6, .int .u64 r7, .bool b8]) ∧ Below w.heap.size w w' := by
  have hu25 := Try.underlying25
  have hu34 := Try.underlying34
  have HS := Since.refl w
  go_enter Try.func61, Try.ntmps61
  go_wp2_with (first | ((with_reducible refine gate_dst (N := 1) rfl ?_); refine seg_new rfl (N := 1) rfl [.int .u64 r0, .int .u64 r1, .int .u64 r2, .int .u64 r3, .int .u64 r4, .int .u64 r5, .int .u64 r6, .int .u64 r7, .bool b8] 34 ?hr ?_; (case hr => first | (go_simp; done) | (go_simp; rfl) | kernel_rfl); intro g0 hg w1 hn hl; have GEg0 := ge_new HS hg; clear hg; replace HS := HS.below hl; have Bg0 := hn; clear hl hn) | ((with_reducible refine gate_dst (N := 2) rfl ?_); refine seg_new rfl (N := 2) rfl [.int .u64 0, .int .u64 0, .int .u64 0, .int .u64 0, .int .u64 0, .int .u64 0, .int .u64 0, .int .u64 0, .bool false] 34 ?hr ?_; (case hr => first | (go_simp; done) | (go_simp; rfl) | kernel_rfl); intro g1 hg w2 hn hl; have Ng1_g0 := ne_new Bg0 hg; have GEg1 := ge_new HS hg; clear hg; replace Bg0 := Bg0.below hl; replace HS := HS.below hl; have Bg1 := hn; clear hl hn) | ((with_reducible refine gate_dst (N := 4) rfl ?_); refine seg_load rfl (N := 4) rfl 25 (.tmp 3) rfl g0 0 [.int .u64 r0, .int .u64 r1, .int .u64 r2, .int .u64 r3] ?hx Bg0 rfl Try.underlying25 rfl (by kernel_rfl) ?_; (case hx => first | rfl | (go_simp; done) | (go_simp; rfl))) | ((go_at_call 59); (with_reducible refine (renoO_0 r0 r1 r2 r3 _).mono ?_); rintro e w3 ⟨rfl, hl⟩; replace Bg0 := Bg0.below hl; replace Bg1 := Bg1.below hl; replace HS := HS.below hl; clear hl) | ((with_reducible refine gate_ (.store 25 (.tmp 6) (.tmp 5)) rfl ?_); refine seg_store rfl rfl 25 (.tmp 6) (.tmp 5) rfl g0 0 [.int .u64 2400, .int .u64 r1, .int .u64 0, .int .u64 0] [.int .u64 2400, .int .u64 r1, .int .u64 0, .int .u64 0, .int .u64 r4, .int .u64 r5, .int .u64 r6, .int .u64 r7, .bool b8] (.agg #[.int .u64 2400, .int .u64 r1, .int .u64 0, .int .u64 0]) ?hx ?hy rfl Bg0 (by kernel_rfl) (Nat.le_of_ble_eq_true rfl) rfl rfl ?_; (case hx => first | rfl | (go_simp; done) | (go_simp; rfl)); (case hy => first | rfl | (go_simp; done) | (go_simp; rfl)); intro w4 hn hw; replace Bg1 := Bg1.grown hw Ng1_g0; replace HS := HS.grown hw GEg0; replace Bg0 := hn; clear hw; clear hn) | ((with_reducible refine gate_dst (N := 7) rfl ?_); refine seg_load rfl (N := 7) rfl 34 (.tmp 1) rfl g0 0 [.int .u64 2400, .int .u64 r1, .int .u64 0, .int .u64 0, .int .u64 r4, .int .u64 r5, .int .u64 r6, .int .u64 r7, .bool b8] ?hx Bg0 rfl Try.underlying34 rfl (by kernel_rfl) ?_; (case hx => first | rfl | (go_simp; done) | (go_simp; rfl))) | ((with_reducible refine gate_ (.store 34 (.tmp 2) (.tmp 7)) rfl ?_); refine seg_store rfl rfl 34 (.tmp 2) (.tmp 7) rfl g1 0 [.int .u64 2400, .int .u64 r1, .int .u64 0, .int .u64 0, .int .u64 r4, .int .u64 r5, .int .u64 r6, .int .u64 r7, .bool b8] [.int .u64 2400, .int .u64 r1, .int .u64 0, .int .u64 0, .int .u64 r4, .int .u64 r5, .int .u64 r6, .int .u64 r7, .bool b8] (.agg #[.int .u64 2400, .int .u64 r1, .int .u64 0, .int .u64 0, .int .u64 r4, .int .u64 r5, .int .u64 r6, .int .u64 r7, .bool b8]) ?hx ?hy rfl Bg1 (by kernel_rfl) (Nat.le_of_ble_eq_true rfl) rfl rfl ?_; (case hx => first | rfl | (go_simp; done) | (go_simp; rfl)); (case hy => first | rfl | (go_simp; done) | (go_simp; rfl)); intro w5 hn hw; replace Bg0 := Bg0.grown hw Ng1_g0.symm; replace HS := HS.grown hw GEg1; replace Bg1 := hn; clear hw; clear hn))
  all_goals exact bodyPost_ret (results_cell1 rfl _ _ g1 34 [.int .u64 2400, .int .u64 r1, .int .u64 0, .int .u64 0, .int .u64 r4, .int .u64 r5, .int .u64 r6, .int .u64 r7, .bool b8] _ rfl Bg1 Try.underlying34 rfl (by kernel_rfl)) rfl ⟨rfl, HS.out⟩
set_option maxRecDepth 100000 in
set_option maxHeartbeats 4000000 in
theorem keepK1_0 (c1 c2 c3 c4 c5 c6 c7 c8 c9 c10 c11 c39 c40 ta : Int) (g ga : Nat)  (w : World) (h0 : (decide (c3 ≤ ta)) = true) (Bg : Blk w g 36 (K36 1 c1 c2 c3 c4 c5 c6 c7 c8 c9 c10 c11 0 0 0 false 0 0 0 0 0 (.slice none 0 0) 0 0 0 0 0 0 0 0 0 0 0 0 0 0 0 0 false c39 c40)) (Bga : Blk w ga 23 [.int .u64 ta]) (Nga_g : ga ≠ g) :
    Calls Try.prog 39 #[.pointer (some ⟨g, 0, none⟩), .pointer (some ⟨ga, 0, none⟩)] w fun e w' => e = .returned (.tuple #[]) ∧ Blk w' g 36 (K36 1 c1 c2 c3 c4 2 c6 c7 c8 c9 c10 c11 0 0 0 false 0 0 0 0 0 (.slice none 0 0) 0 0 0 0 0 0 0 0 0 0 0 0 0 0 0 0 false c1 c2) ∧ w.grownBy w' (some g) := by
  have hu27 := Try.underlying27
  have hu36 := Try.underlying36
  have HS := Turned.refl g w
  go_enter Try.func39, Try.ntmps39
  go_wp2_with (first | ((go_at_call 36); (with_reducible refine (parts_reno g _ ((Bg.cell 0).trans rfl)).mono ?_); rintro e w1 ⟨rfl, hd⟩; have hl := hd.below; clear hd; replace Bg := Bg.below hl; replace Bga := Bga.below hl; replace HS := HS.below hl; clear hl; have kg_3 := Bg.at 3 rfl; have kga_0 := Bga.at 0 rfl))
  all_goals go_quiet (fail)
  all_goals (generalize hW : World.drewN w1 _ = w2; have hl : Below w1.heap.size w1 w2 := (by rw [← hW]; exact pw_below_drewN (Below.refl _ _) _); clear hW; replace Bg := Bg.below hl; replace Bga := Bga.below hl; replace HS := HS.below hl; clear hl; clear kg_3 kga_0; have kg_1 := Bg.at 1 rfl; have kg_2 := Bg.at 2 rfl; have kg_39 := Bg.at 39 rfl; have zg_39 := Bg.frozen 39; have kg_40 := Bg.at 40 rfl; have zg_40 := Bg.frozen 40)
  go_wp2
  go_region_with (fail)
  all_goals (refine letter ?_; intro w3 hW)
  all_goals (have Bn_ : Blk w3 g 36 (K36 1 c1 c2 c3 c4 c5 c6 c7 c8 c9 c10 c11 0 0 0 false 0 0 0 0 0 (.slice none 0 0) 0 0 0 0 0 0 0 0 0 0 0 0 0 0 0 0 false c1 c2) := (by rw [hW]; (repeat (first | (with_reducible refine Blk.drewN ?_ _) | (with_reducible refine Blk.drew ?_))); refine Blk.set (l := (K36 1 c1 c2 c3 c4 c5 c6 c7 c8 c9 c10 c11 0 0 0 false 0 0 0 0 0 (.slice none 0 0) 0 0 0 0 0 0 0 0 0 0 0 0 0 0 0 0 false c1 c40)) ?_ 40 _ rfl; (repeat (first | (with_reducible refine Blk.drewN ?_ _) | (with_reducible refine Blk.drew ?_))); refine Blk.set (l := (K36 1 c1 c2 c3 c4 c5 c6 c7 c8 c9 c10 c11 0 0 0 false 0 0 0 0 0 (.slice none 0 0) 0 0 0 0 0 0 0 0 0 0 0 0 0 0 0 0 false c39 c40)) ?_ 39 _ rfl; (repeat (first | (with_reducible refine Blk.drewN ?_ _) | (with_reducible refine Blk.drew ?_))); exact Bg); replace Bg := Bn_; clear Bn_)
  all_goals (have Bn_ : Blk w3 ga 23 [.int .u64 ta] := (by rw [hW]; (repeat (first | (with_reducible refine Blk.drewN ?_ _) | (with_reducible refine Blk.drew ?_))); refine Blk.setFar ?_ Nga_g; (repeat (first | (with_reducible refine Blk.drewN ?_ _) | (with_reducible refine Blk.drew ?_))); refine Blk.setFar ?_ Nga_g; (repeat (first | (with_reducible refine Blk.drewN ?_ _) | (with_reducible refine Blk.drew ?_))); exact Bga); replace Bga := Bn_; clear Bn_)
  all_goals (have HS_ : Turned g w w3 := (by rw [hW]; repeat (first | (with_reducible exact HS) | (with_reducible refine Turned.drewN ?_ _) | (with_reducible refine Turned.drew ?_) | (with_reducible refine Turned.set ?_))); replace HS := HS_; clear HS_ hW)
  all_goals (clear kg_1 kg_2 kg_39 zg_39 kg_40 zg_40; have kg_0 := Bg.at 0 rfl)
  go_wp2_with (first | ((with_reducible refine gate_dst (N := 27) rfl ?_); refine seg_load rfl (N := 27) rfl 27 (.tmp 26) rfl g 5 [.int .i64 c5, .int .u64 c6, .int .u64 c7, .int .u64 c8, .int .u64 c9, .int .u64 c10, .int .u64 c11] ?hx Bg rfl Try.underlying27 rfl (by kernel_rfl) ?_; (case hx => first | rfl | (go_simp; done) | (go_simp; rfl))) | ((go_at_call 40); (with_reducible refine (finish_0 c5 c6 c7 c8 c9 c10 c11 _).mono ?_); rintro e w4 ⟨rfl, hl⟩; replace Bg := Bg.below hl; replace Bga := Bga.below hl; replace HS := HS.below hl; clear hl; clear kg_0) | ((with_reducible refine gate_ (.store 27 (.tmp 29) (.tmp 28)) rfl ?_); refine seg_store rfl rfl 27 (.tmp 29) (.tmp 28) rfl g 5 [.int .i64 2, .int .u64 c6, .int .u64 c7, .int .u64 c8, .int .u64 c9, .int .u64 c10, .int .u64 c11] (K36 1 c1 c2 c3 c4 2 c6 c7 c8 c9 c10 c11 0 0 0 false 0 0 0 0 0 (.slice none 0 0) 0 0 0 0 0 0 0 0 0 0 0 0 0 0 0 0 false c1 c2) (.agg #[.int .i64 2, .int .u64 c6, .int .u64 c7, .int .u64 c8, .int .u64 c9, .int .u64 c10, .int .u64 c11]) ?hx ?hy rfl Bg (by kernel_rfl) (Nat.le_of_ble_eq_true rfl) rfl rfl ?_; (case hx => first | rfl | (go_simp; done) | (go_simp; rfl)); (case hy => first | rfl | (go_simp; done) | (go_simp; rfl)); intro w5 hn hw; replace Bga := Bga.grown hw Nga_g; replace HS := HS.same hw; replace Bg := hn; clear hw; clear hn))
  all_goals (go_end0; exact ⟨rfl, Bg, HS.out⟩)
set_option maxRecDepth 100000 in
set_option maxHeartbeats 4000000 in
theorem keepK1_1 (c1 c2 c3 c4 c5 c6 c7 c8 c9 c10 c11 c39 c40 ta : Int) (g ga : Nat)  (w : World) (h0 : (decide (c3 ≤ ta)) = false) (Bg : Blk w g 36 (K36 1 c1 c2 c3 c4 c5 c6 c7 c8 c9 c10 c11 0 0 0 false 0 0 0 0 0 (.slice none 0 0) 0 0 0 0 0 0 0 0 0 0 0 0 0 0 0 0 false c39 c40)) (Bga : Blk w ga 23 [.int .u64 ta]) (Nga_g : ga ≠ g) :
    Calls Try.prog 39 #[.pointer (some ⟨g, 0, none⟩), .pointer (some ⟨ga, 0, none⟩)] w fun e w' => e = .returned (.tuple #[]) ∧ Blk w' g 36 (K36 1 c1 c2 c3 c4 c5 c6 c7 c8 c9 c10 c11 0 0 0 false 0 0 0 0 0 (.slice none 0 0) 0 0 0 0 0 0 0 0 0 0 0 0 0 0 0 0 false c39 c40) ∧ w.grownBy w' (some g) := by
  have HS := Turned.refl g w
  go_enter Try.func39, Try.ntmps39
  go_wp2_with (first | ((go_at_call 36); (with_reducible refine (parts_reno g _ ((Bg.cell 0).trans rfl)).mono ?_); rintro e w1 ⟨rfl, hd⟩; have hl := hd.below; clear hd; replace Bg := Bg.below hl; replace Bga := Bga.below hl; replace HS := HS.below hl; clear hl; have kg_3 := Bg.at 3 rfl; have kga_0 := Bga.at 0 rfl))
  all_goals go_quiet (fail)
  all_goals (generalize hW : World.drewN w1 _ = w2; have hl : Below w1.heap.size w1 w2 := (by rw [← hW]; exact pw_below_drewN (Below.refl _ _) _); clear hW; replace Bg := Bg.below hl; replace Bga := Bga.below hl; replace HS := HS.below hl; clear hl; clear kg_3 kga_0)
  go_wp2
  all_goals (go_end0; exact ⟨rfl, Bg, HS.out⟩)
set_option maxRecDepth 100000 in
set_option maxHeartbeats 4000000 in
theorem keepK2_0 (c5 c6 c7 c8 c9 c10 c11 c12 c13 c14 c16 c17 c18 c19 c39 c40 ta : Int) (c15 : Bool) (g ga : Nat)  (w : World) (h0 : (decide (c14 ≤ ta)) = true) (Bg : Blk w g 36 (K36 2 0 0 0 0 c5 c6 c7 c8 c9 c10 c11 c12 c13 c14 c15 c16 c17 c18 c19 0 (.slice none 0 0) 0 0 0 0 0 0 0 0 0 0 0 0 0 0 0 0 false c39 c40)) (Bga : Blk w ga 23 [.int .u64 ta]) (Nga_g : ga ≠ g) :
    Calls Try.prog 39 #[.pointer (some ⟨g, 0, none⟩), .pointer (some ⟨ga, 0, none⟩)] w fun e w' => e = .returned (.tuple #[]) ∧ Blk w' g 36 (K36 2 0 0 0 0 2 c6 c7 c8 c9 c10 c11 c12 c13 c14 c15 c16 c17 c18 c19 0 (.slice none 0 0) 0 0 0 0 0 0 0 0 0 0 0 0 0 0 0 0 false c12 c13) ∧ w.grownBy w' (some g) := by
  have hu27 := Try.underlying27
  have hu36 := Try.underlying36
  have HS := Turned.refl g w
  go_enter Try.func39, Try.ntmps39
  go_wp2_with (first | ((go_at_call 36); (with_reducible refine (parts_cubic g _ ((Bg.cell 0).trans rfl)).mono ?_); rintro e w1 ⟨rfl, hd⟩; have hl := hd.below; clear hd; replace Bg := Bg.below hl; replace Bga := Bga.below hl; replace HS := HS.below hl; clear hl; have kg_14 := Bg.at 14 rfl; have kga_0 := Bga.at 0 rfl))
  all_goals go_quiet (fail)
  all_goals (generalize hW : World.drewN w1 _ = w2; have hl : Below w1.heap.size w1 w2 := (by rw [← hW]; exact pw_below_drewN (Below.refl _ _) _); clear hW; replace Bg := Bg.below hl; replace Bga := Bga.below hl; replace HS := HS.below hl; clear hl; clear kg_14 kga_0; have kg_12 := Bg.at 12 rfl; have kg_13 := Bg.at 13 rfl; have kg_39 := Bg.at 39 rfl; have zg_39 := Bg.frozen 39; have kg_40 := Bg.at 40 rfl; have zg_40 := Bg.frozen 40)
  go_wp2
  go_region_with (fail)
  all_goals (refine letter ?_; intro w3 hW)
  all_goals (have Bn_ : Blk w3 g 36 (K36 2 0 0 0 0 c5 c6 c7 c8 c9 c10 c11 c12 c13 c14 c15 c16 c17 c18 c19 0 (.slice none 0 0) 0 0 0 0 0 0 0 0 0 0 0 0 0 0 0 0 false c12 c13) := (by rw [hW]; (repeat (first | (with_reducible refine Blk.drewN ?_ _) | (with_reducible refine Blk.drew ?_))); refine Blk.set (l := (K36 2 0 0 0 0 c5 c6 c7 c8 c9 c10 c11 c12 c13 c14 c15 c16 c17 c18 c19 0 (.slice none 0 0) 0 0 0 0 0 0 0 0 0 0 0 0 0 0 0 0 false c12 c40)) ?_ 40 _ rfl; (repeat (first | (with_reducible refine Blk.drewN ?_ _) | (with_reducible refine Blk.drew ?_))); refine Blk.set (l := (K36 2 0 0 0 0 c5 c6 c7 c8 c9 c10 c11 c12 c13 c14 c15 c16 c17 c18 c19 0 (.slice none 0 0) 0 0 0 0 0 0 0 0 0 0 0 0 0 0 0 0 false c39 c40)) ?_ 39 _ rfl; (repeat (first | (with_reducible refine Blk.drewN ?_ _) | (with_reducible refine Blk.drew ?_))); exact Bg); replace Bg := Bn_; clear Bn_)
  all_goals (have Bn_ : Blk w3 ga 23 [.int .u64 ta] := (by rw [hW]; (repeat (first | (with_reducible refine Blk.drewN ?_ _) | (with_reducible refine Blk.drew ?_))); refine Blk.setFar ?_ Nga_g; (repeat (first | (with_reducible refine Blk.drewN ?_ _) | (with_reducible refine Blk.drew ?_))); refine Blk.setFar ?_ Nga_g; (repeat (first | (with_reducible refine Blk.drewN ?_ _) | (with_reducible refine Blk.drew ?_))); exact Bga); replace Bga := Bn_; clear Bn_)
  all_goals (have HS_ : Turned g w w3 := (by rw [hW]; repeat (first | (with_reducible exact HS) | (with_reducible refine Turned.drewN ?_ _) | (with_reducible refine Turned.drew ?_) | (with_reducible refine Turned.set ?_))); replace HS := HS_; clear HS_ hW)
  all_goals (clear kg_12 kg_13 kg_39 zg_39 kg_40 zg_40; have kg_0 := Bg.at 0 rfl)
  go_wp2_with (first | ((with_reducible refine gate_dst (N := 27) rfl ?_); refine seg_load rfl (N := 27) rfl 27 (.tmp 26) rfl g 5 [.int .i64 c5, .int .u64 c6, .int .u64 c7, .int .u64 c8, .int .u64 c9, .int .u64 c10, .int .u64 c11] ?hx Bg rfl Try.underlying27 rfl (by kernel_rfl) ?_; (case hx => first | rfl | (go_simp; done) | (go_simp; rfl))) | ((go_at_call 40); (with_reducible refine (finish_0 c5 c6 c7 c8 c9 c10 c11 _).mono ?_); rintro e w4 ⟨rfl, hl⟩; replace Bg := Bg.below hl; replace Bga := Bga.below hl; replace HS := HS.below hl; clear hl; clear kg_0) | ((with_reducible refine gate_ (.store 27 (.tmp 29) (.tmp 28)) rfl ?_); refine seg_store rfl rfl 27 (.tmp 29) (.tmp 28) rfl g 5 [.int .i64 2, .int .u64 c6, .int .u64 c7, .int .u64 c8, .int .u64 c9, .int .u64 c10, .int .u64 c11] (K36 2 0 0 0 0 2 c6 c7 c8 c9 c10 c11 c12 c13 c14 c15 c16 c17 c18 c19 0 (.slice none 0 0) 0 0 0 0 0 0 0 0 0 0 0 0 0 0 0 0 false c12 c13) (.agg #[.int .i64 2, .int .u64 c6, .int .u64 c7, .int .u64 c8, .int .u64 c9, .int .u64 c10, .int .u64 c11]) ?hx ?hy rfl Bg (by kernel_rfl) (Nat.le_of_ble_eq_true rfl) rfl rfl ?_; (case hx => first | rfl | (go_simp; done) | (go_simp; rfl)); (case hy => first | rfl | (go_simp; done) | (go_simp; rfl)); intro w5 hn hw; replace Bga := Bga.grown hw Nga_g; replace HS := HS.same hw; replace Bg := hn; clear hw; clear hn))
  all_goals (go_end0; exact ⟨rfl, Bg, HS.out⟩)
set_option maxRecDepth 100000 in
set_option maxHeartbeats 4000000 in
theorem keepK2_1 (c5 c6 c7 c8 c9 c10 c11 c12 c13 c14 c16 c17 c18 c19 c39 c40 ta : Int) (c15 : Bool) (g ga : Nat)  (w : World) (h0 : (decide (c14 ≤ ta)) = false) (Bg : Blk w g 36 (K36 2 0 0 0 0 c5 c6 c7 c8 c9 c10 c11 c12 c13 c14 c15 c16 c17 c18 c19 0 (.slice none 0 0) 0 0 0 0 0 0 0 0 0 0 0 0 0 0 0 0 false c39 c40)) (Bga : Blk w ga 23 [.int .u64 ta]) (Nga_g : ga ≠ g) :
    Calls Try.prog 39 #[.pointer (some ⟨g, 0, none⟩), .pointer (some ⟨ga, 0, none⟩)] w fun e w' => e = .returned (.tuple #[]) ∧ Blk w' g 36 (K36 2 0 0 0 0 c5 c6 c7 c8 c9 c10 c11 c12 c13 c14 c15 c16 c17 c18 c19 0 (.slice none 0 0) 0 0 0 0 0 0 0 0 0 0 0 0 0 0 0 0 false c39 c40) ∧ w.grownBy w' (some g) := by
  have HS := Turned.refl g w
  go_enter Try.func39, Try.ntmps39
  go_wp2_with (first | ((go_at_call 36); (with_reducible refine (parts_cubic g _ ((Bg.cell 0).trans rfl)).mono ?_); rintro e w1 ⟨rfl, hd⟩; have hl := hd.below; clear hd; replace Bg := Bg.below hl; replace Bga := Bga.below hl; replace HS := HS.below hl; clear hl; have kg_14 := Bg.at 14 rfl; have kga_0 := Bga.at 0 rfl))
  all_goals go_quiet (fail)
  all_goals (generalize hW : World.drewN w1 _ = w2; have hl : Below w1.heap.size w1 w2 := (by rw [← hW]; exact pw_below_drewN (Below.refl _ _) _); clear hW; replace Bg := Bg.below hl; replace Bga := Bga.below hl; replace HS := HS.below hl; clear hl; clear kg_14 kga_0)
  go_wp2
  all_goals (go_end0; exact ⟨rfl, Bg, HS.out⟩)
set_option maxRecDepth 100000 in
set_option maxHeartbeats 4000000 in
theorem keepK4_0 (c5 c6 c7 c8 c9 c10 c11 c30 c31 c32 c33 c34 c35 c36 c37 c39 c40 ta : Int) (c38 : Bool) (g ga : Nat)  (w : World) (h0 : (decide (c32 ≤ ta)) = true) (Bg : Blk w g 36 (K36 4 0 0 0 0 c5 c6 c7 c8 c9 c10 c11 0 0 0 false 0 0 0 0 0 (.slice none 0 0) 0 0 0 0 0 0 0 0 c30 c31 c32 c33 c34 c35 c36 c37 c38 c39 c40)) (Bga : Blk w ga 23 [.int .u64 ta]) (Nga_g : ga ≠ g) :
    Calls Try.prog 39 #[.pointer (some ⟨g, 0, none⟩), .pointer (some ⟨ga, 0, none⟩)] w fun e w' => e = .returned (.tuple #[]) ∧ Blk w' g 36 (K36 4 0 0 0 0 c5 c6 c7 c8 c9 c10 c11 0 0 0 false 0 0 0 0 0 (.slice none 0 0) 0 0 0 0 0 0 0 0 c30 c31 c32 c33 c34 c35 c36 c37 c38 c30 c31) ∧ w.grownBy w' (some g) := by
  have hu36 := Try.underlying36
  have HS := Turned.refl g w
  go_enter Try.func39, Try.ntmps39
  go_wp2_with (first | ((go_at_call 36); (with_reducible refine (parts_prague g _ ((Bg.cell 0).trans rfl)).mono ?_); rintro e w1 ⟨rfl, hd⟩; have hl := hd.below; clear hd; replace Bg := Bg.below hl; replace Bga := Bga.below hl; replace HS := HS.below hl; clear hl; have kg_32 := Bg.at 32 rfl; have kga_0 := Bga.at 0 rfl))
  all_goals go_quiet (fail)
  all_goals (generalize hW : World.drewN w1 _ = w2; have hl : Below w1.heap.size w1 w2 := (by rw [← hW]; exact pw_below_drewN (Below.refl _ _) _); clear hW; replace Bg := Bg.below hl; replace Bga := Bga.below hl; replace HS := HS.below hl; clear hl; clear kg_32 kga_0; have kg_30 := Bg.at 30 rfl; have kg_31 := Bg.at 31 rfl; have kg_39 := Bg.at 39 rfl; have zg_39 := Bg.frozen 39; have kg_40 := Bg.at 40 rfl; have zg_40 := Bg.frozen 40)
  go_wp2
  go_region_with (fail)
  all_goals (refine letter ?_; intro w3 hW)
  all_goals (have Bn_ : Blk w3 g 36 (K36 4 0 0 0 0 c5 c6 c7 c8 c9 c10 c11 0 0 0 false 0 0 0 0 0 (.slice none 0 0) 0 0 0 0 0 0 0 0 c30 c31 c32 c33 c34 c35 c36 c37 c38 c30 c31) := (by rw [hW]; (repeat (first | (with_reducible refine Blk.drewN ?_ _) | (with_reducible refine Blk.drew ?_))); refine Blk.set (l := (K36 4 0 0 0 0 c5 c6 c7 c8 c9 c10 c11 0 0 0 false 0 0 0 0 0 (.slice none 0 0) 0 0 0 0 0 0 0 0 c30 c31 c32 c33 c34 c35 c36 c37 c38 c30 c40)) ?_ 40 _ rfl; (repeat (first | (with_reducible refine Blk.drewN ?_ _) | (with_reducible refine Blk.drew ?_))); refine Blk.set (l := (K36 4 0 0 0 0 c5 c6 c7 c8 c9 c10 c11 0 0 0 false 0 0 0 0 0 (.slice none 0 0) 0 0 0 0 0 0 0 0 c30 c31 c32 c33 c34 c35 c36 c37 c38 c39 c40)) ?_ 39 _ rfl; (repeat (first | (with_reducible refine Blk.drewN ?_ _) | (with_reducible refine Blk.drew ?_))); exact Bg); replace Bg := Bn_; clear Bn_)
  all_goals (have Bn_ : Blk w3 ga 23 [.int .u64 ta] := (by rw [hW]; (repeat (first | (with_reducible refine Blk.drewN ?_ _) | (with_reducible refine Blk.drew ?_))); refine Blk.setFar ?_ Nga_g; (repeat (first | (with_reducible refine Blk.drewN ?_ _) | (with_reducible refine Blk.drew ?_))); refine Blk.setFar ?_ Nga_g; (repeat (first | (with_reducible refine Blk.drewN ?_ _) | (with_reducible refine Blk.drew ?_))); exact Bga); replace Bga := Bn_; clear Bn_)
  all_goals (have HS_ : Turned g w w3 := (by rw [hW]; repeat (first | (with_reducible exact HS) | (with_reducible refine Turned.drewN ?_ _) | (with_reducible refine Turned.drew ?_) | (with_reducible refine Turned.set ?_))); replace HS := HS_; clear HS_ hW)
  all_goals (clear kg_30 kg_31 kg_39 zg_39 kg_40 zg_40; have kg_0 := Bg.at 0 rfl)
  go_wp2
  all_goals (go_end0; exact ⟨rfl, Bg, HS.out⟩)
set_option maxRecDepth 100000 in
set_option maxHeartbeats 4000000 in
theorem keepK4_1 (c5 c6 c7 c8 c9 c10 c11 c30 c31 c32 c33 c34 c35 c36 c37 c39 c40 ta : Int) (c38 : Bool) (g ga : Nat)  (w : World) (h0 : (decide (c32 ≤ ta)) = false) (Bg : Blk w g 36 (K36 4 0 0 0 0 c5 c6 c7 c8 c9 c10 c11 0 0 0 false 0 0 0 0 0 (.slice none 0 0) 0 0 0 0 0 0 0 0 c30 c31 c32 c33 c34 c35 c36 c37 c38 c39 c40)) (Bga : Blk w ga 23 [.int .u64 ta]) (Nga_g : ga ≠ g) :
    Calls Try.prog 39 #[.pointer (some ⟨g, 0, none⟩), .pointer (some ⟨ga, 0, none⟩)] w fun e w' => e = .returned (.tuple #[]) ∧ Blk w' g 36 (K36 4 0 0 0 0 c5 c6 c7 c8 c9 c10 c11 0 0 0 false 0 0 0 0 0 (.slice none 0 0) 0 0 0 0 0 0 0 0 c30 c31 c32 c33 c34 c35 c36 c37 c38 c39 c40) ∧ w.grownBy w' (some g) := by
  have HS := Turned.refl g w
  go_enter Try.func39, Try.ntmps39
  go_wp2_with (first | ((go_at_call 36); (with_reducible refine (parts_prague g _ ((Bg.cell 0).trans rfl)).mono ?_); rintro e w1 ⟨rfl, hd⟩; have hl := hd.below; clear hd; replace Bg := Bg.below hl; replace Bga := Bga.below hl; replace HS := HS.below hl; clear hl; have kg_32 := Bg.at 32 rfl; have kga_0 := Bga.at 0 rfl))
  all_goals go_quiet (fail)
  all_goals (generalize hW : World.drewN w1 _ = w2; have hl : Below w1.heap.size w1 w2 := (by rw [← hW]; exact pw_below_drewN (Below.refl _ _) _); clear hW; replace Bg := Bg.below hl; replace Bga := Bga.below hl; replace HS := HS.below hl; clear hl; clear kg_32 kga_0)
  go_wp2
  all_goals (go_end0; exact ⟨rfl, Bg, HS.out⟩)
set_option maxRecDepth 100000 in
set_option maxHeartbeats 4000000 in
theorem windowK1_0 (c1 c2 c3 c4 c5 c6 c7 c8 c9 c10 c11 c39 c40 : Int)  (w : World) :
    Calls Try.prog 15 #[.agg (K36 1 c1 c2 c3 c4 c5 c6 c7 c8 c9 c10 c11 0 0 0 false 0 0 0 0 0 (.slice none 0 0) 0 0 0 0 0 0 0 0 0 0 0 0 0 0 0 0 false c39 c40).toArray] w fun e w' => e = .returned (.int .u64 c1) ∧ Below w.heap.size w w' := by
  have hu36 := Try.underlying36
  have HS := Since.refl w
  go_enter Try.func15, Try.ntmps15
  go_wp2_with (first | ((with_reducible refine gate_dst (N := 1) rfl ?_); refine seg_new rfl (N := 1) rfl (K36 1 c1 c2 c3 c4 c5 c6 c7 c8 c9 c10 c11 0 0 0 false 0 0 0 0 0 (.slice none 0 0) 0 0 0 0 0 0 0 0 0 0 0 0 0 0 0 0 false c39 c40) 36 ?hr ?_; (case hr => first | (go_simp; done) | (go_simp; rfl) | kernel_rfl); intro g0 hg w1 hn hl; have GEg0 := ge_new HS hg; clear hg; replace HS := HS.below hl; have Bg0 := hn; clear hl hn; have kg0_0 := Bg0.at 0 rfl) | ((go_at_call 36); (with_reducible refine (parts_reno g0 _ ((Bg0.cell 0).trans rfl)).mono ?_); rintro e w2 ⟨rfl, hd⟩; have hl := hd.below; clear hd; replace Bg0 := Bg0.below hl; replace HS := HS.below hl; clear hl; clear kg0_0; have kg0_1 := Bg0.at 1 rfl))
  all_goals (go_ret; exact ⟨rfl, HS.out⟩)
set_option maxRecDepth 100000 in
set_option maxHeartbeats 4000000 in
theorem windowK2_0 (c5 c6 c7 c8 c9 c10 c11 c12 c13 c14 c16 c17 c18 c19 c39 c40 : Int) (c15 : Bool)  (w : World) :
    Calls Try.prog 15 #[.agg (K36 2 0 0 0 0 c5 c6 c7 c8 c9 c10 c11 c12 c13 c14 c15 c16 c17 c18 c19 0 (.slice none 0 0) 0 0 0 0 0 0 0 0 0 0 0 0 0 0 0 0 false c39 c40).toArray] w fun e w' => e = .returned (.int .u64 c12) ∧ Below w.heap.size w w' := by
  have hu36 := Try.underlying36
  have HS := Since.refl w
  go_enter Try.func15, Try.ntmps15
  go_wp2_with (first | ((with_reducible refine gate_dst (N := 1) rfl ?_); refine seg_new rfl (N := 1) rfl (K36 2 0 0 0 0 c5 c6 c7 c8 c9 c10 c11 c12 c13 c14 c15 c16 c17 c18 c19 0 (.slice none 0 0) 0 0 0 0 0 0 0 0 0 0 0 0 0 0 0 0 false c39 c40) 36 ?hr ?_; (case hr => first | (go_simp; done) | (go_simp; rfl) | kernel_rfl); intro g0 hg w1 hn hl; have GEg0 := ge_new HS hg; clear hg; replace HS := HS.below hl; have Bg0 := hn; clear hl hn; have kg0_0 := Bg0.at 0 rfl) | ((go_at_call 36); (with_reducible refine (parts_cubic g0 _ ((Bg0.cell 0).trans rfl)).mono ?_); rintro e w2 ⟨rfl, hd⟩; have hl := hd.below; clear hd; replace Bg0 := Bg0.below hl; replace HS := HS.below hl; clear hl; clear kg0_0; have kg0_12 := Bg0.at 12 rfl))
  all_goals (go_ret; exact ⟨rfl, HS.out⟩)
set_option maxRecDepth 100000 in
set_option maxHeartbeats 4000000 in
theorem windowK4_0 (c5 c6 c7 c8 c9 c10 c11 c30 c31 c32 c33 c34 c35 c36 c37 c39 c40 : Int) (c38 : Bool)  (w : World) :
    Calls Try.prog 15 #[.agg (K36 4 0 0 0 0 c5 c6 c7 c8 c9 c10 c11 0 0 0 false 0 0 0 0 0 (.slice none 0 0) 0 0 0 0 0 0 0 0 c30 c31 c32 c33 c34 c35 c36 c37 c38 c39 c40).toArray] w fun e w' => e = .returned (.int .u64 c30) ∧ Below w.heap.size w w' := by
  have hu36 := Try.underlying36
  have HS := Since.refl w
  go_enter Try.func15, Try.ntmps15
  go_wp2_with (first | ((with_reducible refine gate_dst (N := 1) rfl ?_); refine seg_new rfl (N := 1) rfl (K36 4 0 0 0 0 c5 c6 c7 c8 c9 c10 c11 0 0 0 false 0 0 0 0 0 (.slice none 0 0) 0 0 0 0 0 0 0 0 c30 c31 c32 c33 c34 c35 c36 c37 c38 c39 c40) 36 ?hr ?_; (case hr => first | (go_simp; done) | (go_simp; rfl) | kernel_rfl); intro g0 hg w1 hn hl; have GEg0 := ge_new HS hg; clear hg; replace HS := HS.below hl; have Bg0 := hn; clear hl hn; have kg0_0 := Bg0.at 0 rfl) | ((go_at_call 36); (with_reducible refine (parts_prague g0 _ ((Bg0.cell 0).trans rfl)).mono ?_); rintro e w2 ⟨rfl, hd⟩; have hl := hd.below; clear hd; replace Bg0 := Bg0.below hl; replace HS := HS.below hl; clear hl; clear kg0_0; have kg0_30 := Bg0.at 30 rfl))
  all_goals (go_ret; exact ⟨rfl, HS.out⟩)
end Go.Proofs.Ytpgffmnbdggpnaa.PCv
