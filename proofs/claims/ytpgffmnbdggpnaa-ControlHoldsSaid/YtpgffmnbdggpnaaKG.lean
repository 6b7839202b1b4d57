/- Several texts of this claim in one. -/
import Derived.Deep.DeepMust
import Derived.Test.YtpgffmnbdggpnaaKD
import Derived.Test.YtpgffmnbdggpnaaKE
import Derived.Test.YtpgffmnbdggpnaaKW
import Derived.Test.YtpgffmnbdggpnaaKF
section
namespace Go.Proofs.Ytpgffmnbdggpnaa.PCv
open Go.RowKit Go.Proofs.YtpgffmnbdggpnaaW.PrintWords Go.Proofs.YtpgffmnbdggpnaaW.PrintLast Go.Proofs.YtpgffmnbdggpnaaW.PrintMore
set_option linter.unusedVariables false
set_option linter.unusedSimpArgs false
set_option maxRecDepth 100000
set_option maxHeartbeats 8000000
theorem ackS1 (c1 c2 c3 c4 c5 c6 c7 c8 c9 c10 c11 c39 c40 g_0 g_1 g_2 g_3 g_4 g_5 g_6 g_7 : Int) (g_8 g_9 : Bool) (hc : G1 c1 c2 c3 c4 c5 c6 c7 c8 c9 c10 c11 c39 c40) (Wg_0 : W64 g_0) (Wg_1 : W64 g_1) (Wg_2 : W64 g_2) (Wg_3 : W64 g_3) (Wg_4 : W64 g_4) (Wg_5 : W64 g_5) (Wg_6 : W64 g_6) (Wg_7 : W64 g_7) (w : World) :
  Calls Try.prog 10 #[.agg (K1 c1 c2 c3 c4 c5 c6 c7 c8 c9 c10 c11 c39 c40).toArray, .agg #[.int .u64 g_0, .int .u64 g_1, .int .u64 g_2, .int .u64 g_3, .int .u64 g_4, .int .u64 g_5, .int .u64 g_6, .int .u64 g_7, .bool g_8, .bool g_9]] w fun e w' => S1 (fun x y => True) w e w' := by
 have hu25 := Try.underlying25
 have hu36 := Try.underlying36
 have hu40 := Try.underlying40
 obtain ⟨hb_c1, hp_c5, Wc1, Wc2, Wc3, Wc4, Wc6, Wc7, Wc8, Wc9, Wc10, Wc11, Wc39, Wc40⟩ := hc
 have HS := Since.refl w
 go_enter Try.func10, Try.ntmps10
 go_wp2_with (first | (refine seg_new rfl (N := 2) rfl (K1 c1 c2 c3 c4 c5 c6 c7 c8 c9 c10 c11 c39 c40) 36 ?hr ?_; (case hr => rfl); intro g0 hg w1 hn hl; have GEg0 := ge_new HS hg; clear hg; replace HS := HS.below hl; have Bg0 := hn; clear hl hn) | (refine seg_new rfl (N := 3) rfl [.int .u64 g_0, .int .u64 g_1, .int .u64 g_2, .int .u64 g_3, .int .u64 g_4, .int .u64 g_5, .int .u64 g_6, .int .u64 g_7, .bool g_8, .bool g_9] 40 ?hr ?_; (case hr => rfl); intro g1 hg w2 hn hl; have Ng1_g0 := ne_new Bg0 hg; have GEg1 := ge_new HS hg; clear hg; replace Bg0 := Bg0.below hl; replace HS := HS.below hl; have Bg1 := hn; clear hl hn) | (refine seg_new rfl (N := 4) rfl K0 36 ?hr ?_; (case hr => rfl); intro g2 hg w3 hn hl; have Ng2_g0 := ne_new Bg0 hg; have Ng2_g1 := ne_new Bg1 hg; have GEg2 := ge_new HS hg; clear hg; replace Bg0 := Bg0.below hl; replace Bg1 := Bg1.below hl; replace HS := HS.below hl; have Bg2 := hn; clear hl hn; have kg0_0 := Bg0.at 0 rfl) | (refine seg_load rfl (N := 11) rfl 40 (.tmp 3) rfl g1 0 [.int .u64 g_0, .int .u64 g_1, .int .u64 g_2, .int .u64 g_3, .int .u64 g_4, .int .u64 g_5, .int .u64 g_6, .int .u64 g_7, .bool g_8, .bool g_9] rfl Bg1 rfl Try.underlying40 rfl (by kernel_rfl) ?_) | ((go_at_call 21); (with_reducible refine (slowA1 c1 c2 c3 c4 c5 c6 c7 c8 c9 c10 c11 0 0 0 false 0 0 0 0 0 none 0 0 0 0 0 0 0 0 0 0 0 0 0 0 0 0 0 0 false c39 c40 g_0 g_1 g_2 g_3 g_4 g_5 g_6 g_7 g_8 g_9 Wc1 Wc2 Wc3 Wc4 Wc6 Wc7 Wc8 Wc9 Wc10 Wc11 (by decide) (by decide) (by decide) (by decide) (by decide) (by decide) (by decide) (by decide) (by decide) (by decide) (by decide) (by decide) (by decide) (by decide) (by decide) (by decide) (by decide) (by decide) (by decide) (by decide) (by decide) (by decide) (by decide) Wc39 Wc40 Wg_0 Wg_1 Wg_2 Wg_3 Wg_4 Wg_5 Wg_6 Wg_7 g0 hp_c5 _ Bg0).mono ?_); rintro e w4 ⟨q, th, p0, p1, p2, p3, p4, p5, p6, rfl, Wq, Wth, hp_p0, Wp1, Wp2, Wp3, Wp4, Wp5, Wp6, hn, hw⟩; replace Bg1 := Bg1.grown hw Ng1_g0; replace Bg2 := Bg2.grown hw Ng2_g0; replace HS := HS.grown hw GEg0; replace Bg0 := hn; clear hw; clear kg0_0; have kg1_2 := Bg1.at 2 rfl; have kg1_8 := Bg1.at 8 rfl; clear hn) | (refine seg_load rfl (N := 14) rfl 25 (.tmp 13) rfl g0 1 [.int .u64 c1, .int .u64 th, .int .u64 c3, .int .u64 c4] rfl Bg0 rfl Try.underlying25 rfl (by kernel_rfl) ?_) | ((go_at_call 11); (with_reducible refine (renoC c1 th c3 c4 q g_2 g_8 Wc1 Wc4 Wq _).mono ?_); rintro e w5 ⟨rfl, hl⟩; replace Bg0 := Bg0.below hl; replace Bg1 := Bg1.below hl; replace Bg2 := Bg2.below hl; replace HS := HS.below hl; clear hl; clear kg1_2 kg1_8) | (refine seg_store rfl rfl 25 (.tmp 21) (.tmp 20) rfl g0 1 [.int .u64 (uR0 c1 th c3 c4 q g_2 g_8), .int .u64 th, .int .u64 c3, .int .u64 (uR3 c1 th c3 c4 q g_2 g_8)] (K1 (uR0 c1 th c3 c4 q g_2 g_8) th c3 (uR3 c1 th c3 c4 q g_2 g_8) p0 p1 p2 p3 p4 p5 p6 c39 c40) (.agg #[.int .u64 (uR0 c1 th c3 c4 q g_2 g_8), .int .u64 th, .int .u64 c3, .int .u64 (uR3 c1 th c3 c4 q g_2 g_8)]) rfl rfl rfl Bg0 (by kernel_rfl) (nle rfl) rfl rfl ?_; intro w6 hn hw; replace Bg1 := Bg1.grown hw Ng1_g0; replace Bg2 := Bg2.grown hw Ng2_g0; replace HS := HS.grown hw GEg0; replace Bg0 := hn; clear hw; clear hn) | (refine seg_load rfl (N := 53) rfl 36 (.tmp 2) rfl g0 0 (K1 (uR0 c1 th c3 c4 q g_2 g_8) th c3 (uR3 c1 th c3 c4 q g_2 g_8) p0 p1 p2 p3 p4 p5 p6 c39 c40) rfl Bg0 rfl Try.underlying36 rfl (by kernel_rfl) ?_) | (refine seg_store rfl rfl 36 (.tmp 4) (.tmp 53) rfl g2 0 (K1 (uR0 c1 th c3 c4 q g_2 g_8) th c3 (uR3 c1 th c3 c4 q g_2 g_8) p0 p1 p2 p3 p4 p5 p6 c39 c40) (K1 (uR0 c1 th c3 c4 q g_2 g_8) th c3 (uR3 c1 th c3 c4 q g_2 g_8) p0 p1 p2 p3 p4 p5 p6 c39 c40) (.agg (K1 (uR0 c1 th c3 c4 q g_2 g_8) th c3 (uR3 c1 th c3 c4 q g_2 g_8) p0 p1 p2 p3 p4 p5 p6 c39 c40).toArray) rfl rfl rfl Bg2 (by kernel_rfl) (nle rfl) rfl rfl ?_; intro w7 hn hw; replace Bg0 := Bg0.grown hw Ng2_g0.symm; replace Bg1 := Bg1.grown hw Ng2_g1.symm; replace HS := HS.grown hw GEg2; replace Bg2 := hn; clear hw; clear hn))
 all_goals exact bodyPost_ret (results_cell1 rfl _ _ g2 36 (K1 (uR0 c1 th c3 c4 q g_2 g_8) th c3 (uR3 c1 th c3 c4 q g_2 g_8) p0 p1 p2 p3 p4 p5 p6 c39 c40) _ rfl Bg2 Try.underlying36 rfl (by kernel_rfl)) rfl ⟨_, _, _, _, _, _, _, _, _, _, _, _, _, rfl, ⟨(uR0_in hb_c1), hp_p0, (uR0_w Wc1), Wth, Wc3, (uR3_w Wc1 Wc4 Wq), Wp1, Wp2, Wp3, Wp4, Wp5, Wp6, Wc39, Wc40⟩, trivial, HS.out⟩
theorem ackS2 (c5 c6 c7 c8 c9 c10 c11 c12 c13 c14 c16 c17 c18 c19 c39 c40 g_0 g_1 g_2 g_3 g_4 g_5 g_6 g_7 : Int) (c15 : Bool) (g_8 g_9 : Bool) (hc : G2 c5 c6 c7 c8 c9 c10 c11 c12 c13 c14 c16 c17 c18 c19 c39 c40) (Wg_0 : W64 g_0) (Wg_1 : W64 g_1) (Wg_2 : W64 g_2) (Wg_3 : W64 g_3) (Wg_4 : W64 g_4) (Wg_5 : W64 g_5) (Wg_6 : W64 g_6) (Wg_7 : W64 g_7) (w : World) :
  Calls Try.prog 10 #[.agg (K2 c5 c6 c7 c8 c9 c10 c11 c12 c13 c14 c15 c16 c17 c18 c19 c39 c40).toArray, .agg #[.int .u64 g_0, .int .u64 g_1, .int .u64 g_2, .int .u64 g_3, .int .u64 g_4, .int .u64 g_5, .int .u64 g_6, .int .u64 g_7, .bool g_8, .bool g_9]] w fun e w' => S2 (fun x y => True) w e w' := by
 have hu29 := Try.underlying29
 have hu36 := Try.underlying36
 have hu40 := Try.underlying40
 obtain ⟨hb_c12, hp_c5, Wc6, Wc7, Wc8, Wc9, Wc10, Wc11, Wc12, Wc13, Wc14, Wc16, Wc17, Wc18, Wc19, Wc39, Wc40⟩ := hc
 have HS := Since.refl w
 go_enter Try.func10, Try.ntmps10
 go_wp2_with (first | (refine seg_new rfl (N := 2) rfl (K2 c5 c6 c7 c8 c9 c10 c11 c12 c13 c14 c15 c16 c17 c18 c19 c39 c40) 36 ?hr ?_; (case hr => rfl); intro g0 hg w1 hn hl; have GEg0 := ge_new HS hg; clear hg; replace HS := HS.below hl; have Bg0 := hn; clear hl hn) | (refine seg_new rfl (N := 3) rfl [.int .u64 g_0, .int .u64 g_1, .int .u64 g_2, .int .u64 g_3, .int .u64 g_4, .int .u64 g_5, .int .u64 g_6, .int .u64 g_7, .bool g_8, .bool g_9] 40 ?hr ?_; (case hr => rfl); intro g1 hg w2 hn hl; have Ng1_g0 := ne_new Bg0 hg; have GEg1 := ge_new HS hg; clear hg; replace Bg0 := Bg0.below hl; replace HS := HS.below hl; have Bg1 := hn; clear hl hn) | (refine seg_new rfl (N := 4) rfl K0 36 ?hr ?_; (case hr => rfl); intro g2 hg w3 hn hl; have Ng2_g0 := ne_new Bg0 hg; have Ng2_g1 := ne_new Bg1 hg; have GEg2 := ge_new HS hg; clear hg; replace Bg0 := Bg0.below hl; replace Bg1 := Bg1.below hl; replace HS := HS.below hl; have Bg2 := hn; clear hl hn; have kg0_0 := Bg0.at 0 rfl) | (refine seg_load rfl (N := 24) rfl 40 (.tmp 3) rfl g1 0 [.int .u64 g_0, .int .u64 g_1, .int .u64 g_2, .int .u64 g_3, .int .u64 g_4, .int .u64 g_5, .int .u64 g_6, .int .u64 g_7, .bool g_8, .bool g_9] rfl Bg1 rfl Try.underlying40 rfl (by kernel_rfl) ?_) | ((go_at_call 21); (with_reducible refine (slowA2 0 0 0 0 c5 c6 c7 c8 c9 c10 c11 c12 c13 c14 c15 c16 c17 c18 c19 0 none 0 0 0 0 0 0 0 0 0 0 0 0 0 0 0 0 0 0 false c39 c40 g_0 g_1 g_2 g_3 g_4 g_5 g_6 g_7 g_8 g_9 (by decide) (by decide) (by decide) (by decide) Wc6 Wc7 Wc8 Wc9 Wc10 Wc11 Wc12 Wc13 Wc14 Wc16 Wc17 Wc18 Wc19 (by decide) (by decide) (by decide) (by decide) (by decide) (by decide) (by decide) (by decide) (by decide) (by decide) (by decide) (by decide) (by decide) (by decide) (by decide) (by decide) Wc39 Wc40 Wg_0 Wg_1 Wg_2 Wg_3 Wg_4 Wg_5 Wg_6 Wg_7 g0 hp_c5 _ Bg0).mono ?_); rintro e w4 ⟨q, th, p0, p1, p2, p3, p4, p5, p6, rfl, Wq, Wth, hp_p0, Wp1, Wp2, Wp3, Wp4, Wp5, Wp6, hn, hw⟩; replace Bg1 := Bg1.grown hw Ng1_g0; replace Bg2 := Bg2.grown hw Ng2_g0; replace HS := HS.grown hw GEg0; replace Bg0 := hn; clear hw; clear kg0_0; have kg1_0 := Bg1.at 0 rfl; have kg1_2 := Bg1.at 2 rfl; have kg1_5 := Bg1.at 5 rfl; have kg1_8 := Bg1.at 8 rfl; clear hn) | (refine seg_load rfl (N := 27) rfl 29 (.tmp 26) rfl g0 12 [.int .u64 c12, .int .u64 th, .int .u64 c14, .bool c15, .int .u64 c16, .int .u64 c17, .int .u64 c18, .int .u64 c19] rfl Bg0 rfl Try.underlying29 rfl (by kernel_rfl) ?_) | ((go_at_call 12); (with_reducible refine (uCA_all c12 th c14 c16 c17 c18 c19 q g_2 g_0 g_5 c15 g_8 Wc12 Wth Wc14 Wc16 Wc17 Wc18 Wc19 Wq Wg_0 Wg_5 _).mono ?_); rintro e w5 ⟨rfl, hl⟩; replace Bg0 := Bg0.below hl; replace Bg1 := Bg1.below hl; replace Bg2 := Bg2.below hl; replace HS := HS.below hl; clear hl; clear kg1_0 kg1_2 kg1_5 kg1_8) | (refine seg_store rfl rfl 29 (.tmp 38) (.tmp 37) rfl g0 12 [.int .u64 (uCA_0 c12 th c14 c16 c17 c18 c19 q g_2 g_0 g_5 c15 g_8), .int .u64 th, .int .u64 c14, .bool (uCA_3 c12 th c14 c16 c17 c18 c19 q g_2 g_0 g_5 c15 g_8), .int .u64 (uCA_4 c12 th c14 c16 c17 c18 c19 q g_2 g_0 g_5 c15 g_8), .int .u64 (uCA_5 c12 th c14 c16 c17 c18 c19 q g_2 g_0 g_5 c15 g_8), .int .u64 (uCA_6 c12 th c14 c16 c17 c18 c19 q g_2 g_0 g_5 c15 g_8), .int .u64 (uCA_7 c12 th c14 c16 c17 c18 c19 q g_2 g_0 g_5 c15 g_8)] (K2 p0 p1 p2 p3 p4 p5 p6 (uCA_0 c12 th c14 c16 c17 c18 c19 q g_2 g_0 g_5 c15 g_8) th c14 (uCA_3 c12 th c14 c16 c17 c18 c19 q g_2 g_0 g_5 c15 g_8) (uCA_4 c12 th c14 c16 c17 c18 c19 q g_2 g_0 g_5 c15 g_8) (uCA_5 c12 th c14 c16 c17 c18 c19 q g_2 g_0 g_5 c15 g_8) (uCA_6 c12 th c14 c16 c17 c18 c19 q g_2 g_0 g_5 c15 g_8) (uCA_7 c12 th c14 c16 c17 c18 c19 q g_2 g_0 g_5 c15 g_8) c39 c40) (.agg #[.int .u64 (uCA_0 c12 th c14 c16 c17 c18 c19 q g_2 g_0 g_5 c15 g_8), .int .u64 th, .int .u64 c14, .bool (uCA_3 c12 th c14 c16 c17 c18 c19 q g_2 g_0 g_5 c15 g_8), .int .u64 (uCA_4 c12 th c14 c16 c17 c18 c19 q g_2 g_0 g_5 c15 g_8), .int .u64 (uCA_5 c12 th c14 c16 c17 c18 c19 q g_2 g_0 g_5 c15 g_8), .int .u64 (uCA_6 c12 th c14 c16 c17 c18 c19 q g_2 g_0 g_5 c15 g_8), .int .u64 (uCA_7 c12 th c14 c16 c17 c18 c19 q g_2 g_0 g_5 c15 g_8)]) rfl rfl rfl Bg0 (by kernel_rfl) (nle rfl) rfl rfl ?_; intro w6 hn hw; replace Bg1 := Bg1.grown hw Ng1_g0; replace Bg2 := Bg2.grown hw Ng2_g0; replace HS := HS.grown hw GEg0; replace Bg0 := hn; clear hw; clear hn) | (refine seg_load rfl (N := 53) rfl 36 (.tmp 2) rfl g0 0 (K2 p0 p1 p2 p3 p4 p5 p6 (uCA_0 c12 th c14 c16 c17 c18 c19 q g_2 g_0 g_5 c15 g_8) th c14 (uCA_3 c12 th c14 c16 c17 c18 c19 q g_2 g_0 g_5 c15 g_8) (uCA_4 c12 th c14 c16 c17 c18 c19 q g_2 g_0 g_5 c15 g_8) (uCA_5 c12 th c14 c16 c17 c18 c19 q g_2 g_0 g_5 c15 g_8) (uCA_6 c12 th c14 c16 c17 c18 c19 q g_2 g_0 g_5 c15 g_8) (uCA_7 c12 th c14 c16 c17 c18 c19 q g_2 g_0 g_5 c15 g_8) c39 c40) rfl Bg0 rfl Try.underlying36 rfl (by kernel_rfl) ?_) | (refine seg_store rfl rfl 36 (.tmp 4) (.tmp 53) rfl g2 0 (K2 p0 p1 p2 p3 p4 p5 p6 (uCA_0 c12 th c14 c16 c17 c18 c19 q g_2 g_0 g_5 c15 g_8) th c14 (uCA_3 c12 th c14 c16 c17 c18 c19 q g_2 g_0 g_5 c15 g_8) (uCA_4 c12 th c14 c16 c17 c18 c19 q g_2 g_0 g_5 c15 g_8) (uCA_5 c12 th c14 c16 c17 c18 c19 q g_2 g_0 g_5 c15 g_8) (uCA_6 c12 th c14 c16 c17 c18 c19 q g_2 g_0 g_5 c15 g_8) (uCA_7 c12 th c14 c16 c17 c18 c19 q g_2 g_0 g_5 c15 g_8) c39 c40) (K2 p0 p1 p2 p3 p4 p5 p6 (uCA_0 c12 th c14 c16 c17 c18 c19 q g_2 g_0 g_5 c15 g_8) th c14 (uCA_3 c12 th c14 c16 c17 c18 c19 q g_2 g_0 g_5 c15 g_8) (uCA_4 c12 th c14 c16 c17 c18 c19 q g_2 g_0 g_5 c15 g_8) (uCA_5 c12 th c14 c16 c17 c18 c19 q g_2 g_0 g_5 c15 g_8) (uCA_6 c12 th c14 c16 c17 c18 c19 q g_2 g_0 g_5 c15 g_8) (uCA_7 c12 th c14 c16 c17 c18 c19 q g_2 g_0 g_5 c15 g_8) c39 c40) (.agg (K2 p0 p1 p2 p3 p4 p5 p6 (uCA_0 c12 th c14 c16 c17 c18 c19 q g_2 g_0 g_5 c15 g_8) th c14 (uCA_3 c12 th c14 c16 c17 c18 c19 q g_2 g_0 g_5 c15 g_8) (uCA_4 c12 th c14 c16 c17 c18 c19 q g_2 g_0 g_5 c15 g_8) (uCA_5 c12 th c14 c16 c17 c18 c19 q g_2 g_0 g_5 c15 g_8) (uCA_6 c12 th c14 c16 c17 c18 c19 q g_2 g_0 g_5 c15 g_8) (uCA_7 c12 th c14 c16 c17 c18 c19 q g_2 g_0 g_5 c15 g_8) c39 c40).toArray) rfl rfl rfl Bg2 (by kernel_rfl) (nle rfl) rfl rfl ?_; intro w7 hn hw; replace Bg0 := Bg0.grown hw Ng2_g0.symm; replace Bg1 := Bg1.grown hw Ng2_g1.symm; replace HS := HS.grown hw GEg2; replace Bg2 := hn; clear hw; clear hn))
 all_goals exact bodyPost_ret (results_cell1 rfl _ _ g2 36 (K2 p0 p1 p2 p3 p4 p5 p6 (uCA_0 c12 th c14 c16 c17 c18 c19 q g_2 g_0 g_5 c15 g_8) th c14 (uCA_3 c12 th c14 c16 c17 c18 c19 q g_2 g_0 g_5 c15 g_8) (uCA_4 c12 th c14 c16 c17 c18 c19 q g_2 g_0 g_5 c15 g_8) (uCA_5 c12 th c14 c16 c17 c18 c19 q g_2 g_0 g_5 c15 g_8) (uCA_6 c12 th c14 c16 c17 c18 c19 q g_2 g_0 g_5 c15 g_8) (uCA_7 c12 th c14 c16 c17 c18 c19 q g_2 g_0 g_5 c15 g_8) c39 c40) _ rfl Bg2 Try.underlying36 rfl (by kernel_rfl)) rfl ⟨_, _, _, _, _, _, _, _, _, _, _, _, _, _, _, _, _, rfl, ⟨(uCA_0_in hb_c12), hp_p0, Wp1, Wp2, Wp3, Wp4, Wp5, Wp6, (uCA_0_w Wc12 Wth Wc14 Wc16 Wc17 Wc18 Wc19 Wq Wg_0 Wg_5), Wth, Wc14, (uCA_4_w Wc12 Wth Wc14 Wc16 Wc17 Wc18 Wc19 Wq Wg_0 Wg_5), (uCA_5_w Wc12 Wth Wc14 Wc16 Wc17 Wc18 Wc19 Wq Wg_0 Wg_5), (uCA_6_w Wc12 Wth Wc14 Wc16 Wc17 Wc18 Wc19 Wq Wg_0 Wg_5), (uCA_7_w Wc12 Wth Wc14 Wc16 Wc17 Wc18 Wc19 Wq Wg_0 Wg_5), Wc39, Wc40⟩, trivial, HS.out⟩
theorem ackS4 (c5 c6 c7 c8 c9 c10 c11 c30 c31 c32 c33 c34 c35 c36 c37 c39 c40 g_0 g_1 g_2 g_3 g_4 g_5 g_6 g_7 : Int) (c38 : Bool) (g_8 g_9 : Bool) (hc : G4 c5 c6 c7 c8 c9 c10 c11 c30 c31 c32 c33 c34 c35 c36 c37 c39 c40) (Wg_1 : W64 g_1) (Wg_4 : W64 g_4) (w : World) :
  Calls Try.prog 10 #[.agg (K4 c5 c6 c7 c8 c9 c10 c11 c30 c31 c32 c33 c34 c35 c36 c37 c38 c39 c40).toArray, .agg #[.int .u64 g_0, .int .u64 g_1, .int .u64 g_2, .int .u64 g_3, .int .u64 g_4, .int .u64 g_5, .int .u64 g_6, .int .u64 g_7, .bool g_8, .bool g_9]] w fun e w' => S4 (fun x y => True) w e w' := by
 have hu34 := Try.underlying34
 have hu36 := Try.underlying36
 have hu40 := Try.underlying40
 obtain ⟨hb_c30, hp_c5, Wc6, Wc7, Wc8, Wc9, Wc10, Wc11, Wc30, Wc31, Wc32, Wc33, Wc34, Wc35, Wc36, Wc37, Wc39, Wc40⟩ := hc
 have HS := Since.refl w
 go_enter Try.func10, Try.ntmps10
 go_wp2_with (first | (refine seg_new rfl (N := 2) rfl (K4 c5 c6 c7 c8 c9 c10 c11 c30 c31 c32 c33 c34 c35 c36 c37 c38 c39 c40) 36 ?hr ?_; (case hr => rfl); intro g0 hg w1 hn hl; have GEg0 := ge_new HS hg; clear hg; replace HS := HS.below hl; have Bg0 := hn; clear hl hn) | (refine seg_new rfl (N := 3) rfl [.int .u64 g_0, .int .u64 g_1, .int .u64 g_2, .int .u64 g_3, .int .u64 g_4, .int .u64 g_5, .int .u64 g_6, .int .u64 g_7, .bool g_8, .bool g_9] 40 ?hr ?_; (case hr => rfl); intro g1 hg w2 hn hl; have Ng1_g0 := ne_new Bg0 hg; have GEg1 := ge_new HS hg; clear hg; replace Bg0 := Bg0.below hl; replace HS := HS.below hl; have Bg1 := hn; clear hl hn) | (refine seg_new rfl (N := 4) rfl K0 36 ?hr ?_; (case hr => rfl); intro g2 hg w3 hn hl; have Ng2_g0 := ne_new Bg0 hg; have Ng2_g1 := ne_new Bg1 hg; have GEg2 := ge_new HS hg; clear hg; replace Bg0 := Bg0.below hl; replace Bg1 := Bg1.below hl; replace HS := HS.below hl; have Bg2 := hn; clear hl hn; have kg0_0 := Bg0.at 0 rfl) | (refine seg_load rfl (N := 49) rfl 34 (.tmp 48) rfl g0 30 [.int .u64 c30, .int .u64 c31, .int .u64 c32, .int .u64 c33, .int .u64 c34, .int .u64 c35, .int .u64 c36, .int .u64 c37, .bool c38] rfl Bg0 rfl Try.underlying34 rfl (by kernel_rfl) ?_) | (refine seg_load rfl (N := 50) rfl 40 (.tmp 3) rfl g1 0 [.int .u64 g_0, .int .u64 g_1, .int .u64 g_2, .int .u64 g_3, .int .u64 g_4, .int .u64 g_5, .int .u64 g_6, .int .u64 g_7, .bool g_8, .bool g_9] rfl Bg1 rfl Try.underlying40 rfl (by kernel_rfl) ?_) | ((go_at_call 13); (with_reducible refine (uPA_all c30 c31 c32 c33 c34 c35 c36 c37 g_0 g_1 g_2 g_3 g_4 g_5 g_6 g_7 c38 g_8 g_9 Wc30 Wc31 Wc32 Wc33 Wc34 Wc35 Wc36 Wc37 Wg_1 Wg_4 _).mono ?_); rintro e w4 ⟨rfl, hl⟩; replace Bg0 := Bg0.below hl; replace Bg1 := Bg1.below hl; replace Bg2 := Bg2.below hl; replace HS := HS.below hl; clear hl; clear kg0_0) | (refine seg_store rfl rfl 34 (.tmp 52) (.tmp 51) rfl g0 30 [.int .u64 (uR0 c30 c31 c32 c33 g_1 g_2 g_8), .int .u64 c31, .int .u64 c32, .int .u64 (uR3 c30 c31 c32 c33 g_1 g_2 g_8), .int .u64 (uPA_4 c30 c31 c32 c33 c34 c35 c36 c37 g_0 g_1 g_2 g_3 g_4 g_5 g_6 g_7 c38 g_8 g_9), .int .u64 (uPA_5 c30 c31 c32 c33 c34 c35 c36 c37 g_0 g_1 g_2 g_3 g_4 g_5 g_6 g_7 c38 g_8 g_9), .int .u64 (uPA_6 c30 c31 c32 c33 c34 c35 c36 c37 g_0 g_1 g_2 g_3 g_4 g_5 g_6 g_7 c38 g_8 g_9), .int .u64 (uPA_7 c30 c31 c32 c33 c34 c35 c36 c37 g_0 g_1 g_2 g_3 g_4 g_5 g_6 g_7 c38 g_8 g_9), .bool (uPA_8 c30 c31 c32 c33 c34 c35 c36 c37 g_0 g_1 g_2 g_3 g_4 g_5 g_6 g_7 c38 g_8 g_9)] (K4 c5 c6 c7 c8 c9 c10 c11 (uR0 c30 c31 c32 c33 g_1 g_2 g_8) c31 c32 (uR3 c30 c31 c32 c33 g_1 g_2 g_8) (uPA_4 c30 c31 c32 c33 c34 c35 c36 c37 g_0 g_1 g_2 g_3 g_4 g_5 g_6 g_7 c38 g_8 g_9) (uPA_5 c30 c31 c32 c33 c34 c35 c36 c37 g_0 g_1 g_2 g_3 g_4 g_5 g_6 g_7 c38 g_8 g_9) (uPA_6 c30 c31 c32 c33 c34 c35 c36 c37 g_0 g_1 g_2 g_3 g_4 g_5 g_6 g_7 c38 g_8 g_9) (uPA_7 c30 c31 c32 c33 c34 c35 c36 c37 g_0 g_1 g_2 g_3 g_4 g_5 g_6 g_7 c38 g_8 g_9) (uPA_8 c30 c31 c32 c33 c34 c35 c36 c37 g_0 g_1 g_2 g_3 g_4 g_5 g_6 g_7 c38 g_8 g_9) c39 c40) (.agg #[.int .u64 (uR0 c30 c31 c32 c33 g_1 g_2 g_8), .int .u64 c31, .int .u64 c32, .int .u64 (uR3 c30 c31 c32 c33 g_1 g_2 g_8), .int .u64 (uPA_4 c30 c31 c32 c33 c34 c35 c36 c37 g_0 g_1 g_2 g_3 g_4 g_5 g_6 g_7 c38 g_8 g_9), .int .u64 (uPA_5 c30 c31 c32 c33 c34 c35 c36 c37 g_0 g_1 g_2 g_3 g_4 g_5 g_6 g_7 c38 g_8 g_9), .int .u64 (uPA_6 c30 c31 c32 c33 c34 c35 c36 c37 g_0 g_1 g_2 g_3 g_4 g_5 g_6 g_7 c38 g_8 g_9), .int .u64 (uPA_7 c30 c31 c32 c33 c34 c35 c36 c37 g_0 g_1 g_2 g_3 g_4 g_5 g_6 g_7 c38 g_8 g_9), .bool (uPA_8 c30 c31 c32 c33 c34 c35 c36 c37 g_0 g_1 g_2 g_3 g_4 g_5 g_6 g_7 c38 g_8 g_9)]) rfl rfl rfl Bg0 (by kernel_rfl) (nle rfl) rfl rfl ?_; intro w5 hn hw; replace Bg1 := Bg1.grown hw Ng1_g0; replace Bg2 := Bg2.grown hw Ng2_g0; replace HS := HS.grown hw GEg0; replace Bg0 := hn; clear hw; clear hn) | (refine seg_load rfl (N := 53) rfl 36 (.tmp 2) rfl g0 0 (K4 c5 c6 c7 c8 c9 c10 c11 (uR0 c30 c31 c32 c33 g_1 g_2 g_8) c31 c32 (uR3 c30 c31 c32 c33 g_1 g_2 g_8) (uPA_4 c30 c31 c32 c33 c34 c35 c36 c37 g_0 g_1 g_2 g_3 g_4 g_5 g_6 g_7 c38 g_8 g_9) (uPA_5 c30 c31 c32 c33 c34 c35 c36 c37 g_0 g_1 g_2 g_3 g_4 g_5 g_6 g_7 c38 g_8 g_9) (uPA_6 c30 c31 c32 c33 c34 c35 c36 c37 g_0 g_1 g_2 g_3 g_4 g_5 g_6 g_7 c38 g_8 g_9) (uPA_7 c30 c31 c32 c33 c34 c35 c36 c37 g_0 g_1 g_2 g_3 g_4 g_5 g_6 g_7 c38 g_8 g_9) (uPA_8 c30 c31 c32 c33 c34 c35 c36 c37 g_0 g_1 g_2 g_3 g_4 g_5 g_6 g_7 c38 g_8 g_9) c39 c40) rfl Bg0 rfl Try.underlying36 rfl (by kernel_rfl) ?_) | (refine seg_store rfl rfl 36 (.tmp 4) (.tmp 53) rfl g2 0 (K4 c5 c6 c7 c8 c9 c10 c11 (uR0 c30 c31 c32 c33 g_1 g_2 g_8) c31 c32 (uR3 c30 c31 c32 c33 g_1 g_2 g_8) (uPA_4 c30 c31 c32 c33 c34 c35 c36 c37 g_0 g_1 g_2 g_3 g_4 g_5 g_6 g_7 c38 g_8 g_9) (uPA_5 c30 c31 c32 c33 c34 c35 c36 c37 g_0 g_1 g_2 g_3 g_4 g_5 g_6 g_7 c38 g_8 g_9) (uPA_6 c30 c31 c32 c33 c34 c35 c36 c37 g_0 g_1 g_2 g_3 g_4 g_5 g_6 g_7 c38 g_8 g_9) (uPA_7 c30 c31 c32 c33 c34 c35 c36 c37 g_0 g_1 g_2 g_3 g_4 g_5 g_6 g_7 c38 g_8 g_9) (uPA_8 c30 c31 c32 c33 c34 c35 c36 c37 g_0 g_1 g_2 g_3 g_4 g_5 g_6 g_7 c38 g_8 g_9) c39 c40) (K4 c5 c6 c7 c8 c9 c10 c11 (uR0 c30 c31 c32 c33 g_1 g_2 g_8) c31 c32 (uR3 c30 c31 c32 c33 g_1 g_2 g_8) (uPA_4 c30 c31 c32 c33 c34 c35 c36 c37 g_0 g_1 g_2 g_3 g_4 g_5 g_6 g_7 c38 g_8 g_9) (uPA_5 c30 c31 c32 c33 c34 c35 c36 c37 g_0 g_1 g_2 g_3 g_4 g_5 g_6 g_7 c38 g_8 g_9) (uPA_6 c30 c31 c32 c33 c34 c35 c36 c37 g_0 g_1 g_2 g_3 g_4 g_5 g_6 g_7 c38 g_8 g_9) (uPA_7 c30 c31 c32 c33 c34 c35 c36 c37 g_0 g_1 g_2 g_3 g_4 g_5 g_6 g_7 c38 g_8 g_9) (uPA_8 c30 c31 c32 c33 c34 c35 c36 c37 g_0 g_1 g_2 g_3 g_4 g_5 g_6 g_7 c38 g_8 g_9) c39 c40) (.agg (K4 c5 c6 c7 c8 c9 c10 c11 (uR0 c30 c31 c32 c33 g_1 g_2 g_8) c31 c32 (uR3 c30 c31 c32 c33 g_1 g_2 g_8) (uPA_4 c30 c31 c32 c33 c34 c35 c36 c37 g_0 g_1 g_2 g_3 g_4 g_5 g_6 g_7 c38 g_8 g_9) (uPA_5 c30 c31 c32 c33 c34 c35 c36 c37 g_0 g_1 g_2 g_3 g_4 g_5 g_6 g_7 c38 g_8 g_9) (uPA_6 c30 c31 c32 c33 c34 c35 c36 c37 g_0 g_1 g_2 g_3 g_4 g_5 g_6 g_7 c38 g_8 g_9) (uPA_7 c30 c31 c32 c33 c34 c35 c36 c37 g_0 g_1 g_2 g_3 g_4 g_5 g_6 g_7 c38 g_8 g_9) (uPA_8 c30 c31 c32 c33 c34 c35 c36 c37 g_0 g_1 g_2 g_3 g_4 g_5 g_6 g_7 c38 g_8 g_9) c39 c40).toArray) rfl rfl rfl Bg2 (by kernel_rfl) (nle rfl) rfl rfl ?_; intro w6 hn hw; replace Bg0 := Bg0.grown hw Ng2_g0.symm; replace Bg1 := Bg1.grown hw Ng2_g1.symm; replace HS := HS.grown hw GEg2; replace Bg2 := hn; clear hw; clear hn))
 all_goals exact bodyPost_ret (results_cell1 rfl _ _ g2 36 (K4 c5 c6 c7 c8 c9 c10 c11 (uR0 c30 c31 c32 c33 g_1 g_2 g_8) c31 c32 (uR3 c30 c31 c32 c33 g_1 g_2 g_8) (uPA_4 c30 c31 c32 c33 c34 c35 c36 c37 g_0 g_1 g_2 g_3 g_4 g_5 g_6 g_7 c38 g_8 g_9) (uPA_5 c30 c31 c32 c33 c34 c35 c36 c37 g_0 g_1 g_2 g_3 g_4 g_5 g_6 g_7 c38 g_8 g_9) (uPA_6 c30 c31 c32 c33 c34 c35 c36 c37 g_0 g_1 g_2 g_3 g_4 g_5 g_6 g_7 c38 g_8 g_9) (uPA_7 c30 c31 c32 c33 c34 c35 c36 c37 g_0 g_1 g_2 g_3 g_4 g_5 g_6 g_7 c38 g_8 g_9) (uPA_8 c30 c31 c32 c33 c34 c35 c36 c37 g_0 g_1 g_2 g_3 g_4 g_5 g_6 g_7 c38 g_8 g_9) c39 c40) _ rfl Bg2 Try.underlying36 rfl (by kernel_rfl)) rfl ⟨_, _, _, _, _, _, _, _, _, _, _, _, _, _, _, _, _, _, rfl, ⟨(uR0_in hb_c30), hp_c5, Wc6, Wc7, Wc8, Wc9, Wc10, Wc11, (uR0_w Wc30), Wc31, Wc32, (uR3_w Wc30 Wc33 Wg_1), (uPA_4_w Wc30 Wc31 Wc32 Wc33 Wc34 Wc35 Wc36 Wc37 Wg_1 Wg_4), (uPA_5_w Wc30 Wc31 Wc32 Wc33 Wc34 Wc35 Wc36 Wc37 Wg_1 Wg_4), (uPA_6_w Wc30 Wc31 Wc32 Wc33 Wc34 Wc35 Wc36 Wc37 Wg_1 Wg_4), (uPA_7_w Wc30 Wc31 Wc32 Wc33 Wc34 Wc35 Wc36 Wc37 Wg_1 Wg_4), Wc39, Wc40⟩, trivial, HS.out⟩
theorem lossS1w_0 (c1 c2 c3 c4 c5 c6 c7 c8 c9 c10 c11 c39 c40 at_ now fl : Int) (hc : G1 c1 c2 c3 c4 c5 c6 c7 c8 c9 c10 c11 c39 c40) (Wnow : W64 now) (w : World) (h0 : (decide (c3 ≤ at_)) = true) :
  Calls Try.prog 17 #[.agg (K1 c1 c2 c3 c4 c5 c6 c7 c8 c9 c10 c11 c39 c40).toArray, .int .u64 at_, .int .u64 now, .int .u64 fl] w fun e w' => S1 (fun x y => x ≤ c1) w e w' := by
 have hu25 := Try.underlying25
 have hu36 := Try.underlying36
 obtain ⟨hb_c1, hp_c5, Wc1, Wc2, Wc3, Wc4, Wc6, Wc7, Wc8, Wc9, Wc10, Wc11, Wc39, Wc40⟩ := hc
 have d0 := (lt_of_le h0)
 have HS := Since.refl w
 go_enter Try.func17, Try.ntmps17
 go_wp2_with (first | (refine seg_new rfl (N := 4) rfl (K1 c1 c2 c3 c4 c5 c6 c7 c8 c9 c10 c11 c39 c40) 36 ?hr ?_; (case hr => rfl); intro g0 hg w1 hn hl; have GEg0 := ge_new HS hg; clear hg; replace HS := HS.below hl; have Bg0 := hn; clear hl hn) | (refine seg_new rfl (N := 5) rfl [.int .u64 at_] 23 ?hr ?_; (case hr => rfl); intro g1 hg w2 hn hl; have Ng1_g0 := ne_new Bg0 hg; have GEg1 := ge_new HS hg; clear hg; replace Bg0 := Bg0.below hl; replace HS := HS.below hl; have Bg1 := hn; clear hl hn) | (refine seg_new rfl (N := 8) rfl K0 36 ?hr ?_; (case hr => rfl); intro g2 hg w3 hn hl; have Ng2_g0 := ne_new Bg0 hg; have Ng2_g1 := ne_new Bg1 hg; have GEg2 := ge_new HS hg; clear hg; replace Bg0 := Bg0.below hl; replace Bg1 := Bg1.below hl; replace HS := HS.below hl; have Bg2 := hn; clear hl hn; have kg0_0 := Bg0.at 0 rfl) | ((go_at_call 39); (with_reducible refine (keepK1_0 c1 c2 c3 c4 c5 c6 c7 c8 c9 c10 c11 c39 c40 at_ g0 g1 _ h0 Bg0 Bg1 Ng1_g0).mono ?_); rintro e w4 ⟨rfl, hn, hw⟩; replace Bg1 := Bg1.grown hw Ng1_g0; replace Bg2 := Bg2.grown hw Ng2_g0; replace HS := HS.grown hw GEg0; replace Bg0 := hn; clear hw; clear kg0_0; have kg1_0 := Bg1.at 0 rfl; clear hn) | (refine seg_load rfl (N := 18) rfl 25 (.tmp 17) rfl g0 1 [.int .u64 c1, .int .u64 c2, .int .u64 c3, .int .u64 c4] rfl Bg0 rfl Try.underlying25 rfl (by kernel_rfl) ?_) | ((go_at_call 41); (with_reducible refine (renoL_1 c1 c2 c3 c4 at_ now Wc1 Wnow _ (lt_of_le h0)).mono ?_); rintro e w5 ⟨rfl, hl⟩; replace Bg0 := Bg0.below hl; replace Bg1 := Bg1.below hl; replace Bg2 := Bg2.below hl; replace HS := HS.below hl; clear hl; clear kg1_0) | (refine seg_store rfl rfl 25 (.tmp 22) (.tmp 21) rfl g0 1 [.int .u64 (uHeld (c1 / 2)), .int .u64 (uHeld (c1 / 2)), .int .u64 (uAdd now 1), .int .u64 0] (K1 (uHeld (c1 / 2)) (uHeld (c1 / 2)) (uAdd now 1) 0 2 c6 c7 c8 c9 c10 c11 c1 c2) (.agg #[.int .u64 (uHeld (c1 / 2)), .int .u64 (uHeld (c1 / 2)), .int .u64 (uAdd now 1), .int .u64 0]) rfl rfl rfl Bg0 (by kernel_rfl) (nle rfl) rfl rfl ?_; intro w6 hn hw; replace Bg1 := Bg1.grown hw Ng1_g0; replace Bg2 := Bg2.grown hw Ng2_g0; replace HS := HS.grown hw GEg0; replace Bg0 := hn; clear hw; clear hn) | (refine seg_load rfl (N := 50) rfl 36 (.tmp 4) rfl g0 0 (K1 (uHeld (c1 / 2)) (uHeld (c1 / 2)) (uAdd now 1) 0 2 c6 c7 c8 c9 c10 c11 c1 c2) rfl Bg0 rfl Try.underlying36 rfl (by kernel_rfl) ?_) | (refine seg_store rfl rfl 36 (.tmp 8) (.tmp 50) rfl g2 0 (K1 (uHeld (c1 / 2)) (uHeld (c1 / 2)) (uAdd now 1) 0 2 c6 c7 c8 c9 c10 c11 c1 c2) (K1 (uHeld (c1 / 2)) (uHeld (c1 / 2)) (uAdd now 1) 0 2 c6 c7 c8 c9 c10 c11 c1 c2) (.agg (K1 (uHeld (c1 / 2)) (uHeld (c1 / 2)) (uAdd now 1) 0 2 c6 c7 c8 c9 c10 c11 c1 c2).toArray) rfl rfl rfl Bg2 (by kernel_rfl) (nle rfl) rfl rfl ?_; intro w7 hn hw; replace Bg0 := Bg0.grown hw Ng2_g0.symm; replace Bg1 := Bg1.grown hw Ng2_g1.symm; replace HS := HS.grown hw GEg2; replace Bg2 := hn; clear hw; clear hn))
 all_goals exact bodyPost_ret (results_cell1 rfl _ _ g2 36 (K1 (uHeld (c1 / 2)) (uHeld (c1 / 2)) (uAdd now 1) 0 2 c6 c7 c8 c9 c10 c11 c1 c2) _ rfl Bg2 Try.underlying36 rfl (by kernel_rfl)) rfl ⟨_, _, _, _, _, _, _, _, _, _, _, _, _, rfl, ⟨(uHeld_in _), (by decide), (uHeld_w _), (uHeld_w _), (uAdd_w Wnow (by decide)), (by decide), Wc6, Wc7, Wc8, Wc9, Wc10, Wc11, Wc1, Wc2⟩, (half_le hb_c1), HS.out⟩
theorem lossS1w_1 (c1 c2 c3 c4 c5 c6 c7 c8 c9 c10 c11 c39 c40 at_ now fl : Int) (hc : G1 c1 c2 c3 c4 c5 c6 c7 c8 c9 c10 c11 c39 c40)  (w : World) (h0 : (decide (c3 ≤ at_)) = false) :
  Calls Try.prog 17 #[.agg (K1 c1 c2 c3 c4 c5 c6 c7 c8 c9 c10 c11 c39 c40).toArray, .int .u64 at_, .int .u64 now, .int .u64 fl] w fun e w' => S1 (fun x y => x ≤ c1) w e w' := by
 have hu25 := Try.underlying25
 have hu36 := Try.underlying36
 obtain ⟨hb_c1, hp_c5, Wc1, Wc2, Wc3, Wc4, Wc6, Wc7, Wc8, Wc9, Wc10, Wc11, Wc39, Wc40⟩ := hc
 have d0 := (lt_of_nle h0)
 have HS := Since.refl w
 go_enter Try.func17, Try.ntmps17
 go_wp2_with (first | (refine seg_new rfl (N := 4) rfl (K1 c1 c2 c3 c4 c5 c6 c7 c8 c9 c10 c11 c39 c40) 36 ?hr ?_; (case hr => rfl); intro g0 hg w1 hn hl; have GEg0 := ge_new HS hg; clear hg; replace HS := HS.below hl; have Bg0 := hn; clear hl hn) | (refine seg_new rfl (N := 5) rfl [.int .u64 at_] 23 ?hr ?_; (case hr => rfl); intro g1 hg w2 hn hl; have Ng1_g0 := ne_new Bg0 hg; have GEg1 := ge_new HS hg; clear hg; replace Bg0 := Bg0.below hl; replace HS := HS.below hl; have Bg1 := hn; clear hl hn) | (refine seg_new rfl (N := 8) rfl K0 36 ?hr ?_; (case hr => rfl); intro g2 hg w3 hn hl; have Ng2_g0 := ne_new Bg0 hg; have Ng2_g1 := ne_new Bg1 hg; have GEg2 := ge_new HS hg; clear hg; replace Bg0 := Bg0.below hl; replace Bg1 := Bg1.below hl; replace HS := HS.below hl; have Bg2 := hn; clear hl hn; have kg0_0 := Bg0.at 0 rfl) | ((go_at_call 39); (with_reducible refine (keepK1_1 c1 c2 c3 c4 c5 c6 c7 c8 c9 c10 c11 c39 c40 at_ g0 g1 _ h0 Bg0 Bg1 Ng1_g0).mono ?_); rintro e w4 ⟨rfl, hn, hw⟩; replace Bg1 := Bg1.grown hw Ng1_g0; replace Bg2 := Bg2.grown hw Ng2_g0; replace HS := HS.grown hw GEg0; replace Bg0 := hn; clear hw; clear kg0_0; have kg1_0 := Bg1.at 0 rfl; clear hn) | (refine seg_load rfl (N := 18) rfl 25 (.tmp 17) rfl g0 1 [.int .u64 c1, .int .u64 c2, .int .u64 c3, .int .u64 c4] rfl Bg0 rfl Try.underlying25 rfl (by kernel_rfl) ?_) | ((go_at_call 41); (with_reducible refine (renoL_0 c1 c2 c3 c4 at_ now _ (lt_of_nle h0)).mono ?_); rintro e w5 ⟨rfl, hl⟩; replace Bg0 := Bg0.below hl; replace Bg1 := Bg1.below hl; replace Bg2 := Bg2.below hl; replace HS := HS.below hl; clear hl; clear kg1_0) | (refine seg_store rfl rfl 25 (.tmp 22) (.tmp 21) rfl g0 1 [.int .u64 c1, .int .u64 c2, .int .u64 c3, .int .u64 c4] (K1 c1 c2 c3 c4 c5 c6 c7 c8 c9 c10 c11 c39 c40) (.agg #[.int .u64 c1, .int .u64 c2, .int .u64 c3, .int .u64 c4]) rfl rfl rfl Bg0 (by kernel_rfl) (nle rfl) rfl rfl ?_; intro w6 hn hw; replace Bg1 := Bg1.grown hw Ng1_g0; replace Bg2 := Bg2.grown hw Ng2_g0; replace HS := HS.grown hw GEg0; replace Bg0 := hn; clear hw; clear hn) | (refine seg_load rfl (N := 50) rfl 36 (.tmp 4) rfl g0 0 (K1 c1 c2 c3 c4 c5 c6 c7 c8 c9 c10 c11 c39 c40) rfl Bg0 rfl Try.underlying36 rfl (by kernel_rfl) ?_) | (refine seg_store rfl rfl 36 (.tmp 8) (.tmp 50) rfl g2 0 (K1 c1 c2 c3 c4 c5 c6 c7 c8 c9 c10 c11 c39 c40) (K1 c1 c2 c3 c4 c5 c6 c7 c8 c9 c10 c11 c39 c40) (.agg (K1 c1 c2 c3 c4 c5 c6 c7 c8 c9 c10 c11 c39 c40).toArray) rfl rfl rfl Bg2 (by kernel_rfl) (nle rfl) rfl rfl ?_; intro w7 hn hw; replace Bg0 := Bg0.grown hw Ng2_g0.symm; replace Bg1 := Bg1.grown hw Ng2_g1.symm; replace HS := HS.grown hw GEg2; replace Bg2 := hn; clear hw; clear hn))
 all_goals exact bodyPost_ret (results_cell1 rfl _ _ g2 36 (K1 c1 c2 c3 c4 c5 c6 c7 c8 c9 c10 c11 c39 c40) _ rfl Bg2 Try.underlying36 rfl (by kernel_rfl)) rfl ⟨_, _, _, _, _, _, _, _, _, _, _, _, _, rfl, ⟨hb_c1, hp_c5, Wc1, Wc2, Wc3, Wc4, Wc6, Wc7, Wc8, Wc9, Wc10, Wc11, Wc39, Wc40⟩, (Int.le_refl _), HS.out⟩
theorem lossS1 (c1 c2 c3 c4 c5 c6 c7 c8 c9 c10 c11 c39 c40 at_ now fl : Int) (hc : G1 c1 c2 c3 c4 c5 c6 c7 c8 c9 c10 c11 c39 c40) (Wat_ : W64 at_) (Wnow : W64 now) (Wfl : W64 fl) (w : World) :
  Calls Try.prog 17 #[.agg (K1 c1 c2 c3 c4 c5 c6 c7 c8 c9 c10 c11 c39 c40).toArray, .int .u64 at_, .int .u64 now, .int .u64 fl] w fun e w' => S1 (fun x y => x ≤ c1) w e w' := by
 by_cases e1 : c3 ≤ at_
 ·have f1 : (decide (c3 ≤ at_)) = true := decide_eq_true e1
  exact lossS1w_0 c1 c2 c3 c4 c5 c6 c7 c8 c9 c10 c11 c39 c40 at_ now fl hc Wnow w f1
 ·have f1 : (decide (c3 ≤ at_)) = false := decide_eq_false e1
  exact lossS1w_1 c1 c2 c3 c4 c5 c6 c7 c8 c9 c10 c11 c39 c40 at_ now fl hc  w f1
theorem lossS2w_0 (c5 c6 c7 c8 c9 c10 c11 c12 c13 c14 c16 c17 c18 c19 c39 c40 at_ now fl : Int) (hc : G2 c5 c6 c7 c8 c9 c10 c11 c12 c13 c14 c16 c17 c18 c19 c39 c40) (Wnow : W64 now) (w : World) (h0 : (decide (c14 ≤ at_)) = true) (h1 : (decide (c12 < c17)) = true) :
  Calls Try.prog 17 #[.agg (K2 c5 c6 c7 c8 c9 c10 c11 c12 c13 c14 true c16 c17 c18 c19 c39 c40).toArray, .int .u64 at_, .int .u64 now, .int .u64 fl] w fun e w' => S2 (fun x y => x ≤ c12) w e w' := by
 have hu29 := Try.underlying29
 have hu36 := Try.underlying36
 obtain ⟨hb_c12, hp_c5, Wc6, Wc7, Wc8, Wc9, Wc10, Wc11, Wc12, Wc13, Wc14, Wc16, Wc17, Wc18, Wc19, Wc39, Wc40⟩ := hc
 have d0 := (lt_of_le h0)
 have HS := Since.refl w
 go_enter Try.func17, Try.ntmps17
 go_wp2_with (first | (refine seg_new rfl (N := 4) rfl (K2 c5 c6 c7 c8 c9 c10 c11 c12 c13 c14 true c16 c17 c18 c19 c39 c40) 36 ?hr ?_; (case hr => rfl); intro g0 hg w1 hn hl; have GEg0 := ge_new HS hg; clear hg; replace HS := HS.below hl; have Bg0 := hn; clear hl hn) | (refine seg_new rfl (N := 5) rfl [.int .u64 at_] 23 ?hr ?_; (case hr => rfl); intro g1 hg w2 hn hl; have Ng1_g0 := ne_new Bg0 hg; have GEg1 := ge_new HS hg; clear hg; replace Bg0 := Bg0.below hl; replace HS := HS.below hl; have Bg1 := hn; clear hl hn) | (refine seg_new rfl (N := 8) rfl K0 36 ?hr ?_; (case hr => rfl); intro g2 hg w3 hn hl; have Ng2_g0 := ne_new Bg0 hg; have Ng2_g1 := ne_new Bg1 hg; have GEg2 := ge_new HS hg; clear hg; replace Bg0 := Bg0.below hl; replace Bg1 := Bg1.below hl; replace HS := HS.below hl; have Bg2 := hn; clear hl hn; have kg0_0 := Bg0.at 0 rfl) | ((go_at_call 39); (with_reducible refine (keepK2_0 c5 c6 c7 c8 c9 c10 c11 c12 c13 c14 c16 c17 c18 c19 c39 c40 at_ true g0 g1 _ h0 Bg0 Bg1 Ng1_g0).mono ?_); rintro e w4 ⟨rfl, hn, hw⟩; replace Bg1 := Bg1.grown hw Ng1_g0; replace Bg2 := Bg2.grown hw Ng2_g0; replace HS := HS.grown hw GEg0; replace Bg0 := hn; clear hw; clear kg0_0; have kg1_0 := Bg1.at 0 rfl; clear hn) | (refine seg_load rfl (N := 28) rfl 29 (.tmp 27) rfl g0 12 [.int .u64 c12, .int .u64 c13, .int .u64 c14, .bool true, .int .u64 c16, .int .u64 c17, .int .u64 c18, .int .u64 c19] rfl Bg0 rfl Try.underlying29 rfl (by kernel_rfl) ?_) | ((go_at_call 42); (with_reducible refine (cubicL_1 c12 c13 c14 c16 c17 c18 c19 at_ now true Wc12 Wnow _ (lt_of_le h0) h1).mono ?_); rintro e w5 ⟨rfl, hl⟩; replace Bg0 := Bg0.below hl; replace Bg1 := Bg1.below hl; replace Bg2 := Bg2.below hl; replace HS := HS.below hl; clear hl; clear kg1_0) | (refine seg_store rfl rfl 29 (.tmp 32) (.tmp 31) rfl g0 12 [.int .u64 (uHeld (uMulDiv c12 7 10)), .int .u64 (uHeld (uMulDiv c12 7 10)), .int .u64 (uAdd now 1), .bool false, .int .u64 0, .int .u64 (uMulDiv c12 17 20), .int .u64 0, .int .u64 0] (K2 2 c6 c7 c8 c9 c10 c11 (uHeld (uMulDiv c12 7 10)) (uHeld (uMulDiv c12 7 10)) (uAdd now 1) false 0 (uMulDiv c12 17 20) 0 0 c12 c13) (.agg #[.int .u64 (uHeld (uMulDiv c12 7 10)), .int .u64 (uHeld (uMulDiv c12 7 10)), .int .u64 (uAdd now 1), .bool false, .int .u64 0, .int .u64 (uMulDiv c12 17 20), .int .u64 0, .int .u64 0]) rfl rfl rfl Bg0 (by kernel_rfl) (nle rfl) rfl rfl ?_; intro w6 hn hw; replace Bg1 := Bg1.grown hw Ng1_g0; replace Bg2 := Bg2.grown hw Ng2_g0; replace HS := HS.grown hw GEg0; replace Bg0 := hn; clear hw; clear hn) | (refine seg_load rfl (N := 50) rfl 36 (.tmp 4) rfl g0 0 (K2 2 c6 c7 c8 c9 c10 c11 (uHeld (uMulDiv c12 7 10)) (uHeld (uMulDiv c12 7 10)) (uAdd now 1) false 0 (uMulDiv c12 17 20) 0 0 c12 c13) rfl Bg0 rfl Try.underlying36 rfl (by kernel_rfl) ?_) | (refine seg_store rfl rfl 36 (.tmp 8) (.tmp 50) rfl g2 0 (K2 2 c6 c7 c8 c9 c10 c11 (uHeld (uMulDiv c12 7 10)) (uHeld (uMulDiv c12 7 10)) (uAdd now 1) false 0 (uMulDiv c12 17 20) 0 0 c12 c13) (K2 2 c6 c7 c8 c9 c10 c11 (uHeld (uMulDiv c12 7 10)) (uHeld (uMulDiv c12 7 10)) (uAdd now 1) false 0 (uMulDiv c12 17 20) 0 0 c12 c13) (.agg (K2 2 c6 c7 c8 c9 c10 c11 (uHeld (uMulDiv c12 7 10)) (uHeld (uMulDiv c12 7 10)) (uAdd now 1) false 0 (uMulDiv c12 17 20) 0 0 c12 c13).toArray) rfl rfl rfl Bg2 (by kernel_rfl) (nle rfl) rfl rfl ?_; intro w7 hn hw; replace Bg0 := Bg0.grown hw Ng2_g0.symm; replace Bg1 := Bg1.grown hw Ng2_g1.symm; replace HS := HS.grown hw GEg2; replace Bg2 := hn; clear hw; clear hn))
 all_goals exact bodyPost_ret (results_cell1 rfl _ _ g2 36 (K2 2 c6 c7 c8 c9 c10 c11 (uHeld (uMulDiv c12 7 10)) (uHeld (uMulDiv c12 7 10)) (uAdd now 1) false 0 (uMulDiv c12 17 20) 0 0 c12 c13) _ rfl Bg2 Try.underlying36 rfl (by kernel_rfl)) rfl ⟨_, _, _, _, _, _, _, _, _, _, _, _, _, _, _, _, _, rfl, ⟨(uHeld_in _), (by decide), Wc6, Wc7, Wc8, Wc9, Wc10, Wc11, (uHeld_w _), (uHeld_w _), (uAdd_w Wnow (by decide)), (by decide), (uMulDiv_w Wc12 (by decide) (by decide)), (by decide), (by decide), Wc12, Wc13⟩, (cub_le hb_c12), HS.out⟩
theorem lossS2w_1 (c5 c6 c7 c8 c9 c10 c11 c12 c13 c14 c16 c17 c18 c19 c39 c40 at_ now fl : Int) (hc : G2 c5 c6 c7 c8 c9 c10 c11 c12 c13 c14 c16 c17 c18 c19 c39 c40) (Wnow : W64 now) (w : World) (h0 : (decide (c14 ≤ at_)) = true) (h1 : (decide (c12 < c17)) = false) :
  Calls Try.prog 17 #[.agg (K2 c5 c6 c7 c8 c9 c10 c11 c12 c13 c14 true c16 c17 c18 c19 c39 c40).toArray, .int .u64 at_, .int .u64 now, .int .u64 fl] w fun e w' => S2 (fun x y => x ≤ c12) w e w' := by
 have hu29 := Try.underlying29
 have hu36 := Try.underlying36
 obtain ⟨hb_c12, hp_c5, Wc6, Wc7, Wc8, Wc9, Wc10, Wc11, Wc12, Wc13, Wc14, Wc16, Wc17, Wc18, Wc19, Wc39, Wc40⟩ := hc
 have d0 := (lt_of_le h0)
 have HS := Since.refl w
 go_enter Try.func17, Try.ntmps17
 go_wp2_with (first | (refine seg_new rfl (N := 4) rfl (K2 c5 c6 c7 c8 c9 c10 c11 c12 c13 c14 true c16 c17 c18 c19 c39 c40) 36 ?hr ?_; (case hr => rfl); intro g0 hg w1 hn hl; have GEg0 := ge_new HS hg; clear hg; replace HS := HS.below hl; have Bg0 := hn; clear hl hn) | (refine seg_new rfl (N := 5) rfl [.int .u64 at_] 23 ?hr ?_; (case hr => rfl); intro g1 hg w2 hn hl; have Ng1_g0 := ne_new Bg0 hg; have GEg1 := ge_new HS hg; clear hg; replace Bg0 := Bg0.below hl; replace HS := HS.below hl; have Bg1 := hn; clear hl hn) | (refine seg_new rfl (N := 8) rfl K0 36 ?hr ?_; (case hr => rfl); intro g2 hg w3 hn hl; have Ng2_g0 := ne_new Bg0 hg; have Ng2_g1 := ne_new Bg1 hg; have GEg2 := ge_new HS hg; clear hg; replace Bg0 := Bg0.below hl; replace Bg1 := Bg1.below hl; replace HS := HS.below hl; have Bg2 := hn; clear hl hn; have kg0_0 := Bg0.at 0 rfl) | ((go_at_call 39); (with_reducible refine (keepK2_0 c5 c6 c7 c8 c9 c10 c11 c12 c13 c14 c16 c17 c18 c19 c39 c40 at_ true g0 g1 _ h0 Bg0 Bg1 Ng1_g0).mono ?_); rintro e w4 ⟨rfl, hn, hw⟩; replace Bg1 := Bg1.grown hw Ng1_g0; replace Bg2 := Bg2.grown hw Ng2_g0; replace HS := HS.grown hw GEg0; replace Bg0 := hn; clear hw; clear kg0_0; have kg1_0 := Bg1.at 0 rfl; clear hn) | (refine seg_load rfl (N := 28) rfl 29 (.tmp 27) rfl g0 12 [.int .u64 c12, .int .u64 c13, .int .u64 c14, .bool true, .int .u64 c16, .int .u64 c17, .int .u64 c18, .int .u64 c19] rfl Bg0 rfl Try.underlying29 rfl (by kernel_rfl) ?_) | ((go_at_call 42); (with_reducible refine (cubicL_2 c12 c13 c14 c16 c17 c18 c19 at_ now true Wc12 Wnow _ (lt_of_le h0) h1).mono ?_); rintro e w5 ⟨rfl, hl⟩; replace Bg0 := Bg0.below hl; replace Bg1 := Bg1.below hl; replace Bg2 := Bg2.below hl; replace HS := HS.below hl; clear hl; clear kg1_0) | (refine seg_store rfl rfl 29 (.tmp 32) (.tmp 31) rfl g0 12 [.int .u64 (uHeld (uMulDiv c12 7 10)), .int .u64 (uHeld (uMulDiv c12 7 10)), .int .u64 (uAdd now 1), .bool false, .int .u64 0, .int .u64 c12, .int .u64 0, .int .u64 0] (K2 2 c6 c7 c8 c9 c10 c11 (uHeld (uMulDiv c12 7 10)) (uHeld (uMulDiv c12 7 10)) (uAdd now 1) false 0 c12 0 0 c12 c13) (.agg #[.int .u64 (uHeld (uMulDiv c12 7 10)), .int .u64 (uHeld (uMulDiv c12 7 10)), .int .u64 (uAdd now 1), .bool false, .int .u64 0, .int .u64 c12, .int .u64 0, .int .u64 0]) rfl rfl rfl Bg0 (by kernel_rfl) (nle rfl) rfl rfl ?_; intro w6 hn hw; replace Bg1 := Bg1.grown hw Ng1_g0; replace Bg2 := Bg2.grown hw Ng2_g0; replace HS := HS.grown hw GEg0; replace Bg0 := hn; clear hw; clear hn) | (refine seg_load rfl (N := 50) rfl 36 (.tmp 4) rfl g0 0 (K2 2 c6 c7 c8 c9 c10 c11 (uHeld (uMulDiv c12 7 10)) (uHeld (uMulDiv c12 7 10)) (uAdd now 1) false 0 c12 0 0 c12 c13) rfl Bg0 rfl Try.underlying36 rfl (by kernel_rfl) ?_) | (refine seg_store rfl rfl 36 (.tmp 8) (.tmp 50) rfl g2 0 (K2 2 c6 c7 c8 c9 c10 c11 (uHeld (uMulDiv c12 7 10)) (uHeld (uMulDiv c12 7 10)) (uAdd now 1) false 0 c12 0 0 c12 c13) (K2 2 c6 c7 c8 c9 c10 c11 (uHeld (uMulDiv c12 7 10)) (uHeld (uMulDiv c12 7 10)) (uAdd now 1) false 0 c12 0 0 c12 c13) (.agg (K2 2 c6 c7 c8 c9 c10 c11 (uHeld (uMulDiv c12 7 10)) (uHeld (uMulDiv c12 7 10)) (uAdd now 1) false 0 c12 0 0 c12 c13).toArray) rfl rfl rfl Bg2 (by kernel_rfl) (nle rfl) rfl rfl ?_; intro w7 hn hw; replace Bg0 := Bg0.grown hw Ng2_g0.symm; replace Bg1 := Bg1.grown hw Ng2_g1.symm; replace HS := HS.grown hw GEg2; replace Bg2 := hn; clear hw; clear hn))
 all_goals exact bodyPost_ret (results_cell1 rfl _ _ g2 36 (K2 2 c6 c7 c8 c9 c10 c11 (uHeld (uMulDiv c12 7 10)) (uHeld (uMulDiv c12 7 10)) (uAdd now 1) false 0 c12 0 0 c12 c13) _ rfl Bg2 Try.underlying36 rfl (by kernel_rfl)) rfl ⟨_, _, _, _, _, _, _, _, _, _, _, _, _, _, _, _, _, rfl, ⟨(uHeld_in _), (by decide), Wc6, Wc7, Wc8, Wc9, Wc10, Wc11, (uHeld_w _), (uHeld_w _), (uAdd_w Wnow (by decide)), (by decide), Wc12, (by decide), (by decide), Wc12, Wc13⟩, (cub_le hb_c12), HS.out⟩
theorem lossS2w_2 (c5 c6 c7 c8 c9 c10 c11 c12 c13 c14 c16 c17 c18 c19 c39 c40 at_ now fl : Int) (hc : G2 c5 c6 c7 c8 c9 c10 c11 c12 c13 c14 c16 c17 c18 c19 c39 c40)  (w : World) (h0 : (decide (c14 ≤ at_)) = false) :
  Calls Try.prog 17 #[.agg (K2 c5 c6 c7 c8 c9 c10 c11 c12 c13 c14 true c16 c17 c18 c19 c39 c40).toArray, .int .u64 at_, .int .u64 now, .int .u64 fl] w fun e w' => S2 (fun x y => x ≤ c12) w e w' := by
 have hu29 := Try.underlying29
 have hu36 := Try.underlying36
 obtain ⟨hb_c12, hp_c5, Wc6, Wc7, Wc8, Wc9, Wc10, Wc11, Wc12, Wc13, Wc14, Wc16, Wc17, Wc18, Wc19, Wc39, Wc40⟩ := hc
 have d0 := (lt_of_nle h0)
 have HS := Since.refl w
 go_enter Try.func17, Try.ntmps17
 go_wp2_with (first | (refine seg_new rfl (N := 4) rfl (K2 c5 c6 c7 c8 c9 c10 c11 c12 c13 c14 true c16 c17 c18 c19 c39 c40) 36 ?hr ?_; (case hr => rfl); intro g0 hg w1 hn hl; have GEg0 := ge_new HS hg; clear hg; replace HS := HS.below hl; have Bg0 := hn; clear hl hn) | (refine seg_new rfl (N := 5) rfl [.int .u64 at_] 23 ?hr ?_; (case hr => rfl); intro g1 hg w2 hn hl; have Ng1_g0 := ne_new Bg0 hg; have GEg1 := ge_new HS hg; clear hg; replace Bg0 := Bg0.below hl; replace HS := HS.below hl; have Bg1 := hn; clear hl hn) | (refine seg_new rfl (N := 8) rfl K0 36 ?hr ?_; (case hr => rfl); intro g2 hg w3 hn hl; have Ng2_g0 := ne_new Bg0 hg; have Ng2_g1 := ne_new Bg1 hg; have GEg2 := ge_new HS hg; clear hg; replace Bg0 := Bg0.below hl; replace Bg1 := Bg1.below hl; replace HS := HS.below hl; have Bg2 := hn; clear hl hn; have kg0_0 := Bg0.at 0 rfl) | ((go_at_call 39); (with_reducible refine (keepK2_1 c5 c6 c7 c8 c9 c10 c11 c12 c13 c14 c16 c17 c18 c19 c39 c40 at_ true g0 g1 _ h0 Bg0 Bg1 Ng1_g0).mono ?_); rintro e w4 ⟨rfl, hn, hw⟩; replace Bg1 := Bg1.grown hw Ng1_g0; replace Bg2 := Bg2.grown hw Ng2_g0; replace HS := HS.grown hw GEg0; replace Bg0 := hn; clear hw; clear kg0_0; have kg1_0 := Bg1.at 0 rfl; clear hn) | (refine seg_load rfl (N := 28) rfl 29 (.tmp 27) rfl g0 12 [.int .u64 c12, .int .u64 c13, .int .u64 c14, .bool true, .int .u64 c16, .int .u64 c17, .int .u64 c18, .int .u64 c19] rfl Bg0 rfl Try.underlying29 rfl (by kernel_rfl) ?_) | ((go_at_call 42); (with_reducible refine (cubicL_0 c12 c13 c14 c16 c17 c18 c19 at_ now true _ (lt_of_nle h0)).mono ?_); rintro e w5 ⟨rfl, hl⟩; replace Bg0 := Bg0.below hl; replace Bg1 := Bg1.below hl; replace Bg2 := Bg2.below hl; replace HS := HS.below hl; clear hl; clear kg1_0) | (refine seg_store rfl rfl 29 (.tmp 32) (.tmp 31) rfl g0 12 [.int .u64 c12, .int .u64 c13, .int .u64 c14, .bool true, .int .u64 c16, .int .u64 c17, .int .u64 c18, .int .u64 c19] (K2 c5 c6 c7 c8 c9 c10 c11 c12 c13 c14 true c16 c17 c18 c19 c39 c40) (.agg #[.int .u64 c12, .int .u64 c13, .int .u64 c14, .bool true, .int .u64 c16, .int .u64 c17, .int .u64 c18, .int .u64 c19]) rfl rfl rfl Bg0 (by kernel_rfl) (nle rfl) rfl rfl ?_; intro w6 hn hw; replace Bg1 := Bg1.grown hw Ng1_g0; replace Bg2 := Bg2.grown hw Ng2_g0; replace HS := HS.grown hw GEg0; replace Bg0 := hn; clear hw; clear hn) | (refine seg_load rfl (N := 50) rfl 36 (.tmp 4) rfl g0 0 (K2 c5 c6 c7 c8 c9 c10 c11 c12 c13 c14 true c16 c17 c18 c19 c39 c40) rfl Bg0 rfl Try.underlying36 rfl (by kernel_rfl) ?_) | (refine seg_store rfl rfl 36 (.tmp 8) (.tmp 50) rfl g2 0 (K2 c5 c6 c7 c8 c9 c10 c11 c12 c13 c14 true c16 c17 c18 c19 c39 c40) (K2 c5 c6 c7 c8 c9 c10 c11 c12 c13 c14 true c16 c17 c18 c19 c39 c40) (.agg (K2 c5 c6 c7 c8 c9 c10 c11 c12 c13 c14 true c16 c17 c18 c19 c39 c40).toArray) rfl rfl rfl Bg2 (by kernel_rfl) (nle rfl) rfl rfl ?_; intro w7 hn hw; replace Bg0 := Bg0.grown hw Ng2_g0.symm; replace Bg1 := Bg1.grown hw Ng2_g1.symm; replace HS := HS.grown hw GEg2; replace Bg2 := hn; clear hw; clear hn))
 all_goals exact bodyPost_ret (results_cell1 rfl _ _ g2 36 (K2 c5 c6 c7 c8 c9 c10 c11 c12 c13 c14 true c16 c17 c18 c19 c39 c40) _ rfl Bg2 Try.underlying36 rfl (by kernel_rfl)) rfl ⟨_, _, _, _, _, _, _, _, _, _, _, _, _, _, _, _, _, rfl, ⟨hb_c12, hp_c5, Wc6, Wc7, Wc8, Wc9, Wc10, Wc11, Wc12, Wc13, Wc14, Wc16, Wc17, Wc18, Wc19, Wc39, Wc40⟩, (Int.le_refl _), HS.out⟩
theorem lossS2w_3 (c5 c6 c7 c8 c9 c10 c11 c12 c13 c14 c16 c17 c18 c19 c39 c40 at_ now fl : Int) (hc : G2 c5 c6 c7 c8 c9 c10 c11 c12 c13 c14 c16 c17 c18 c19 c39 c40) (Wnow : W64 now) (w : World) (h0 : (decide (c14 ≤ at_)) = true) (h1 : (decide (c12 < c17)) = true) :
  Calls Try.prog 17 #[.agg (K2 c5 c6 c7 c8 c9 c10 c11 c12 c13 c14 false c16 c17 c18 c19 c39 c40).toArray, .int .u64 at_, .int .u64 now, .int .u64 fl] w fun e w' => S2 (fun x y => x ≤ c12) w e w' := by
 have hu29 := Try.underlying29
 have hu36 := Try.underlying36
 obtain ⟨hb_c12, hp_c5, Wc6, Wc7, Wc8, Wc9, Wc10, Wc11, Wc12, Wc13, Wc14, Wc16, Wc17, Wc18, Wc19, Wc39, Wc40⟩ := hc
 have d0 := (lt_of_le h0)
 have HS := Since.refl w
 go_enter Try.func17, Try.ntmps17
 go_wp2_with (first | (refine seg_new rfl (N := 4) rfl (K2 c5 c6 c7 c8 c9 c10 c11 c12 c13 c14 false c16 c17 c18 c19 c39 c40) 36 ?hr ?_; (case hr => rfl); intro g0 hg w1 hn hl; have GEg0 := ge_new HS hg; clear hg; replace HS := HS.below hl; have Bg0 := hn; clear hl hn) | (refine seg_new rfl (N := 5) rfl [.int .u64 at_] 23 ?hr ?_; (case hr => rfl); intro g1 hg w2 hn hl; have Ng1_g0 := ne_new Bg0 hg; have GEg1 := ge_new HS hg; clear hg; replace Bg0 := Bg0.below hl; replace HS := HS.below hl; have Bg1 := hn; clear hl hn) | (refine seg_new rfl (N := 8) rfl K0 36 ?hr ?_; (case hr => rfl); intro g2 hg w3 hn hl; have Ng2_g0 := ne_new Bg0 hg; have Ng2_g1 := ne_new Bg1 hg; have GEg2 := ge_new HS hg; clear hg; replace Bg0 := Bg0.below hl; replace Bg1 := Bg1.below hl; replace HS := HS.below hl; have Bg2 := hn; clear hl hn; have kg0_0 := Bg0.at 0 rfl) | ((go_at_call 39); (with_reducible refine (keepK2_0 c5 c6 c7 c8 c9 c10 c11 c12 c13 c14 c16 c17 c18 c19 c39 c40 at_ false g0 g1 _ h0 Bg0 Bg1 Ng1_g0).mono ?_); rintro e w4 ⟨rfl, hn, hw⟩; replace Bg1 := Bg1.grown hw Ng1_g0; replace Bg2 := Bg2.grown hw Ng2_g0; replace HS := HS.grown hw GEg0; replace Bg0 := hn; clear hw; clear kg0_0; have kg1_0 := Bg1.at 0 rfl; clear hn) | (refine seg_load rfl (N := 28) rfl 29 (.tmp 27) rfl g0 12 [.int .u64 c12, .int .u64 c13, .int .u64 c14, .bool false, .int .u64 c16, .int .u64 c17, .int .u64 c18, .int .u64 c19] rfl Bg0 rfl Try.underlying29 rfl (by kernel_rfl) ?_) | ((go_at_call 42); (with_reducible refine (cubicL_1 c12 c13 c14 c16 c17 c18 c19 at_ now false Wc12 Wnow _ (lt_of_le h0) h1).mono ?_); rintro e w5 ⟨rfl, hl⟩; replace Bg0 := Bg0.below hl; replace Bg1 := Bg1.below hl; replace Bg2 := Bg2.below hl; replace HS := HS.below hl; clear hl; clear kg1_0) | (refine seg_store rfl rfl 29 (.tmp 32) (.tmp 31) rfl g0 12 [.int .u64 (uHeld (uMulDiv c12 7 10)), .int .u64 (uHeld (uMulDiv c12 7 10)), .int .u64 (uAdd now 1), .bool false, .int .u64 0, .int .u64 (uMulDiv c12 17 20), .int .u64 0, .int .u64 0] (K2 2 c6 c7 c8 c9 c10 c11 (uHeld (uMulDiv c12 7 10)) (uHeld (uMulDiv c12 7 10)) (uAdd now 1) false 0 (uMulDiv c12 17 20) 0 0 c12 c13) (.agg #[.int .u64 (uHeld (uMulDiv c12 7 10)), .int .u64 (uHeld (uMulDiv c12 7 10)), .int .u64 (uAdd now 1), .bool false, .int .u64 0, .int .u64 (uMulDiv c12 17 20), .int .u64 0, .int .u64 0]) rfl rfl rfl Bg0 (by kernel_rfl) (nle rfl) rfl rfl ?_; intro w6 hn hw; replace Bg1 := Bg1.grown hw Ng1_g0; replace Bg2 := Bg2.grown hw Ng2_g0; replace HS := HS.grown hw GEg0; replace Bg0 := hn; clear hw; clear hn) | (refine seg_load rfl (N := 50) rfl 36 (.tmp 4) rfl g0 0 (K2 2 c6 c7 c8 c9 c10 c11 (uHeld (uMulDiv c12 7 10)) (uHeld (uMulDiv c12 7 10)) (uAdd now 1) false 0 (uMulDiv c12 17 20) 0 0 c12 c13) rfl Bg0 rfl Try.underlying36 rfl (by kernel_rfl) ?_) | (refine seg_store rfl rfl 36 (.tmp 8) (.tmp 50) rfl g2 0 (K2 2 c6 c7 c8 c9 c10 c11 (uHeld (uMulDiv c12 7 10)) (uHeld (uMulDiv c12 7 10)) (uAdd now 1) false 0 (uMulDiv c12 17 20) 0 0 c12 c13) (K2 2 c6 c7 c8 c9 c10 c11 (uHeld (uMulDiv c12 7 10)) (uHeld (uMulDiv c12 7 10)) (uAdd now 1) false 0 (uMulDiv c12 17 20) 0 0 c12 c13) (.agg (K2 2 c6 c7 c8 c9 c10 c11 (uHeld (uMulDiv c12 7 10)) (uHeld (uMulDiv c12 7 10)) (uAdd now 1) false 0 (uMulDiv c12 17 20) 0 0 c12 c13).toArray) rfl rfl rfl Bg2 (by kernel_rfl) (nle rfl) rfl rfl ?_; intro w7 hn hw; replace Bg0 := Bg0.grown hw Ng2_g0.symm; replace Bg1 := Bg1.grown hw Ng2_g1.symm; replace HS := HS.grown hw GEg2; replace Bg2 := hn; clear hw; clear hn))
 all_goals exact bodyPost_ret (results_cell1 rfl _ _ g2 36 (K2 2 c6 c7 c8 c9 c10 c11 (uHeld (uMulDiv c12 7 10)) (uHeld (uMulDiv c12 7 10)) (uAdd now 1) false 0 (uMulDiv c12 17 20) 0 0 c12 c13) _ rfl Bg2 Try.underlying36 rfl (by kernel_rfl)) rfl ⟨_, _, _, _, _, _, _, _, _, _, _, _, _, _, _, _, _, rfl, ⟨(uHeld_in _), (by decide), Wc6, Wc7, Wc8, Wc9, Wc10, Wc11, (uHeld_w _), (uHeld_w _), (uAdd_w Wnow (by decide)), (by decide), (uMulDiv_w Wc12 (by decide) (by decide)), (by decide), (by decide), Wc12, Wc13⟩, (cub_le hb_c12), HS.out⟩
theorem lossS2w_4 (c5 c6 c7 c8 c9 c10 c11 c12 c13 c14 c16 c17 c18 c19 c39 c40 at_ now fl : Int) (hc : G2 c5 c6 c7 c8 c9 c10 c11 c12 c13 c14 c16 c17 c18 c19 c39 c40) (Wnow : W64 now) (w : World) (h0 : (decide (c14 ≤ at_)) = true) (h1 : (decide (c12 < c17)) = false) :
  Calls Try.prog 17 #[.agg (K2 c5 c6 c7 c8 c9 c10 c11 c12 c13 c14 false c16 c17 c18 c19 c39 c40).toArray, .int .u64 at_, .int .u64 now, .int .u64 fl] w fun e w' => S2 (fun x y => x ≤ c12) w e w' := by
 have hu29 := Try.underlying29
 have hu36 := Try.underlying36
 obtain ⟨hb_c12, hp_c5, Wc6, Wc7, Wc8, Wc9, Wc10, Wc11, Wc12, Wc13, Wc14, Wc16, Wc17, Wc18, Wc19, Wc39, Wc40⟩ := hc
 have d0 := (lt_of_le h0)
 have HS := Since.refl w
 go_enter Try.func17, Try.ntmps17
 go_wp2_with (first | (refine seg_new rfl (N := 4) rfl (K2 c5 c6 c7 c8 c9 c10 c11 c12 c13 c14 false c16 c17 c18 c19 c39 c40) 36 ?hr ?_; (case hr => rfl); intro g0 hg w1 hn hl; have GEg0 := ge_new HS hg; clear hg; replace HS := HS.below hl; have Bg0 := hn; clear hl hn) | (refine seg_new rfl (N := 5) rfl [.int .u64 at_] 23 ?hr ?_; (case hr => rfl); intro g1 hg w2 hn hl; have Ng1_g0 := ne_new Bg0 hg; have GEg1 := ge_new HS hg; clear hg; replace Bg0 := Bg0.below hl; replace HS := HS.below hl; have Bg1 := hn; clear hl hn) | (refine seg_new rfl (N := 8) rfl K0 36 ?hr ?_; (case hr => rfl); intro g2 hg w3 hn hl; have Ng2_g0 := ne_new Bg0 hg; have Ng2_g1 := ne_new Bg1 hg; have GEg2 := ge_new HS hg; clear hg; replace Bg0 := Bg0.below hl; replace Bg1 := Bg1.below hl; replace HS := HS.below hl; have Bg2 := hn; clear hl hn; have kg0_0 := Bg0.at 0 rfl) | ((go_at_call 39); (with_reducible refine (keepK2_0 c5 c6 c7 c8 c9 c10 c11 c12 c13 c14 c16 c17 c18 c19 c39 c40 at_ false g0 g1 _ h0 Bg0 Bg1 Ng1_g0).mono ?_); rintro e w4 ⟨rfl, hn, hw⟩; replace Bg1 := Bg1.grown hw Ng1_g0; replace Bg2 := Bg2.grown hw Ng2_g0; replace HS := HS.grown hw GEg0; replace Bg0 := hn; clear hw; clear kg0_0; have kg1_0 := Bg1.at 0 rfl; clear hn) | (refine seg_load rfl (N := 28) rfl 29 (.tmp 27) rfl g0 12 [.int .u64 c12, .int .u64 c13, .int .u64 c14, .bool false, .int .u64 c16, .int .u64 c17, .int .u64 c18, .int .u64 c19] rfl Bg0 rfl Try.underlying29 rfl (by kernel_rfl) ?_) | ((go_at_call 42); (with_reducible refine (cubicL_2 c12 c13 c14 c16 c17 c18 c19 at_ now false Wc12 Wnow _ (lt_of_le h0) h1).mono ?_); rintro e w5 ⟨rfl, hl⟩; replace Bg0 := Bg0.below hl; replace Bg1 := Bg1.below hl; replace Bg2 := Bg2.below hl; replace HS := HS.below hl; clear hl; clear kg1_0) | (refine seg_store rfl rfl 29 (.tmp 32) (.tmp 31) rfl g0 12 [.int .u64 (uHeld (uMulDiv c12 7 10)), .int .u64 (uHeld (uMulDiv c12 7 10)), .int .u64 (uAdd now 1), .bool false, .int .u64 0, .int .u64 c12, .int .u64 0, .int .u64 0] (K2 2 c6 c7 c8 c9 c10 c11 (uHeld (uMulDiv c12 7 10)) (uHeld (uMulDiv c12 7 10)) (uAdd now 1) false 0 c12 0 0 c12 c13) (.agg #[.int .u64 (uHeld (uMulDiv c12 7 10)), .int .u64 (uHeld (uMulDiv c12 7 10)), .int .u64 (uAdd now 1), .bool false, .int .u64 0, .int .u64 c12, .int .u64 0, .int .u64 0]) rfl rfl rfl Bg0 (by kernel_rfl) (nle rfl) rfl rfl ?_; intro w6 hn hw; replace Bg1 := Bg1.grown hw Ng1_g0; replace Bg2 := Bg2.grown hw Ng2_g0; replace HS := HS.grown hw GEg0; replace Bg0 := hn; clear hw; clear hn) | (refine seg_load rfl (N := 50) rfl 36 (.tmp 4) rfl g0 0 (K2 2 c6 c7 c8 c9 c10 c11 (uHeld (uMulDiv c12 7 10)) (uHeld (uMulDiv c12 7 10)) (uAdd now 1) false 0 c12 0 0 c12 c13) rfl Bg0 rfl Try.underlying36 rfl (by kernel_rfl) ?_) | (refine seg_store rfl rfl 36 (.tmp 8) (.tmp 50) rfl g2 0 (K2 2 c6 c7 c8 c9 c10 c11 (uHeld (uMulDiv c12 7 10)) (uHeld (uMulDiv c12 7 10)) (uAdd now 1) false 0 c12 0 0 c12 c13) (K2 2 c6 c7 c8 c9 c10 c11 (uHeld (uMulDiv c12 7 10)) (uHeld (uMulDiv c12 7 10)) (uAdd now 1) false 0 c12 0 0 c12 c13) (.agg (K2 2 c6 c7 c8 c9 c10 c11 (uHeld (uMulDiv c12 7 10)) (uHeld (uMulDiv c12 7 10)) (uAdd now 1) false 0 c12 0 0 c12 c13).toArray) rfl rfl rfl Bg2 (by kernel_rfl) (nle rfl) rfl rfl ?_; intro w7 hn hw; replace Bg0 := Bg0.grown hw Ng2_g0.symm; replace Bg1 := Bg1.grown hw Ng2_g1.symm; replace HS := HS.grown hw GEg2; replace Bg2 := hn; clear hw; clear hn))
 all_goals exact bodyPost_ret (results_cell1 rfl _ _ g2 36 (K2 2 c6 c7 c8 c9 c10 c11 (uHeld (uMulDiv c12 7 10)) (uHeld (uMulDiv c12 7 10)) (uAdd now 1) false 0 c12 0 0 c12 c13) _ rfl Bg2 Try.underlying36 rfl (by kernel_rfl)) rfl ⟨_, _, _, _, _, _, _, _, _, _, _, _, _, _, _, _, _, rfl, ⟨(uHeld_in _), (by decide), Wc6, Wc7, Wc8, Wc9, Wc10, Wc11, (uHeld_w _), (uHeld_w _), (uAdd_w Wnow (by decide)), (by decide), Wc12, (by decide), (by decide), Wc12, Wc13⟩, (cub_le hb_c12), HS.out⟩
theorem lossS2w_5 (c5 c6 c7 c8 c9 c10 c11 c12 c13 c14 c16 c17 c18 c19 c39 c40 at_ now fl : Int) (hc : G2 c5 c6 c7 c8 c9 c10 c11 c12 c13 c14 c16 c17 c18 c19 c39 c40)  (w : World) (h0 : (decide (c14 ≤ at_)) = false) :
  Calls Try.prog 17 #[.agg (K2 c5 c6 c7 c8 c9 c10 c11 c12 c13 c14 false c16 c17 c18 c19 c39 c40).toArray, .int .u64 at_, .int .u64 now, .int .u64 fl] w fun e w' => S2 (fun x y => x ≤ c12) w e w' := by
 have hu29 := Try.underlying29
 have hu36 := Try.underlying36
 obtain ⟨hb_c12, hp_c5, Wc6, Wc7, Wc8, Wc9, Wc10, Wc11, Wc12, Wc13, Wc14, Wc16, Wc17, Wc18, Wc19, Wc39, Wc40⟩ := hc
 have d0 := (lt_of_nle h0)
 have HS := Since.refl w
 go_enter Try.func17, Try.ntmps17
 go_wp2_with (first | (refine seg_new rfl (N := 4) rfl (K2 c5 c6 c7 c8 c9 c10 c11 c12 c13 c14 false c16 c17 c18 c19 c39 c40) 36 ?hr ?_; (case hr => rfl); intro g0 hg w1 hn hl; have GEg0 := ge_new HS hg; clear hg; replace HS := HS.below hl; have Bg0 := hn; clear hl hn) | (refine seg_new rfl (N := 5) rfl [.int .u64 at_] 23 ?hr ?_; (case hr => rfl); intro g1 hg w2 hn hl; have Ng1_g0 := ne_new Bg0 hg; have GEg1 := ge_new HS hg; clear hg; replace Bg0 := Bg0.below hl; replace HS := HS.below hl; have Bg1 := hn; clear hl hn) | (refine seg_new rfl (N := 8) rfl K0 36 ?hr ?_; (case hr => rfl); intro g2 hg w3 hn hl; have Ng2_g0 := ne_new Bg0 hg; have Ng2_g1 := ne_new Bg1 hg; have GEg2 := ge_new HS hg; clear hg; replace Bg0 := Bg0.below hl; replace Bg1 := Bg1.below hl; replace HS := HS.below hl; have Bg2 := hn; clear hl hn; have kg0_0 := Bg0.at 0 rfl) | ((go_at_call 39); (with_reducible refine (keepK2_1 c5 c6 c7 c8 c9 c10 c11 c12 c13 c14 c16 c17 c18 c19 c39 c40 at_ false g0 g1 _ h0 Bg0 Bg1 Ng1_g0).mono ?_); rintro e w4 ⟨rfl, hn, hw⟩; replace Bg1 := Bg1.grown hw Ng1_g0; replace Bg2 := Bg2.grown hw Ng2_g0; replace HS := HS.grown hw GEg0; replace Bg0 := hn; clear hw; clear kg0_0; have kg1_0 := Bg1.at 0 rfl; clear hn) | (refine seg_load rfl (N := 28) rfl 29 (.tmp 27) rfl g0 12 [.int .u64 c12, .int .u64 c13, .int .u64 c14, .bool false, .int .u64 c16, .int .u64 c17, .int .u64 c18, .int .u64 c19] rfl Bg0 rfl Try.underlying29 rfl (by kernel_rfl) ?_) | ((go_at_call 42); (with_reducible refine (cubicL_0 c12 c13 c14 c16 c17 c18 c19 at_ now false _ (lt_of_nle h0)).mono ?_); rintro e w5 ⟨rfl, hl⟩; replace Bg0 := Bg0.below hl; replace Bg1 := Bg1.below hl; replace Bg2 := Bg2.below hl; replace HS := HS.below hl; clear hl; clear kg1_0) | (refine seg_store rfl rfl 29 (.tmp 32) (.tmp 31) rfl g0 12 [.int .u64 c12, .int .u64 c13, .int .u64 c14, .bool false, .int .u64 c16, .int .u64 c17, .int .u64 c18, .int .u64 c19] (K2 c5 c6 c7 c8 c9 c10 c11 c12 c13 c14 false c16 c17 c18 c19 c39 c40) (.agg #[.int .u64 c12, .int .u64 c13, .int .u64 c14, .bool false, .int .u64 c16, .int .u64 c17, .int .u64 c18, .int .u64 c19]) rfl rfl rfl Bg0 (by kernel_rfl) (nle rfl) rfl rfl ?_; intro w6 hn hw; replace Bg1 := Bg1.grown hw Ng1_g0; replace Bg2 := Bg2.grown hw Ng2_g0; replace HS := HS.grown hw GEg0; replace Bg0 := hn; clear hw; clear hn) | (refine seg_load rfl (N := 50) rfl 36 (.tmp 4) rfl g0 0 (K2 c5 c6 c7 c8 c9 c10 c11 c12 c13 c14 false c16 c17 c18 c19 c39 c40) rfl Bg0 rfl Try.underlying36 rfl (by kernel_rfl) ?_) | (refine seg_store rfl rfl 36 (.tmp 8) (.tmp 50) rfl g2 0 (K2 c5 c6 c7 c8 c9 c10 c11 c12 c13 c14 false c16 c17 c18 c19 c39 c40) (K2 c5 c6 c7 c8 c9 c10 c11 c12 c13 c14 false c16 c17 c18 c19 c39 c40) (.agg (K2 c5 c6 c7 c8 c9 c10 c11 c12 c13 c14 false c16 c17 c18 c19 c39 c40).toArray) rfl rfl rfl Bg2 (by kernel_rfl) (nle rfl) rfl rfl ?_; intro w7 hn hw; replace Bg0 := Bg0.grown hw Ng2_g0.symm; replace Bg1 := Bg1.grown hw Ng2_g1.symm; replace HS := HS.grown hw GEg2; replace Bg2 := hn; clear hw; clear hn))
 all_goals exact bodyPost_ret (results_cell1 rfl _ _ g2 36 (K2 c5 c6 c7 c8 c9 c10 c11 c12 c13 c14 false c16 c17 c18 c19 c39 c40) _ rfl Bg2 Try.underlying36 rfl (by kernel_rfl)) rfl ⟨_, _, _, _, _, _, _, _, _, _, _, _, _, _, _, _, _, rfl, ⟨hb_c12, hp_c5, Wc6, Wc7, Wc8, Wc9, Wc10, Wc11, Wc12, Wc13, Wc14, Wc16, Wc17, Wc18, Wc19, Wc39, Wc40⟩, (Int.le_refl _), HS.out⟩
theorem lossS2 (c5 c6 c7 c8 c9 c10 c11 c12 c13 c14 c16 c17 c18 c19 c39 c40 at_ now fl : Int) (c15 : Bool) (hc : G2 c5 c6 c7 c8 c9 c10 c11 c12 c13 c14 c16 c17 c18 c19 c39 c40) (Wat_ : W64 at_) (Wnow : W64 now) (Wfl : W64 fl) (w : World) :
  Calls Try.prog 17 #[.agg (K2 c5 c6 c7 c8 c9 c10 c11 c12 c13 c14 c15 c16 c17 c18 c19 c39 c40).toArray, .int .u64 at_, .int .u64 now, .int .u64 fl] w fun e w' => S2 (fun x y => x ≤ c12) w e w' := by
 cases c15 with
 | false =>
  by_cases e1 : c14 ≤ at_
  ·have f1 : (decide (c14 ≤ at_)) = true := decide_eq_true e1
   by_cases e2 : c12 < c17
   ·have f2 : (decide (c12 < c17)) = true := decide_eq_true e2
    exact lossS2w_3 c5 c6 c7 c8 c9 c10 c11 c12 c13 c14 c16 c17 c18 c19 c39 c40 at_ now fl hc Wnow w f1 f2
   ·have f2 : (decide (c12 < c17)) = false := decide_eq_false e2
    exact lossS2w_4 c5 c6 c7 c8 c9 c10 c11 c12 c13 c14 c16 c17 c18 c19 c39 c40 at_ now fl hc Wnow w f1 f2
  ·have f1 : (decide (c14 ≤ at_)) = false := decide_eq_false e1
   exact lossS2w_5 c5 c6 c7 c8 c9 c10 c11 c12 c13 c14 c16 c17 c18 c19 c39 c40 at_ now fl hc  w f1
 | true =>
  by_cases e3 : c14 ≤ at_
  ·have f3 : (decide (c14 ≤ at_)) = true := decide_eq_true e3
   by_cases e4 : c12 < c17
   ·have f4 : (decide (c12 < c17)) = true := decide_eq_true e4
    exact lossS2w_0 c5 c6 c7 c8 c9 c10 c11 c12 c13 c14 c16 c17 c18 c19 c39 c40 at_ now fl hc Wnow w f3 f4
   ·have f4 : (decide (c12 < c17)) = false := decide_eq_false e4
    exact lossS2w_1 c5 c6 c7 c8 c9 c10 c11 c12 c13 c14 c16 c17 c18 c19 c39 c40 at_ now fl hc Wnow w f3 f4
  ·have f3 : (decide (c14 ≤ at_)) = false := decide_eq_false e3
   exact lossS2w_2 c5 c6 c7 c8 c9 c10 c11 c12 c13 c14 c16 c17 c18 c19 c39 c40 at_ now fl hc  w f3
theorem lossS4w_0 (c5 c6 c7 c8 c9 c10 c11 c30 c31 c32 c33 c34 c35 c36 c37 c39 c40 at_ now fl : Int) (hc : G4 c5 c6 c7 c8 c9 c10 c11 c30 c31 c32 c33 c34 c35 c36 c37 c39 c40) (Wnow : W64 now) (w : World) (h0 : (decide (c32 ≤ at_)) = true) :
  Calls Try.prog 17 #[.agg (K4 c5 c6 c7 c8 c9 c10 c11 c30 c31 c32 c33 c34 c35 c36 c37 true c39 c40).toArray, .int .u64 at_, .int .u64 now, .int .u64 fl] w fun e w' => S4 (fun x y => x ≤ c30) w e w' := by
 have hu34 := Try.underlying34
 have hu36 := Try.underlying36
 obtain ⟨hb_c30, hp_c5, Wc6, Wc7, Wc8, Wc9, Wc10, Wc11, Wc30, Wc31, Wc32, Wc33, Wc34, Wc35, Wc36, Wc37, Wc39, Wc40⟩ := hc
 have d0 := (lt_of_le h0)
 have HS := Since.refl w
 go_enter Try.func17, Try.ntmps17
 go_wp2_with (first | (refine seg_new rfl (N := 4) rfl (K4 c5 c6 c7 c8 c9 c10 c11 c30 c31 c32 c33 c34 c35 c36 c37 true c39 c40) 36 ?hr ?_; (case hr => rfl); intro g0 hg w1 hn hl; have GEg0 := ge_new HS hg; clear hg; replace HS := HS.below hl; have Bg0 := hn; clear hl hn) | (refine seg_new rfl (N := 5) rfl [.int .u64 at_] 23 ?hr ?_; (case hr => rfl); intro g1 hg w2 hn hl; have Ng1_g0 := ne_new Bg0 hg; have GEg1 := ge_new HS hg; clear hg; replace Bg0 := Bg0.below hl; replace HS := HS.below hl; have Bg1 := hn; clear hl hn) | (refine seg_new rfl (N := 8) rfl K0 36 ?hr ?_; (case hr => rfl); intro g2 hg w3 hn hl; have Ng2_g0 := ne_new Bg0 hg; have Ng2_g1 := ne_new Bg1 hg; have GEg2 := ge_new HS hg; clear hg; replace Bg0 := Bg0.below hl; replace Bg1 := Bg1.below hl; replace HS := HS.below hl; have Bg2 := hn; clear hl hn; have kg0_0 := Bg0.at 0 rfl) | ((go_at_call 39); (with_reducible refine (keepK4_0 c5 c6 c7 c8 c9 c10 c11 c30 c31 c32 c33 c34 c35 c36 c37 c39 c40 at_ true g0 g1 _ h0 Bg0 Bg1 Ng1_g0).mono ?_); rintro e w4 ⟨rfl, hn, hw⟩; replace Bg1 := Bg1.grown hw Ng1_g0; replace Bg2 := Bg2.grown hw Ng2_g0; replace HS := HS.grown hw GEg0; replace Bg0 := hn; clear hw; clear kg0_0; have kg1_0 := Bg1.at 0 rfl; clear hn) | (refine seg_load rfl (N := 45) rfl 34 (.tmp 44) rfl g0 30 [.int .u64 c30, .int .u64 c31, .int .u64 c32, .int .u64 c33, .int .u64 c34, .int .u64 c35, .int .u64 c36, .int .u64 c37, .bool true] rfl Bg0 rfl Try.underlying34 rfl (by kernel_rfl) ?_) | ((go_at_call 44); (with_reducible refine (pragueL_1 c30 c31 c32 c33 c34 c35 c36 c37 at_ now true Wc30 Wnow _ (lt_of_le h0)).mono ?_); rintro e w5 ⟨rfl, hl⟩; replace Bg0 := Bg0.below hl; replace Bg1 := Bg1.below hl; replace Bg2 := Bg2.below hl; replace HS := HS.below hl; clear hl; clear kg1_0) | (refine seg_store rfl rfl 34 (.tmp 49) (.tmp 48) rfl g0 30 [.int .u64 (uHeld (c30 / 2)), .int .u64 (uHeld (c30 / 2)), .int .u64 (uAdd now 1), .int .u64 0, .int .u64 c34, .int .u64 c35, .int .u64 c36, .int .u64 c37, .bool true] (K4 c5 c6 c7 c8 c9 c10 c11 (uHeld (c30 / 2)) (uHeld (c30 / 2)) (uAdd now 1) 0 c34 c35 c36 c37 true c30 c31) (.agg #[.int .u64 (uHeld (c30 / 2)), .int .u64 (uHeld (c30 / 2)), .int .u64 (uAdd now 1), .int .u64 0, .int .u64 c34, .int .u64 c35, .int .u64 c36, .int .u64 c37, .bool true]) rfl rfl rfl Bg0 (by kernel_rfl) (nle rfl) rfl rfl ?_; intro w6 hn hw; replace Bg1 := Bg1.grown hw Ng1_g0; replace Bg2 := Bg2.grown hw Ng2_g0; replace HS := HS.grown hw GEg0; replace Bg0 := hn; clear hw; clear hn) | (refine seg_load rfl (N := 50) rfl 36 (.tmp 4) rfl g0 0 (K4 c5 c6 c7 c8 c9 c10 c11 (uHeld (c30 / 2)) (uHeld (c30 / 2)) (uAdd now 1) 0 c34 c35 c36 c37 true c30 c31) rfl Bg0 rfl Try.underlying36 rfl (by kernel_rfl) ?_) | (refine seg_store rfl rfl 36 (.tmp 8) (.tmp 50) rfl g2 0 (K4 c5 c6 c7 c8 c9 c10 c11 (uHeld (c30 / 2)) (uHeld (c30 / 2)) (uAdd now 1) 0 c34 c35 c36 c37 true c30 c31) (K4 c5 c6 c7 c8 c9 c10 c11 (uHeld (c30 / 2)) (uHeld (c30 / 2)) (uAdd now 1) 0 c34 c35 c36 c37 true c30 c31) (.agg (K4 c5 c6 c7 c8 c9 c10 c11 (uHeld (c30 / 2)) (uHeld (c30 / 2)) (uAdd now 1) 0 c34 c35 c36 c37 true c30 c31).toArray) rfl rfl rfl Bg2 (by kernel_rfl) (nle rfl) rfl rfl ?_; intro w7 hn hw; replace Bg0 := Bg0.grown hw Ng2_g0.symm; replace Bg1 := Bg1.grown hw Ng2_g1.symm; replace HS := HS.grown hw GEg2; replace Bg2 := hn; clear hw; clear hn))
 all_goals exact bodyPost_ret (results_cell1 rfl _ _ g2 36 (K4 c5 c6 c7 c8 c9 c10 c11 (uHeld (c30 / 2)) (uHeld (c30 / 2)) (uAdd now 1) 0 c34 c35 c36 c37 true c30 c31) _ rfl Bg2 Try.underlying36 rfl (by kernel_rfl)) rfl ⟨_, _, _, _, _, _, _, _, _, _, _, _, _, _, _, _, _, _, rfl, ⟨(uHeld_in _), hp_c5, Wc6, Wc7, Wc8, Wc9, Wc10, Wc11, (uHeld_w _), (uHeld_w _), (uAdd_w Wnow (by decide)), (by decide), Wc34, Wc35, Wc36, Wc37, Wc30, Wc31⟩, (half_le hb_c30), HS.out⟩
theorem lossS4w_1 (c5 c6 c7 c8 c9 c10 c11 c30 c31 c32 c33 c34 c35 c36 c37 c39 c40 at_ now fl : Int) (hc : G4 c5 c6 c7 c8 c9 c10 c11 c30 c31 c32 c33 c34 c35 c36 c37 c39 c40)  (w : World) (h0 : (decide (c32 ≤ at_)) = false) :
  Calls Try.prog 17 #[.agg (K4 c5 c6 c7 c8 c9 c10 c11 c30 c31 c32 c33 c34 c35 c36 c37 true c39 c40).toArray, .int .u64 at_, .int .u64 now, .int .u64 fl] w fun e w' => S4 (fun x y => x ≤ c30) w e w' := by
 have hu34 := Try.underlying34
 have hu36 := Try.underlying36
 obtain ⟨hb_c30, hp_c5, Wc6, Wc7, Wc8, Wc9, Wc10, Wc11, Wc30, Wc31, Wc32, Wc33, Wc34, Wc35, Wc36, Wc37, Wc39, Wc40⟩ := hc
 have d0 := (lt_of_nle h0)
 have HS := Since.refl w
 go_enter Try.func17, Try.ntmps17
 go_wp2_with (first | (refine seg_new rfl (N := 4) rfl (K4 c5 c6 c7 c8 c9 c10 c11 c30 c31 c32 c33 c34 c35 c36 c37 true c39 c40) 36 ?hr ?_; (case hr => rfl); intro g0 hg w1 hn hl; have GEg0 := ge_new HS hg; clear hg; replace HS := HS.below hl; have Bg0 := hn; clear hl hn) | (refine seg_new rfl (N := 5) rfl [.int .u64 at_] 23 ?hr ?_; (case hr => rfl); intro g1 hg w2 hn hl; have Ng1_g0 := ne_new Bg0 hg; have GEg1 := ge_new HS hg; clear hg; replace Bg0 := Bg0.below hl; replace HS := HS.below hl; have Bg1 := hn; clear hl hn) | (refine seg_new rfl (N := 8) rfl K0 36 ?hr ?_; (case hr => rfl); intro g2 hg w3 hn hl; have Ng2_g0 := ne_new Bg0 hg; have Ng2_g1 := ne_new Bg1 hg; have GEg2 := ge_new HS hg; clear hg; replace Bg0 := Bg0.below hl; replace Bg1 := Bg1.below hl; replace HS := HS.below hl; have Bg2 := hn; clear hl hn; have kg0_0 := Bg0.at 0 rfl) | ((go_at_call 39); (with_reducible refine (keepK4_1 c5 c6 c7 c8 c9 c10 c11 c30 c31 c32 c33 c34 c35 c36 c37 c39 c40 at_ true g0 g1 _ h0 Bg0 Bg1 Ng1_g0).mono ?_); rintro e w4 ⟨rfl, hn, hw⟩; replace Bg1 := Bg1.grown hw Ng1_g0; replace Bg2 := Bg2.grown hw Ng2_g0; replace HS := HS.grown hw GEg0; replace Bg0 := hn; clear hw; clear kg0_0; have kg1_0 := Bg1.at 0 rfl; clear hn) | (refine seg_load rfl (N := 45) rfl 34 (.tmp 44) rfl g0 30 [.int .u64 c30, .int .u64 c31, .int .u64 c32, .int .u64 c33, .int .u64 c34, .int .u64 c35, .int .u64 c36, .int .u64 c37, .bool true] rfl Bg0 rfl Try.underlying34 rfl (by kernel_rfl) ?_) | ((go_at_call 44); (with_reducible refine (pragueL_0 c30 c31 c32 c33 c34 c35 c36 c37 at_ now true _ (lt_of_nle h0)).mono ?_); rintro e w5 ⟨rfl, hl⟩; replace Bg0 := Bg0.below hl; replace Bg1 := Bg1.below hl; replace Bg2 := Bg2.below hl; replace HS := HS.below hl; clear hl; clear kg1_0) | (refine seg_store rfl rfl 34 (.tmp 49) (.tmp 48) rfl g0 30 [.int .u64 c30, .int .u64 c31, .int .u64 c32, .int .u64 c33, .int .u64 c34, .int .u64 c35, .int .u64 c36, .int .u64 c37, .bool true] (K4 c5 c6 c7 c8 c9 c10 c11 c30 c31 c32 c33 c34 c35 c36 c37 true c39 c40) (.agg #[.int .u64 c30, .int .u64 c31, .int .u64 c32, .int .u64 c33, .int .u64 c34, .int .u64 c35, .int .u64 c36, .int .u64 c37, .bool true]) rfl rfl rfl Bg0 (by kernel_rfl) (nle rfl) rfl rfl ?_; intro w6 hn hw; replace Bg1 := Bg1.grown hw Ng1_g0; replace Bg2 := Bg2.grown hw Ng2_g0; replace HS := HS.grown hw GEg0; replace Bg0 := hn; clear hw; clear hn) | (refine seg_load rfl (N := 50) rfl 36 (.tmp 4) rfl g0 0 (K4 c5 c6 c7 c8 c9 c10 c11 c30 c31 c32 c33 c34 c35 c36 c37 true c39 c40) rfl Bg0 rfl Try.underlying36 rfl (by kernel_rfl) ?_) | (refine seg_store rfl rfl 36 (.tmp 8) (.tmp 50) rfl g2 0 (K4 c5 c6 c7 c8 c9 c10 c11 c30 c31 c32 c33 c34 c35 c36 c37 true c39 c40) (K4 c5 c6 c7 c8 c9 c10 c11 c30 c31 c32 c33 c34 c35 c36 c37 true c39 c40) (.agg (K4 c5 c6 c7 c8 c9 c10 c11 c30 c31 c32 c33 c34 c35 c36 c37 true c39 c40).toArray) rfl rfl rfl Bg2 (by kernel_rfl) (nle rfl) rfl rfl ?_; intro w7 hn hw; replace Bg0 := Bg0.grown hw Ng2_g0.symm; replace Bg1 := Bg1.grown hw Ng2_g1.symm; replace HS := HS.grown hw GEg2; replace Bg2 := hn; clear hw; clear hn))
 all_goals exact bodyPost_ret (results_cell1 rfl _ _ g2 36 (K4 c5 c6 c7 c8 c9 c10 c11 c30 c31 c32 c33 c34 c35 c36 c37 true c39 c40) _ rfl Bg2 Try.underlying36 rfl (by kernel_rfl)) rfl ⟨_, _, _, _, _, _, _, _, _, _, _, _, _, _, _, _, _, _, rfl, ⟨hb_c30, hp_c5, Wc6, Wc7, Wc8, Wc9, Wc10, Wc11, Wc30, Wc31, Wc32, Wc33, Wc34, Wc35, Wc36, Wc37, Wc39, Wc40⟩, (Int.le_refl _), HS.out⟩
theorem lossS4w_2 (c5 c6 c7 c8 c9 c10 c11 c30 c31 c32 c33 c34 c35 c36 c37 c39 c40 at_ now fl : Int) (hc : G4 c5 c6 c7 c8 c9 c10 c11 c30 c31 c32 c33 c34 c35 c36 c37 c39 c40) (Wnow : W64 now) (w : World) (h0 : (decide (c32 ≤ at_)) = true) :
  Calls Try.prog 17 #[.agg (K4 c5 c6 c7 c8 c9 c10 c11 c30 c31 c32 c33 c34 c35 c36 c37 false c39 c40).toArray, .int .u64 at_, .int .u64 now, .int .u64 fl] w fun e w' => S4 (fun x y => x ≤ c30) w e w' := by
 have hu34 := Try.underlying34
 have hu36 := Try.underlying36
 obtain ⟨hb_c30, hp_c5, Wc6, Wc7, Wc8, Wc9, Wc10, Wc11, Wc30, Wc31, Wc32, Wc33, Wc34, Wc35, Wc36, Wc37, Wc39, Wc40⟩ := hc
 have d0 := (lt_of_le h0)
 have HS := Since.refl w
 go_enter Try.func17, Try.ntmps17
 go_wp2_with (first | (refine seg_new rfl (N := 4) rfl (K4 c5 c6 c7 c8 c9 c10 c11 c30 c31 c32 c33 c34 c35 c36 c37 false c39 c40) 36 ?hr ?_; (case hr => rfl); intro g0 hg w1 hn hl; have GEg0 := ge_new HS hg; clear hg; replace HS := HS.below hl; have Bg0 := hn; clear hl hn) | (refine seg_new rfl (N := 5) rfl [.int .u64 at_] 23 ?hr ?_; (case hr => rfl); intro g1 hg w2 hn hl; have Ng1_g0 := ne_new Bg0 hg; have GEg1 := ge_new HS hg; clear hg; replace Bg0 := Bg0.below hl; replace HS := HS.below hl; have Bg1 := hn; clear hl hn) | (refine seg_new rfl (N := 8) rfl K0 36 ?hr ?_; (case hr => rfl); intro g2 hg w3 hn hl; have Ng2_g0 := ne_new Bg0 hg; have Ng2_g1 := ne_new Bg1 hg; have GEg2 := ge_new HS hg; clear hg; replace Bg0 := Bg0.below hl; replace Bg1 := Bg1.below hl; replace HS := HS.below hl; have Bg2 := hn; clear hl hn; have kg0_0 := Bg0.at 0 rfl) | ((go_at_call 39); (with_reducible refine (keepK4_0 c5 c6 c7 c8 c9 c10 c11 c30 c31 c32 c33 c34 c35 c36 c37 c39 c40 at_ false g0 g1 _ h0 Bg0 Bg1 Ng1_g0).mono ?_); rintro e w4 ⟨rfl, hn, hw⟩; replace Bg1 := Bg1.grown hw Ng1_g0; replace Bg2 := Bg2.grown hw Ng2_g0; replace HS := HS.grown hw GEg0; replace Bg0 := hn; clear hw; clear kg0_0; have kg1_0 := Bg1.at 0 rfl; clear hn) | (refine seg_load rfl (N := 45) rfl 34 (.tmp 44) rfl g0 30 [.int .u64 c30, .int .u64 c31, .int .u64 c32, .int .u64 c33, .int .u64 c34, .int .u64 c35, .int .u64 c36, .int .u64 c37, .bool false] rfl Bg0 rfl Try.underlying34 rfl (by kernel_rfl) ?_) | ((go_at_call 44); (with_reducible refine (pragueL_1 c30 c31 c32 c33 c34 c35 c36 c37 at_ now false Wc30 Wnow _ (lt_of_le h0)).mono ?_); rintro e w5 ⟨rfl, hl⟩; replace Bg0 := Bg0.below hl; replace Bg1 := Bg1.below hl; replace Bg2 := Bg2.below hl; replace HS := HS.below hl; clear hl; clear kg1_0) | (refine seg_store rfl rfl 34 (.tmp 49) (.tmp 48) rfl g0 30 [.int .u64 (uHeld (c30 / 2)), .int .u64 (uHeld (c30 / 2)), .int .u64 (uAdd now 1), .int .u64 0, .int .u64 c34, .int .u64 c35, .int .u64 c36, .int .u64 c37, .bool false] (K4 c5 c6 c7 c8 c9 c10 c11 (uHeld (c30 / 2)) (uHeld (c30 / 2)) (uAdd now 1) 0 c34 c35 c36 c37 false c30 c31) (.agg #[.int .u64 (uHeld (c30 / 2)), .int .u64 (uHeld (c30 / 2)), .int .u64 (uAdd now 1), .int .u64 0, .int .u64 c34, .int .u64 c35, .int .u64 c36, .int .u64 c37, .bool false]) rfl rfl rfl Bg0 (by kernel_rfl) (nle rfl) rfl rfl ?_; intro w6 hn hw; replace Bg1 := Bg1.grown hw Ng1_g0; replace Bg2 := Bg2.grown hw Ng2_g0; replace HS := HS.grown hw GEg0; replace Bg0 := hn; clear hw; clear hn) | (refine seg_load rfl (N := 50) rfl 36 (.tmp 4) rfl g0 0 (K4 c5 c6 c7 c8 c9 c10 c11 (uHeld (c30 / 2)) (uHeld (c30 / 2)) (uAdd now 1) 0 c34 c35 c36 c37 false c30 c31) rfl Bg0 rfl Try.underlying36 rfl (by kernel_rfl) ?_) | (refine seg_store rfl rfl 36 (.tmp 8) (.tmp 50) rfl g2 0 (K4 c5 c6 c7 c8 c9 c10 c11 (uHeld (c30 / 2)) (uHeld (c30 / 2)) (uAdd now 1) 0 c34 c35 c36 c37 false c30 c31) (K4 c5 c6 c7 c8 c9 c10 c11 (uHeld (c30 / 2)) (uHeld (c30 / 2)) (uAdd now 1) 0 c34 c35 c36 c37 false c30 c31) (.agg (K4 c5 c6 c7 c8 c9 c10 c11 (uHeld (c30 / 2)) (uHeld (c30 / 2)) (uAdd now 1) 0 c34 c35 c36 c37 false c30 c31).toArray) rfl rfl rfl Bg2 (by kernel_rfl) (nle rfl) rfl rfl ?_; intro w7 hn hw; replace Bg0 := Bg0.grown hw Ng2_g0.symm; replace Bg1 := Bg1.grown hw Ng2_g1.symm; replace HS := HS.grown hw GEg2; replace Bg2 := hn; clear hw; clear hn))
 all_goals exact bodyPost_ret (results_cell1 rfl _ _ g2 36 (K4 c5 c6 c7 c8 c9 c10 c11 (uHeld (c30 / 2)) (uHeld (c30 / 2)) (uAdd now 1) 0 c34 c35 c36 c37 false c30 c31) _ rfl Bg2 Try.underlying36 rfl (by kernel_rfl)) rfl ⟨_, _, _, _, _, _, _, _, _, _, _, _, _, _, _, _, _, _, rfl, ⟨(uHeld_in _), hp_c5, Wc6, Wc7, Wc8, Wc9, Wc10, Wc11, (uHeld_w _), (uHeld_w _), (uAdd_w Wnow (by decide)), (by decide), Wc34, Wc35, Wc36, Wc37, Wc30, Wc31⟩, (half_le hb_c30), HS.out⟩
theorem lossS4w_3 (c5 c6 c7 c8 c9 c10 c11 c30 c31 c32 c33 c34 c35 c36 c37 c39 c40 at_ now fl : Int) (hc : G4 c5 c6 c7 c8 c9 c10 c11 c30 c31 c32 c33 c34 c35 c36 c37 c39 c40)  (w : World) (h0 : (decide (c32 ≤ at_)) = false) :
  Calls Try.prog 17 #[.agg (K4 c5 c6 c7 c8 c9 c10 c11 c30 c31 c32 c33 c34 c35 c36 c37 false c39 c40).toArray, .int .u64 at_, .int .u64 now, .int .u64 fl] w fun e w' => S4 (fun x y => x ≤ c30) w e w' := by
 have hu34 := Try.underlying34
 have hu36 := Try.underlying36
 obtain ⟨hb_c30, hp_c5, Wc6, Wc7, Wc8, Wc9, Wc10, Wc11, Wc30, Wc31, Wc32, Wc33, Wc34, Wc35, Wc36, Wc37, Wc39, Wc40⟩ := hc
 have d0 := (lt_of_nle h0)
 have HS := Since.refl w
 go_enter Try.func17, Try.ntmps17
 go_wp2_with (first | (refine seg_new rfl (N := 4) rfl (K4 c5 c6 c7 c8 c9 c10 c11 c30 c31 c32 c33 c34 c35 c36 c37 false c39 c40) 36 ?hr ?_; (case hr => rfl); intro g0 hg w1 hn hl; have GEg0 := ge_new HS hg; clear hg; replace HS := HS.below hl; have Bg0 := hn; clear hl hn) | (refine seg_new rfl (N := 5) rfl [.int .u64 at_] 23 ?hr ?_; (case hr => rfl); intro g1 hg w2 hn hl; have Ng1_g0 := ne_new Bg0 hg; have GEg1 := ge_new HS hg; clear hg; replace Bg0 := Bg0.below hl; replace HS := HS.below hl; have Bg1 := hn; clear hl hn) | (refine seg_new rfl (N := 8) rfl K0 36 ?hr ?_; (case hr => rfl); intro g2 hg w3 hn hl; have Ng2_g0 := ne_new Bg0 hg; have Ng2_g1 := ne_new Bg1 hg; have GEg2 := ge_new HS hg; clear hg; replace Bg0 := Bg0.below hl; replace Bg1 := Bg1.below hl; replace HS := HS.below hl; have Bg2 := hn; clear hl hn; have kg0_0 := Bg0.at 0 rfl) | ((go_at_call 39); (with_reducible refine (keepK4_1 c5 c6 c7 c8 c9 c10 c11 c30 c31 c32 c33 c34 c35 c36 c37 c39 c40 at_ false g0 g1 _ h0 Bg0 Bg1 Ng1_g0).mono ?_); rintro e w4 ⟨rfl, hn, hw⟩; replace Bg1 := Bg1.grown hw Ng1_g0; replace Bg2 := Bg2.grown hw Ng2_g0; replace HS := HS.grown hw GEg0; replace Bg0 := hn; clear hw; clear kg0_0; have kg1_0 := Bg1.at 0 rfl; clear hn) | (refine seg_load rfl (N := 45) rfl 34 (.tmp 44) rfl g0 30 [.int .u64 c30, .int .u64 c31, .int .u64 c32, .int .u64 c33, .int .u64 c34, .int .u64 c35, .int .u64 c36, .int .u64 c37, .bool false] rfl Bg0 rfl Try.underlying34 rfl (by kernel_rfl) ?_) | ((go_at_call 44); (with_reducible refine (pragueL_0 c30 c31 c32 c33 c34 c35 c36 c37 at_ now false _ (lt_of_nle h0)).mono ?_); rintro e w5 ⟨rfl, hl⟩; replace Bg0 := Bg0.below hl; replace Bg1 := Bg1.below hl; replace Bg2 := Bg2.below hl; replace HS := HS.below hl; clear hl; clear kg1_0) | (refine seg_store rfl rfl 34 (.tmp 49) (.tmp 48) rfl g0 30 [.int .u64 c30, .int .u64 c31, .int .u64 c32, .int .u64 c33, .int .u64 c34, .int .u64 c35, .int .u64 c36, .int .u64 c37, .bool false] (K4 c5 c6 c7 c8 c9 c10 c11 c30 c31 c32 c33 c34 c35 c36 c37 false c39 c40) (.agg #[.int .u64 c30, .int .u64 c31, .int .u64 c32, .int .u64 c33, .int .u64 c34, .int .u64 c35, .int .u64 c36, .int .u64 c37, .bool false]) rfl rfl rfl Bg0 (by kernel_rfl) (nle rfl) rfl rfl ?_; intro w6 hn hw; replace Bg1 := Bg1.grown hw Ng1_g0; replace Bg2 := Bg2.grown hw Ng2_g0; replace HS := HS.grown hw GEg0; replace Bg0 := hn; clear hw; clear hn) | (refine seg_load rfl (N := 50) rfl 36 (.tmp 4) rfl g0 0 (K4 c5 c6 c7 c8 c9 c10 c11 c30 c31 c32 c33 c34 c35 c36 c37 false c39 c40) rfl Bg0 rfl Try.underlying36 rfl (by kernel_rfl) ?_) | (refine seg_store rfl rfl 36 (.tmp 8) (.tmp 50) rfl g2 0 (K4 c5 c6 c7 c8 c9 c10 c11 c30 c31 c32 c33 c34 c35 c36 c37 false c39 c40) (K4 c5 c6 c7 c8 c9 c10 c11 c30 c31 c32 c33 c34 c35 c36 c37 false c39 c40) (.agg (K4 c5 c6 c7 c8 c9 c10 c11 c30 c31 c32 c33 c34 c35 c36 c37 false c39 c40).toArray) rfl rfl rfl Bg2 (by kernel_rfl) (nle rfl) rfl rfl ?_; intro w7 hn hw; replace Bg0 := Bg0.grown hw Ng2_g0.symm; replace Bg1 := Bg1.grown hw Ng2_g1.symm; replace HS := HS.grown hw GEg2; replace Bg2 := hn; clear hw; clear hn))
 all_goals exact bodyPost_ret (results_cell1 rfl _ _ g2 36 (K4 c5 c6 c7 c8 c9 c10 c11 c30 c31 c32 c33 c34 c35 c36 c37 false c39 c40) _ rfl Bg2 Try.underlying36 rfl (by kernel_rfl)) rfl ⟨_, _, _, _, _, _, _, _, _, _, _, _, _, _, _, _, _, _, rfl, ⟨hb_c30, hp_c5, Wc6, Wc7, Wc8, Wc9, Wc10, Wc11, Wc30, Wc31, Wc32, Wc33, Wc34, Wc35, Wc36, Wc37, Wc39, Wc40⟩, (Int.le_refl _), HS.out⟩
theorem lossS4 (c5 c6 c7 c8 c9 c10 c11 c30 c31 c32 c33 c34 c35 c36 c37 c39 c40 at_ now fl : Int) (c38 : Bool) (hc : G4 c5 c6 c7 c8 c9 c10 c11 c30 c31 c32 c33 c34 c35 c36 c37 c39 c40) (Wat_ : W64 at_) (Wnow : W64 now) (Wfl : W64 fl) (w : World) :
  Calls Try.prog 17 #[.agg (K4 c5 c6 c7 c8 c9 c10 c11 c30 c31 c32 c33 c34 c35 c36 c37 c38 c39 c40).toArray, .int .u64 at_, .int .u64 now, .int .u64 fl] w fun e w' => S4 (fun x y => x ≤ c30) w e w' := by
 cases c38 with
 | false =>
  by_cases e1 : c32 ≤ at_
  ·have f1 : (decide (c32 ≤ at_)) = true := decide_eq_true e1
   exact lossS4w_2 c5 c6 c7 c8 c9 c10 c11 c30 c31 c32 c33 c34 c35 c36 c37 c39 c40 at_ now fl hc Wnow w f1
  ·have f1 : (decide (c32 ≤ at_)) = false := decide_eq_false e1
   exact lossS4w_3 c5 c6 c7 c8 c9 c10 c11 c30 c31 c32 c33 c34 c35 c36 c37 c39 c40 at_ now fl hc  w f1
 | true =>
  by_cases e2 : c32 ≤ at_
  ·have f2 : (decide (c32 ≤ at_)) = true := decide_eq_true e2
   exact lossS4w_0 c5 c6 c7 c8 c9 c10 c11 c30 c31 c32 c33 c34 c35 c36 c37 c39 c40 at_ now fl hc Wnow w f2
  ·have f2 : (decide (c32 ≤ at_)) = false := decide_eq_false e2
   exact lossS4w_1 c5 c6 c7 c8 c9 c10 c11 c30 c31 c32 c33 c34 c35 c36 c37 c39 c40 at_ now fl hc  w f2
theorem markS1 (c1 c2 c3 c4 c5 c6 c7 c8 c9 c10 c11 c39 c40 by_ at_ now fl : Int) (hc : G1 c1 c2 c3 c4 c5 c6 c7 c8 c9 c10 c11 c39 c40) (Wat_ : W64 at_) (Wnow : W64 now) (Wfl : W64 fl) (w : World) :
  Calls Try.prog 37 #[.agg (K1 c1 c2 c3 c4 c5 c6 c7 c8 c9 c10 c11 c39 c40).toArray, .int .u64 by_, .int .u64 at_, .int .u64 now, .int .u64 fl] w fun e w' => S1 (fun x y => x ≤ c1) w e w' := by
 have hu36 := Try.underlying36
 obtain ⟨hb_c1, hp_c5, Wc1, Wc2, Wc3, Wc4, Wc6, Wc7, Wc8, Wc9, Wc10, Wc11, Wc39, Wc40⟩ := hc
 have HS := Since.refl w
 go_enter Try.func37, Try.ntmps37
 go_wp2_with (first | (refine seg_new rfl (N := 5) rfl (K1 c1 c2 c3 c4 c5 c6 c7 c8 c9 c10 c11 c39 c40) 36 ?hr ?_; (case hr => rfl); intro g0 hg w1 hn hl; have GEg0 := ge_new HS hg; clear hg; replace HS := HS.below hl; have Bg0 := hn; clear hl hn) | (refine seg_new rfl (N := 10) rfl K0 36 ?hr ?_; (case hr => rfl); intro g1 hg w2 hn hl; have Ng1_g0 := ne_new Bg0 hg; have GEg1 := ge_new HS hg; clear hg; replace Bg0 := Bg0.below hl; replace HS := HS.below hl; have Bg1 := hn; clear hl hn; have kg0_0 := Bg0.at 0 rfl) | (refine seg_load rfl (N := 21) rfl 36 (.tmp 5) rfl g0 0 (K1 c1 c2 c3 c4 c5 c6 c7 c8 c9 c10 c11 c39 c40) rfl Bg0 rfl Try.underlying36 rfl (by kernel_rfl) ?_) | ((go_at_call 17); (with_reducible refine (lossS1 c1 c2 c3 c4 c5 c6 c7 c8 c9 c10 c11 c39 c40 at_ now fl ⟨hb_c1, hp_c5, Wc1, Wc2, Wc3, Wc4, Wc6, Wc7, Wc8, Wc9, Wc10, Wc11, Wc39, Wc40⟩ Wat_ Wnow Wfl _).mono ?_); rintro e w3 ⟨a2_1, a2_2, a2_3, a2_4, a2_5, a2_6, a2_7, a2_8, a2_9, a2_10, a2_11, a2_39, a2_40, rfl, ⟨hb_a2_1, hp_a2_5, Wa2_1, Wa2_2, Wa2_3, Wa2_4, Wa2_6, Wa2_7, Wa2_8, Wa2_9, Wa2_10, Wa2_11, Wa2_39, Wa2_40⟩, hR_a2_, hl⟩; replace Bg0 := Bg0.below hl; replace Bg1 := Bg1.below hl; replace HS := HS.below hl; clear hl; clear kg0_0) | (refine seg_store rfl rfl 36 (.tmp 10) (.tmp 25) rfl g1 0 (K1 a2_1 a2_2 a2_3 a2_4 a2_5 a2_6 a2_7 a2_8 a2_9 a2_10 a2_11 a2_39 a2_40) (K1 a2_1 a2_2 a2_3 a2_4 a2_5 a2_6 a2_7 a2_8 a2_9 a2_10 a2_11 a2_39 a2_40) (.agg (K1 a2_1 a2_2 a2_3 a2_4 a2_5 a2_6 a2_7 a2_8 a2_9 a2_10 a2_11 a2_39 a2_40).toArray) rfl rfl rfl Bg1 (by kernel_rfl) (nle rfl) rfl rfl ?_; intro w4 hn hw; replace Bg0 := Bg0.grown hw Ng1_g0.symm; replace HS := HS.grown hw GEg1; replace Bg1 := hn; clear hw; clear hn))
 all_goals exact bodyPost_ret (results_cell1 rfl _ _ g1 36 (K1 a2_1 a2_2 a2_3 a2_4 a2_5 a2_6 a2_7 a2_8 a2_9 a2_10 a2_11 a2_39 a2_40) _ rfl Bg1 Try.underlying36 rfl (by kernel_rfl)) rfl ⟨_, _, _, _, _, _, _, _, _, _, _, _, _, rfl, ⟨hb_a2_1, hp_a2_5, Wa2_1, Wa2_2, Wa2_3, Wa2_4, Wa2_6, Wa2_7, Wa2_8, Wa2_9, Wa2_10, Wa2_11, Wa2_39, Wa2_40⟩, hR_a2_, HS.out⟩
theorem markS2 (c5 c6 c7 c8 c9 c10 c11 c12 c13 c14 c16 c17 c18 c19 c39 c40 by_ at_ now fl : Int) (c15 : Bool) (hc : G2 c5 c6 c7 c8 c9 c10 c11 c12 c13 c14 c16 c17 c18 c19 c39 c40) (Wat_ : W64 at_) (Wnow : W64 now) (Wfl : W64 fl) (w : World) :
  Calls Try.prog 37 #[.agg (K2 c5 c6 c7 c8 c9 c10 c11 c12 c13 c14 c15 c16 c17 c18 c19 c39 c40).toArray, .int .u64 by_, .int .u64 at_, .int .u64 now, .int .u64 fl] w fun e w' => S2 (fun x y => x ≤ c12) w e w' := by
 have hu36 := Try.underlying36
 obtain ⟨hb_c12, hp_c5, Wc6, Wc7, Wc8, Wc9, Wc10, Wc11, Wc12, Wc13, Wc14, Wc16, Wc17, Wc18, Wc19, Wc39, Wc40⟩ := hc
 have HS := Since.refl w
 go_enter Try.func37, Try.ntmps37
 go_wp2_with (first | (refine seg_new rfl (N := 5) rfl (K2 c5 c6 c7 c8 c9 c10 c11 c12 c13 c14 c15 c16 c17 c18 c19 c39 c40) 36 ?hr ?_; (case hr => rfl); intro g0 hg w1 hn hl; have GEg0 := ge_new HS hg; clear hg; replace HS := HS.below hl; have Bg0 := hn; clear hl hn) | (refine seg_new rfl (N := 10) rfl K0 36 ?hr ?_; (case hr => rfl); intro g1 hg w2 hn hl; have Ng1_g0 := ne_new Bg0 hg; have GEg1 := ge_new HS hg; clear hg; replace Bg0 := Bg0.below hl; replace HS := HS.below hl; have Bg1 := hn; clear hl hn; have kg0_0 := Bg0.at 0 rfl) | (refine seg_load rfl (N := 21) rfl 36 (.tmp 5) rfl g0 0 (K2 c5 c6 c7 c8 c9 c10 c11 c12 c13 c14 c15 c16 c17 c18 c19 c39 c40) rfl Bg0 rfl Try.underlying36 rfl (by kernel_rfl) ?_) | ((go_at_call 17); (with_reducible refine (lossS2 c5 c6 c7 c8 c9 c10 c11 c12 c13 c14 c16 c17 c18 c19 c39 c40 at_ now fl c15 ⟨hb_c12, hp_c5, Wc6, Wc7, Wc8, Wc9, Wc10, Wc11, Wc12, Wc13, Wc14, Wc16, Wc17, Wc18, Wc19, Wc39, Wc40⟩ Wat_ Wnow Wfl _).mono ?_); rintro e w3 ⟨a2_5, a2_6, a2_7, a2_8, a2_9, a2_10, a2_11, a2_12, a2_13, a2_14, a2_16, a2_17, a2_18, a2_19, a2_39, a2_40, a2_15, rfl, ⟨hb_a2_12, hp_a2_5, Wa2_6, Wa2_7, Wa2_8, Wa2_9, Wa2_10, Wa2_11, Wa2_12, Wa2_13, Wa2_14, Wa2_16, Wa2_17, Wa2_18, Wa2_19, Wa2_39, Wa2_40⟩, hR_a2_, hl⟩; replace Bg0 := Bg0.below hl; replace Bg1 := Bg1.below hl; replace HS := HS.below hl; clear hl; clear kg0_0) | (refine seg_store rfl rfl 36 (.tmp 10) (.tmp 25) rfl g1 0 (K2 a2_5 a2_6 a2_7 a2_8 a2_9 a2_10 a2_11 a2_12 a2_13 a2_14 a2_15 a2_16 a2_17 a2_18 a2_19 a2_39 a2_40) (K2 a2_5 a2_6 a2_7 a2_8 a2_9 a2_10 a2_11 a2_12 a2_13 a2_14 a2_15 a2_16 a2_17 a2_18 a2_19 a2_39 a2_40) (.agg (K2 a2_5 a2_6 a2_7 a2_8 a2_9 a2_10 a2_11 a2_12 a2_13 a2_14 a2_15 a2_16 a2_17 a2_18 a2_19 a2_39 a2_40).toArray) rfl rfl rfl Bg1 (by kernel_rfl) (nle rfl) rfl rfl ?_; intro w4 hn hw; replace Bg0 := Bg0.grown hw Ng1_g0.symm; replace HS := HS.grown hw GEg1; replace Bg1 := hn; clear hw; clear hn))
 all_goals exact bodyPost_ret (results_cell1 rfl _ _ g1 36 (K2 a2_5 a2_6 a2_7 a2_8 a2_9 a2_10 a2_11 a2_12 a2_13 a2_14 a2_15 a2_16 a2_17 a2_18 a2_19 a2_39 a2_40) _ rfl Bg1 Try.underlying36 rfl (by kernel_rfl)) rfl ⟨_, _, _, _, _, _, _, _, _, _, _, _, _, _, _, _, _, rfl, ⟨hb_a2_12, hp_a2_5, Wa2_6, Wa2_7, Wa2_8, Wa2_9, Wa2_10, Wa2_11, Wa2_12, Wa2_13, Wa2_14, Wa2_16, Wa2_17, Wa2_18, Wa2_19, Wa2_39, Wa2_40⟩, hR_a2_, HS.out⟩
theorem markS4w_0 (c5 c6 c7 c8 c9 c10 c11 c30 c31 c32 c33 c34 c35 c36 c37 c39 c40 by_ at_ now fl : Int) (hc : G4 c5 c6 c7 c8 c9 c10 c11 c30 c31 c32 c33 c34 c35 c36 c37 c39 c40) (Wby_ : W64 by_) (w : World) :
  Calls Try.prog 37 #[.agg (K4 c5 c6 c7 c8 c9 c10 c11 c30 c31 c32 c33 c34 c35 c36 c37 true c39 c40).toArray, .int .u64 by_, .int .u64 at_, .int .u64 now, .int .u64 fl] w fun e w' => S4 (fun x y => x ≤ c30) w e w' := by
 have hu34 := Try.underlying34
 have hu36 := Try.underlying36
 obtain ⟨hb_c30, hp_c5, Wc6, Wc7, Wc8, Wc9, Wc10, Wc11, Wc30, Wc31, Wc32, Wc33, Wc34, Wc35, Wc36, Wc37, Wc39, Wc40⟩ := hc
 have HS := Since.refl w
 go_enter Try.func37, Try.ntmps37
 go_wp2_with (first | (refine seg_new rfl (N := 5) rfl (K4 c5 c6 c7 c8 c9 c10 c11 c30 c31 c32 c33 c34 c35 c36 c37 true c39 c40) 36 ?hr ?_; (case hr => rfl); intro g0 hg w1 hn hl; have GEg0 := ge_new HS hg; clear hg; replace HS := HS.below hl; have Bg0 := hn; clear hl hn) | (refine seg_new rfl (N := 10) rfl K0 36 ?hr ?_; (case hr => rfl); intro g1 hg w2 hn hl; have Ng1_g0 := ne_new Bg0 hg; have GEg1 := ge_new HS hg; clear hg; replace Bg0 := Bg0.below hl; replace HS := HS.below hl; have Bg1 := hn; clear hl hn; have kg0_0 := Bg0.at 0 rfl) | (refine seg_load rfl (N := 15) rfl 34 (.tmp 14) rfl g0 30 [.int .u64 c30, .int .u64 c31, .int .u64 c32, .int .u64 c33, .int .u64 c34, .int .u64 c35, .int .u64 c36, .int .u64 c37, .bool true] rfl Bg0 rfl Try.underlying34 rfl (by kernel_rfl) ?_) | ((go_at_call 58); (with_reducible refine (pragueM_0 c30 c31 c32 c33 c34 c35 c36 c37 by_ at_ Wc36 Wby_ _).mono ?_); rintro e w3 ⟨rfl, hl⟩; replace Bg0 := Bg0.below hl; replace Bg1 := Bg1.below hl; replace HS := HS.below hl; clear hl; clear kg0_0) | (refine seg_store rfl rfl 34 (.tmp 19) (.tmp 18) rfl g0 30 [.int .u64 c30, .int .u64 c31, .int .u64 c32, .int .u64 c33, .int .u64 c34, .int .u64 c35, .int .u64 (uAdd c36 by_), .int .u64 c37, .bool true] (K4 c5 c6 c7 c8 c9 c10 c11 c30 c31 c32 c33 c34 c35 (uAdd c36 by_) c37 true c39 c40) (.agg #[.int .u64 c30, .int .u64 c31, .int .u64 c32, .int .u64 c33, .int .u64 c34, .int .u64 c35, .int .u64 (uAdd c36 by_), .int .u64 c37, .bool true]) rfl rfl rfl Bg0 (by kernel_rfl) (nle rfl) rfl rfl ?_; intro w4 hn hw; replace Bg1 := Bg1.grown hw Ng1_g0; replace HS := HS.grown hw GEg0; replace Bg0 := hn; clear hw; clear hn) | (refine seg_load rfl (N := 20) rfl 36 (.tmp 5) rfl g0 0 (K4 c5 c6 c7 c8 c9 c10 c11 c30 c31 c32 c33 c34 c35 (uAdd c36 by_) c37 true c39 c40) rfl Bg0 rfl Try.underlying36 rfl (by kernel_rfl) ?_) | (refine seg_store rfl rfl 36 (.tmp 10) (.tmp 20) rfl g1 0 (K4 c5 c6 c7 c8 c9 c10 c11 c30 c31 c32 c33 c34 c35 (uAdd c36 by_) c37 true c39 c40) (K4 c5 c6 c7 c8 c9 c10 c11 c30 c31 c32 c33 c34 c35 (uAdd c36 by_) c37 true c39 c40) (.agg (K4 c5 c6 c7 c8 c9 c10 c11 c30 c31 c32 c33 c34 c35 (uAdd c36 by_) c37 true c39 c40).toArray) rfl rfl rfl Bg1 (by kernel_rfl) (nle rfl) rfl rfl ?_; intro w5 hn hw; replace Bg0 := Bg0.grown hw Ng1_g0.symm; replace HS := HS.grown hw GEg1; replace Bg1 := hn; clear hw; clear hn))
 all_goals exact bodyPost_ret (results_cell1 rfl _ _ g1 36 (K4 c5 c6 c7 c8 c9 c10 c11 c30 c31 c32 c33 c34 c35 (uAdd c36 by_) c37 true c39 c40) _ rfl Bg1 Try.underlying36 rfl (by kernel_rfl)) rfl ⟨_, _, _, _, _, _, _, _, _, _, _, _, _, _, _, _, _, _, rfl, ⟨hb_c30, hp_c5, Wc6, Wc7, Wc8, Wc9, Wc10, Wc11, Wc30, Wc31, Wc32, Wc33, Wc34, Wc35, (uAdd_w Wc36 Wby_), Wc37, Wc39, Wc40⟩, (Int.le_refl _), HS.out⟩
theorem markS4w_1 (c5 c6 c7 c8 c9 c10 c11 c30 c31 c32 c33 c34 c35 c36 c37 c39 c40 by_ at_ now fl : Int) (hc : G4 c5 c6 c7 c8 c9 c10 c11 c30 c31 c32 c33 c34 c35 c36 c37 c39 c40) (Wby_ : W64 by_) (w : World) (h0 : (decide (at_ < c32)) = true) :
  Calls Try.prog 37 #[.agg (K4 c5 c6 c7 c8 c9 c10 c11 c30 c31 c32 c33 c34 c35 c36 c37 false c39 c40).toArray, .int .u64 by_, .int .u64 at_, .int .u64 now, .int .u64 fl] w fun e w' => S4 (fun x y => x ≤ c30) w e w' := by
 have hu34 := Try.underlying34
 have hu36 := Try.underlying36
 obtain ⟨hb_c30, hp_c5, Wc6, Wc7, Wc8, Wc9, Wc10, Wc11, Wc30, Wc31, Wc32, Wc33, Wc34, Wc35, Wc36, Wc37, Wc39, Wc40⟩ := hc
 have HS := Since.refl w
 go_enter Try.func37, Try.ntmps37
 go_wp2_with (first | (refine seg_new rfl (N := 5) rfl (K4 c5 c6 c7 c8 c9 c10 c11 c30 c31 c32 c33 c34 c35 c36 c37 false c39 c40) 36 ?hr ?_; (case hr => rfl); intro g0 hg w1 hn hl; have GEg0 := ge_new HS hg; clear hg; replace HS := HS.below hl; have Bg0 := hn; clear hl hn) | (refine seg_new rfl (N := 10) rfl K0 36 ?hr ?_; (case hr => rfl); intro g1 hg w2 hn hl; have Ng1_g0 := ne_new Bg0 hg; have GEg1 := ge_new HS hg; clear hg; replace Bg0 := Bg0.below hl; replace HS := HS.below hl; have Bg1 := hn; clear hl hn; have kg0_0 := Bg0.at 0 rfl) | (refine seg_load rfl (N := 15) rfl 34 (.tmp 14) rfl g0 30 [.int .u64 c30, .int .u64 c31, .int .u64 c32, .int .u64 c33, .int .u64 c34, .int .u64 c35, .int .u64 c36, .int .u64 c37, .bool false] rfl Bg0 rfl Try.underlying34 rfl (by kernel_rfl) ?_) | ((go_at_call 58); (with_reducible refine (pragueM_1 c30 c31 c32 c33 c34 c35 c36 c37 by_ at_ Wc36 Wby_ _ h0).mono ?_); rintro e w3 ⟨rfl, hl⟩; replace Bg0 := Bg0.below hl; replace Bg1 := Bg1.below hl; replace HS := HS.below hl; clear hl; clear kg0_0) | (refine seg_store rfl rfl 34 (.tmp 19) (.tmp 18) rfl g0 30 [.int .u64 c30, .int .u64 c31, .int .u64 c32, .int .u64 c33, .int .u64 c34, .int .u64 c35, .int .u64 (uAdd c36 by_), .int .u64 c37, .bool false] (K4 c5 c6 c7 c8 c9 c10 c11 c30 c31 c32 c33 c34 c35 (uAdd c36 by_) c37 false c39 c40) (.agg #[.int .u64 c30, .int .u64 c31, .int .u64 c32, .int .u64 c33, .int .u64 c34, .int .u64 c35, .int .u64 (uAdd c36 by_), .int .u64 c37, .bool false]) rfl rfl rfl Bg0 (by kernel_rfl) (nle rfl) rfl rfl ?_; intro w4 hn hw; replace Bg1 := Bg1.grown hw Ng1_g0; replace HS := HS.grown hw GEg0; replace Bg0 := hn; clear hw; clear hn) | (refine seg_load rfl (N := 20) rfl 36 (.tmp 5) rfl g0 0 (K4 c5 c6 c7 c8 c9 c10 c11 c30 c31 c32 c33 c34 c35 (uAdd c36 by_) c37 false c39 c40) rfl Bg0 rfl Try.underlying36 rfl (by kernel_rfl) ?_) | (refine seg_store rfl rfl 36 (.tmp 10) (.tmp 20) rfl g1 0 (K4 c5 c6 c7 c8 c9 c10 c11 c30 c31 c32 c33 c34 c35 (uAdd c36 by_) c37 false c39 c40) (K4 c5 c6 c7 c8 c9 c10 c11 c30 c31 c32 c33 c34 c35 (uAdd c36 by_) c37 false c39 c40) (.agg (K4 c5 c6 c7 c8 c9 c10 c11 c30 c31 c32 c33 c34 c35 (uAdd c36 by_) c37 false c39 c40).toArray) rfl rfl rfl Bg1 (by kernel_rfl) (nle rfl) rfl rfl ?_; intro w5 hn hw; replace Bg0 := Bg0.grown hw Ng1_g0.symm; replace HS := HS.grown hw GEg1; replace Bg1 := hn; clear hw; clear hn))
 all_goals exact bodyPost_ret (results_cell1 rfl _ _ g1 36 (K4 c5 c6 c7 c8 c9 c10 c11 c30 c31 c32 c33 c34 c35 (uAdd c36 by_) c37 false c39 c40) _ rfl Bg1 Try.underlying36 rfl (by kernel_rfl)) rfl ⟨_, _, _, _, _, _, _, _, _, _, _, _, _, _, _, _, _, _, rfl, ⟨hb_c30, hp_c5, Wc6, Wc7, Wc8, Wc9, Wc10, Wc11, Wc30, Wc31, Wc32, Wc33, Wc34, Wc35, (uAdd_w Wc36 Wby_), Wc37, Wc39, Wc40⟩, (Int.le_refl _), HS.out⟩
theorem markS4w_2 (c5 c6 c7 c8 c9 c10 c11 c30 c31 c32 c33 c34 c35 c36 c37 c39 c40 by_ at_ now fl : Int) (hc : G4 c5 c6 c7 c8 c9 c10 c11 c30 c31 c32 c33 c34 c35 c36 c37 c39 c40) (Wby_ : W64 by_) (w : World) (h0 : (decide (at_ < c32)) = false) :
  Calls Try.prog 37 #[.agg (K4 c5 c6 c7 c8 c9 c10 c11 c30 c31 c32 c33 c34 c35 c36 c37 false c39 c40).toArray, .int .u64 by_, .int .u64 at_, .int .u64 now, .int .u64 fl] w fun e w' => S4 (fun x y => x ≤ c30) w e w' := by
 have hu34 := Try.underlying34
 have hu36 := Try.underlying36
 obtain ⟨hb_c30, hp_c5, Wc6, Wc7, Wc8, Wc9, Wc10, Wc11, Wc30, Wc31, Wc32, Wc33, Wc34, Wc35, Wc36, Wc37, Wc39, Wc40⟩ := hc
 have HS := Since.refl w
 go_enter Try.func37, Try.ntmps37
 go_wp2_with (first | (refine seg_new rfl (N := 5) rfl (K4 c5 c6 c7 c8 c9 c10 c11 c30 c31 c32 c33 c34 c35 c36 c37 false c39 c40) 36 ?hr ?_; (case hr => rfl); intro g0 hg w1 hn hl; have GEg0 := ge_new HS hg; clear hg; replace HS := HS.below hl; have Bg0 := hn; clear hl hn) | (refine seg_new rfl (N := 10) rfl K0 36 ?hr ?_; (case hr => rfl); intro g1 hg w2 hn hl; have Ng1_g0 := ne_new Bg0 hg; have GEg1 := ge_new HS hg; clear hg; replace Bg0 := Bg0.below hl; replace HS := HS.below hl; have Bg1 := hn; clear hl hn; have kg0_0 := Bg0.at 0 rfl) | (refine seg_load rfl (N := 15) rfl 34 (.tmp 14) rfl g0 30 [.int .u64 c30, .int .u64 c31, .int .u64 c32, .int .u64 c33, .int .u64 c34, .int .u64 c35, .int .u64 c36, .int .u64 c37, .bool false] rfl Bg0 rfl Try.underlying34 rfl (by kernel_rfl) ?_) | ((go_at_call 58); (with_reducible refine (pragueM_2 c30 c31 c32 c33 c34 c35 c36 c37 by_ at_ Wc30 Wc34 Wc36 Wby_ _ h0).mono ?_); rintro e w3 ⟨rfl, hl⟩; replace Bg0 := Bg0.below hl; replace Bg1 := Bg1.below hl; replace HS := HS.below hl; clear hl; clear kg0_0) | (refine seg_store rfl rfl 34 (.tmp 19) (.tmp 18) rfl g0 30 [.int .u64 (uHeld (uSub c30 (uMulDiv c30 c34 2097152))), .int .u64 (uHeld (uSub c30 (uMulDiv c30 c34 2097152))), .int .u64 c32, .int .u64 0, .int .u64 c34, .int .u64 c35, .int .u64 (uAdd c36 by_), .int .u64 c37, .bool true] (K4 c5 c6 c7 c8 c9 c10 c11 (uHeld (uSub c30 (uMulDiv c30 c34 2097152))) (uHeld (uSub c30 (uMulDiv c30 c34 2097152))) c32 0 c34 c35 (uAdd c36 by_) c37 true c39 c40) (.agg #[.int .u64 (uHeld (uSub c30 (uMulDiv c30 c34 2097152))), .int .u64 (uHeld (uSub c30 (uMulDiv c30 c34 2097152))), .int .u64 c32, .int .u64 0, .int .u64 c34, .int .u64 c35, .int .u64 (uAdd c36 by_), .int .u64 c37, .bool true]) rfl rfl rfl Bg0 (by kernel_rfl) (nle rfl) rfl rfl ?_; intro w4 hn hw; replace Bg1 := Bg1.grown hw Ng1_g0; replace HS := HS.grown hw GEg0; replace Bg0 := hn; clear hw; clear hn) | (refine seg_load rfl (N := 20) rfl 36 (.tmp 5) rfl g0 0 (K4 c5 c6 c7 c8 c9 c10 c11 (uHeld (uSub c30 (uMulDiv c30 c34 2097152))) (uHeld (uSub c30 (uMulDiv c30 c34 2097152))) c32 0 c34 c35 (uAdd c36 by_) c37 true c39 c40) rfl Bg0 rfl Try.underlying36 rfl (by kernel_rfl) ?_) | (refine seg_store rfl rfl 36 (.tmp 10) (.tmp 20) rfl g1 0 (K4 c5 c6 c7 c8 c9 c10 c11 (uHeld (uSub c30 (uMulDiv c30 c34 2097152))) (uHeld (uSub c30 (uMulDiv c30 c34 2097152))) c32 0 c34 c35 (uAdd c36 by_) c37 true c39 c40) (K4 c5 c6 c7 c8 c9 c10 c11 (uHeld (uSub c30 (uMulDiv c30 c34 2097152))) (uHeld (uSub c30 (uMulDiv c30 c34 2097152))) c32 0 c34 c35 (uAdd c36 by_) c37 true c39 c40) (.agg (K4 c5 c6 c7 c8 c9 c10 c11 (uHeld (uSub c30 (uMulDiv c30 c34 2097152))) (uHeld (uSub c30 (uMulDiv c30 c34 2097152))) c32 0 c34 c35 (uAdd c36 by_) c37 true c39 c40).toArray) rfl rfl rfl Bg1 (by kernel_rfl) (nle rfl) rfl rfl ?_; intro w5 hn hw; replace Bg0 := Bg0.grown hw Ng1_g0.symm; replace HS := HS.grown hw GEg1; replace Bg1 := hn; clear hw; clear hn))
 all_goals exact bodyPost_ret (results_cell1 rfl _ _ g1 36 (K4 c5 c6 c7 c8 c9 c10 c11 (uHeld (uSub c30 (uMulDiv c30 c34 2097152))) (uHeld (uSub c30 (uMulDiv c30 c34 2097152))) c32 0 c34 c35 (uAdd c36 by_) c37 true c39 c40) _ rfl Bg1 Try.underlying36 rfl (by kernel_rfl)) rfl ⟨_, _, _, _, _, _, _, _, _, _, _, _, _, _, _, _, _, _, rfl, ⟨(uHeld_in _), hp_c5, Wc6, Wc7, Wc8, Wc9, Wc10, Wc11, (uHeld_w _), (uHeld_w _), Wc32, (by decide), Wc34, Wc35, (uAdd_w Wc36 Wby_), Wc37, Wc39, Wc40⟩, (sub_le (uMulDiv_w Wc30 Wc34 (by decide)) hb_c30), HS.out⟩
theorem markS4 (c5 c6 c7 c8 c9 c10 c11 c30 c31 c32 c33 c34 c35 c36 c37 c39 c40 by_ at_ now fl : Int) (c38 : Bool) (hc : G4 c5 c6 c7 c8 c9 c10 c11 c30 c31 c32 c33 c34 c35 c36 c37 c39 c40) (Wby_ : W64 by_) (Wat_ : W64 at_) (Wnow : W64 now) (Wfl : W64 fl) (w : World) :
  Calls Try.prog 37 #[.agg (K4 c5 c6 c7 c8 c9 c10 c11 c30 c31 c32 c33 c34 c35 c36 c37 c38 c39 c40).toArray, .int .u64 by_, .int .u64 at_, .int .u64 now, .int .u64 fl] w fun e w' => S4 (fun x y => x ≤ c30) w e w' := by
 cases c38 with
 | false =>
  by_cases e1 : at_ < c32
  ·have f1 : (decide (at_ < c32)) = true := decide_eq_true e1
   exact markS4w_1 c5 c6 c7 c8 c9 c10 c11 c30 c31 c32 c33 c34 c35 c36 c37 c39 c40 by_ at_ now fl hc Wby_ w f1
  ·have f1 : (decide (at_ < c32)) = false := decide_eq_false e1
   exact markS4w_2 c5 c6 c7 c8 c9 c10 c11 c30 c31 c32 c33 c34 c35 c36 c37 c39 c40 by_ at_ now fl hc Wby_ w f1
 | true =>
  exact markS4w_0 c5 c6 c7 c8 c9 c10 c11 c30 c31 c32 c33 c34 c35 c36 c37 c39 c40 by_ at_ now fl hc Wby_ w 
theorem collS1 (c1 c2 c3 c4 c5 c6 c7 c8 c9 c10 c11 c39 c40 fl : Int) (hc : G1 c1 c2 c3 c4 c5 c6 c7 c8 c9 c10 c11 c39 c40)  (w : World) :
  Calls Try.prog 38 #[.agg (K1 c1 c2 c3 c4 c5 c6 c7 c8 c9 c10 c11 c39 c40).toArray, .int .u64 fl] w fun e w' => S1 (fun x y => x ≤ c1) w e w' := by
 have hu25 := Try.underlying25
 have hu36 := Try.underlying36
 obtain ⟨hb_c1, hp_c5, Wc1, Wc2, Wc3, Wc4, Wc6, Wc7, Wc8, Wc9, Wc10, Wc11, Wc39, Wc40⟩ := hc
 have HS := Since.refl w
 go_enter Try.func38, Try.ntmps38
 go_wp2_with (first | (refine seg_new rfl (N := 2) rfl (K1 c1 c2 c3 c4 c5 c6 c7 c8 c9 c10 c11 c39 c40) 36 ?hr ?_; (case hr => rfl); intro g0 hg w1 hn hl; have GEg0 := ge_new HS hg; clear hg; replace HS := HS.below hl; have Bg0 := hn; clear hl hn) | (refine seg_new rfl (N := 4) rfl K0 36 ?hr ?_; (case hr => rfl); intro g1 hg w2 hn hl; have Ng1_g0 := ne_new Bg0 hg; have GEg1 := ge_new HS hg; clear hg; replace Bg0 := Bg0.below hl; replace HS := HS.below hl; have Bg1 := hn; clear hl hn; have kg0_0 := Bg0.at 0 rfl) | (refine seg_load rfl (N := 11) rfl 25 (.tmp 10) rfl g0 1 [.int .u64 c1, .int .u64 c2, .int .u64 c3, .int .u64 c4] rfl Bg0 rfl Try.underlying25 rfl (by kernel_rfl) ?_) | ((go_at_call 59); (with_reducible refine (renoO_0 c1 c2 c3 c4 _).mono ?_); rintro e w3 ⟨rfl, hl⟩; replace Bg0 := Bg0.below hl; replace Bg1 := Bg1.below hl; replace HS := HS.below hl; clear hl; clear kg0_0) | (refine seg_store rfl rfl 25 (.tmp 13) (.tmp 12) rfl g0 1 [.int .u64 2400, .int .u64 c2, .int .u64 0, .int .u64 0] (K1 2400 c2 0 0 c5 c6 c7 c8 c9 c10 c11 c39 c40) (.agg #[.int .u64 2400, .int .u64 c2, .int .u64 0, .int .u64 0]) rfl rfl rfl Bg0 (by kernel_rfl) (nle rfl) rfl rfl ?_; intro w4 hn hw; replace Bg1 := Bg1.grown hw Ng1_g0; replace HS := HS.grown hw GEg0; replace Bg0 := hn; clear hw; clear hn) | (refine seg_store rfl rfl 23 (.tmp 32) (.const (.int .u64 0)) rfl g0 39 [.int .u64 0] (K1 2400 c2 0 0 c5 c6 c7 c8 c9 c10 c11 0 c40) (.int .u64 0) rfl rfl rfl Bg0 (by kernel_rfl) (nle rfl) rfl rfl ?_; intro w5 hn hw; replace Bg1 := Bg1.grown hw Ng1_g0; replace HS := HS.grown hw GEg0; replace Bg0 := hn; clear hw; clear hn) | (refine seg_store rfl rfl 23 (.tmp 33) (.const (.int .u64 0)) rfl g0 40 [.int .u64 0] (K1 2400 c2 0 0 c5 c6 c7 c8 c9 c10 c11 0 0) (.int .u64 0) rfl rfl rfl Bg0 (by kernel_rfl) (nle rfl) rfl rfl ?_; intro w6 hn hw; replace Bg1 := Bg1.grown hw Ng1_g0; replace HS := HS.grown hw GEg0; replace Bg0 := hn; clear hw; clear hn) | (refine seg_load rfl (N := 34) rfl 36 (.tmp 2) rfl g0 0 (K1 2400 c2 0 0 c5 c6 c7 c8 c9 c10 c11 0 0) rfl Bg0 rfl Try.underlying36 rfl (by kernel_rfl) ?_) | (refine seg_store rfl rfl 36 (.tmp 4) (.tmp 34) rfl g1 0 (K1 2400 c2 0 0 c5 c6 c7 c8 c9 c10 c11 0 0) (K1 2400 c2 0 0 c5 c6 c7 c8 c9 c10 c11 0 0) (.agg (K1 2400 c2 0 0 c5 c6 c7 c8 c9 c10 c11 0 0).toArray) rfl rfl rfl Bg1 (by kernel_rfl) (nle rfl) rfl rfl ?_; intro w7 hn hw; replace Bg0 := Bg0.grown hw Ng1_g0.symm; replace HS := HS.grown hw GEg1; replace Bg1 := hn; clear hw; clear hn))
 all_goals exact bodyPost_ret (results_cell1 rfl _ _ g1 36 (K1 2400 c2 0 0 c5 c6 c7 c8 c9 c10 c11 0 0) _ rfl Bg1 Try.underlying36 rfl (by kernel_rfl)) rfl ⟨_, _, _, _, _, _, _, _, _, _, _, _, _, rfl, ⟨(by decide), hp_c5, (by decide), Wc2, (by decide), (by decide), Wc6, Wc7, Wc8, Wc9, Wc10, Wc11, (by decide), (by decide)⟩, hb_c1.1, HS.out⟩
theorem collS2 (c5 c6 c7 c8 c9 c10 c11 c12 c13 c14 c16 c17 c18 c19 c39 c40 fl : Int) (c15 : Bool) (hc : G2 c5 c6 c7 c8 c9 c10 c11 c12 c13 c14 c16 c17 c18 c19 c39 c40)  (w : World) :
  Calls Try.prog 38 #[.agg (K2 c5 c6 c7 c8 c9 c10 c11 c12 c13 c14 c15 c16 c17 c18 c19 c39 c40).toArray, .int .u64 fl] w fun e w' => S2 (fun x y => x ≤ c12) w e w' := by
 have hu29 := Try.underlying29
 have hu36 := Try.underlying36
 obtain ⟨hb_c12, hp_c5, Wc6, Wc7, Wc8, Wc9, Wc10, Wc11, Wc12, Wc13, Wc14, Wc16, Wc17, Wc18, Wc19, Wc39, Wc40⟩ := hc
 have HS := Since.refl w
 go_enter Try.func38, Try.ntmps38
 go_wp2_with (first | (refine seg_new rfl (N := 2) rfl (K2 c5 c6 c7 c8 c9 c10 c11 c12 c13 c14 c15 c16 c17 c18 c19 c39 c40) 36 ?hr ?_; (case hr => rfl); intro g0 hg w1 hn hl; have GEg0 := ge_new HS hg; clear hg; replace HS := HS.below hl; have Bg0 := hn; clear hl hn) | (refine seg_new rfl (N := 4) rfl K0 36 ?hr ?_; (case hr => rfl); intro g1 hg w2 hn hl; have Ng1_g0 := ne_new Bg0 hg; have GEg1 := ge_new HS hg; clear hg; replace Bg0 := Bg0.below hl; replace HS := HS.below hl; have Bg1 := hn; clear hl hn; have kg0_0 := Bg0.at 0 rfl) | (refine seg_load rfl (N := 17) rfl 29 (.tmp 16) rfl g0 12 [.int .u64 c12, .int .u64 c13, .int .u64 c14, .bool c15, .int .u64 c16, .int .u64 c17, .int .u64 c18, .int .u64 c19] rfl Bg0 rfl Try.underlying29 rfl (by kernel_rfl) ?_) | ((go_at_call 60); (with_reducible refine (cubicO_0 c12 c13 c14 c16 c17 c18 c19 c15 _).mono ?_); rintro e w3 ⟨rfl, hl⟩; replace Bg0 := Bg0.below hl; replace Bg1 := Bg1.below hl; replace HS := HS.below hl; clear hl; clear kg0_0) | (refine seg_store rfl rfl 29 (.tmp 19) (.tmp 18) rfl g0 12 [.int .u64 2400, .int .u64 c13, .int .u64 0, .bool false, .int .u64 0, .int .u64 c17, .int .u64 0, .int .u64 0] (K2 c5 c6 c7 c8 c9 c10 c11 2400 c13 0 false 0 c17 0 0 c39 c40) (.agg #[.int .u64 2400, .int .u64 c13, .int .u64 0, .bool false, .int .u64 0, .int .u64 c17, .int .u64 0, .int .u64 0]) rfl rfl rfl Bg0 (by kernel_rfl) (nle rfl) rfl rfl ?_; intro w4 hn hw; replace Bg1 := Bg1.grown hw Ng1_g0; replace HS := HS.grown hw GEg0; replace Bg0 := hn; clear hw; clear hn) | (refine seg_store rfl rfl 23 (.tmp 32) (.const (.int .u64 0)) rfl g0 39 [.int .u64 0] (K2 c5 c6 c7 c8 c9 c10 c11 2400 c13 0 false 0 c17 0 0 0 c40) (.int .u64 0) rfl rfl rfl Bg0 (by kernel_rfl) (nle rfl) rfl rfl ?_; intro w5 hn hw; replace Bg1 := Bg1.grown hw Ng1_g0; replace HS := HS.grown hw GEg0; replace Bg0 := hn; clear hw; clear hn) | (refine seg_store rfl rfl 23 (.tmp 33) (.const (.int .u64 0)) rfl g0 40 [.int .u64 0] (K2 c5 c6 c7 c8 c9 c10 c11 2400 c13 0 false 0 c17 0 0 0 0) (.int .u64 0) rfl rfl rfl Bg0 (by kernel_rfl) (nle rfl) rfl rfl ?_; intro w6 hn hw; replace Bg1 := Bg1.grown hw Ng1_g0; replace HS := HS.grown hw GEg0; replace Bg0 := hn; clear hw; clear hn) | (refine seg_load rfl (N := 34) rfl 36 (.tmp 2) rfl g0 0 (K2 c5 c6 c7 c8 c9 c10 c11 2400 c13 0 false 0 c17 0 0 0 0) rfl Bg0 rfl Try.underlying36 rfl (by kernel_rfl) ?_) | (refine seg_store rfl rfl 36 (.tmp 4) (.tmp 34) rfl g1 0 (K2 c5 c6 c7 c8 c9 c10 c11 2400 c13 0 false 0 c17 0 0 0 0) (K2 c5 c6 c7 c8 c9 c10 c11 2400 c13 0 false 0 c17 0 0 0 0) (.agg (K2 c5 c6 c7 c8 c9 c10 c11 2400 c13 0 false 0 c17 0 0 0 0).toArray) rfl rfl rfl Bg1 (by kernel_rfl) (nle rfl) rfl rfl ?_; intro w7 hn hw; replace Bg0 := Bg0.grown hw Ng1_g0.symm; replace HS := HS.grown hw GEg1; replace Bg1 := hn; clear hw; clear hn))
 all_goals exact bodyPost_ret (results_cell1 rfl _ _ g1 36 (K2 c5 c6 c7 c8 c9 c10 c11 2400 c13 0 false 0 c17 0 0 0 0) _ rfl Bg1 Try.underlying36 rfl (by kernel_rfl)) rfl ⟨_, _, _, _, _, _, _, _, _, _, _, _, _, _, _, _, _, rfl, ⟨(by decide), hp_c5, Wc6, Wc7, Wc8, Wc9, Wc10, Wc11, (by decide), Wc13, (by decide), (by decide), Wc17, (by decide), (by decide), (by decide), (by decide)⟩, hb_c12.1, HS.out⟩
theorem collS4 (c5 c6 c7 c8 c9 c10 c11 c30 c31 c32 c33 c34 c35 c36 c37 c39 c40 fl : Int) (c38 : Bool) (hc : G4 c5 c6 c7 c8 c9 c10 c11 c30 c31 c32 c33 c34 c35 c36 c37 c39 c40)  (w : World) :
  Calls Try.prog 38 #[.agg (K4 c5 c6 c7 c8 c9 c10 c11 c30 c31 c32 c33 c34 c35 c36 c37 c38 c39 c40).toArray, .int .u64 fl] w fun e w' => S4 (fun x y => x ≤ c30) w e w' := by
 have hu34 := Try.underlying34
 have hu36 := Try.underlying36
 obtain ⟨hb_c30, hp_c5, Wc6, Wc7, Wc8, Wc9, Wc10, Wc11, Wc30, Wc31, Wc32, Wc33, Wc34, Wc35, Wc36, Wc37, Wc39, Wc40⟩ := hc
 have HS := Since.refl w
 go_enter Try.func38, Try.ntmps38
 go_wp2_with (first | (refine seg_new rfl (N := 2) rfl (K4 c5 c6 c7 c8 c9 c10 c11 c30 c31 c32 c33 c34 c35 c36 c37 c38 c39 c40) 36 ?hr ?_; (case hr => rfl); intro g0 hg w1 hn hl; have GEg0 := ge_new HS hg; clear hg; replace HS := HS.below hl; have Bg0 := hn; clear hl hn) | (refine seg_new rfl (N := 4) rfl K0 36 ?hr ?_; (case hr => rfl); intro g1 hg w2 hn hl; have Ng1_g0 := ne_new Bg0 hg; have GEg1 := ge_new HS hg; clear hg; replace Bg0 := Bg0.below hl; replace HS := HS.below hl; have Bg1 := hn; clear hl hn; have kg0_0 := Bg0.at 0 rfl) | (refine seg_load rfl (N := 29) rfl 34 (.tmp 28) rfl g0 30 [.int .u64 c30, .int .u64 c31, .int .u64 c32, .int .u64 c33, .int .u64 c34, .int .u64 c35, .int .u64 c36, .int .u64 c37, .bool c38] rfl Bg0 rfl Try.underlying34 rfl (by kernel_rfl) ?_) | ((go_at_call 61); (with_reducible refine (pragueO_0 c30 c31 c32 c33 c34 c35 c36 c37 c38 _).mono ?_); rintro e w3 ⟨rfl, hl⟩; replace Bg0 := Bg0.below hl; replace Bg1 := Bg1.below hl; replace HS := HS.below hl; clear hl; clear kg0_0) | (refine seg_store rfl rfl 34 (.tmp 31) (.tmp 30) rfl g0 30 [.int .u64 2400, .int .u64 c31, .int .u64 0, .int .u64 0, .int .u64 c34, .int .u64 c35, .int .u64 c36, .int .u64 c37, .bool c38] (K4 c5 c6 c7 c8 c9 c10 c11 2400 c31 0 0 c34 c35 c36 c37 c38 c39 c40) (.agg #[.int .u64 2400, .int .u64 c31, .int .u64 0, .int .u64 0, .int .u64 c34, .int .u64 c35, .int .u64 c36, .int .u64 c37, .bool c38]) rfl rfl rfl Bg0 (by kernel_rfl) (nle rfl) rfl rfl ?_; intro w4 hn hw; replace Bg1 := Bg1.grown hw Ng1_g0; replace HS := HS.grown hw GEg0; replace Bg0 := hn; clear hw; clear hn) | (refine seg_store rfl rfl 23 (.tmp 32) (.const (.int .u64 0)) rfl g0 39 [.int .u64 0] (K4 c5 c6 c7 c8 c9 c10 c11 2400 c31 0 0 c34 c35 c36 c37 c38 0 c40) (.int .u64 0) rfl rfl rfl Bg0 (by kernel_rfl) (nle rfl) rfl rfl ?_; intro w5 hn hw; replace Bg1 := Bg1.grown hw Ng1_g0; replace HS := HS.grown hw GEg0; replace Bg0 := hn; clear hw; clear hn) | (refine seg_store rfl rfl 23 (.tmp 33) (.const (.int .u64 0)) rfl g0 40 [.int .u64 0] (K4 c5 c6 c7 c8 c9 c10 c11 2400 c31 0 0 c34 c35 c36 c37 c38 0 0) (.int .u64 0) rfl rfl rfl Bg0 (by kernel_rfl) (nle rfl) rfl rfl ?_; intro w6 hn hw; replace Bg1 := Bg1.grown hw Ng1_g0; replace HS := HS.grown hw GEg0; replace Bg0 := hn; clear hw; clear hn) | (refine seg_load rfl (N := 34) rfl 36 (.tmp 2) rfl g0 0 (K4 c5 c6 c7 c8 c9 c10 c11 2400 c31 0 0 c34 c35 c36 c37 c38 0 0) rfl Bg0 rfl Try.underlying36 rfl (by kernel_rfl) ?_) | (refine seg_store rfl rfl 36 (.tmp 4) (.tmp 34) rfl g1 0 (K4 c5 c6 c7 c8 c9 c10 c11 2400 c31 0 0 c34 c35 c36 c37 c38 0 0) (K4 c5 c6 c7 c8 c9 c10 c11 2400 c31 0 0 c34 c35 c36 c37 c38 0 0) (.agg (K4 c5 c6 c7 c8 c9 c10 c11 2400 c31 0 0 c34 c35 c36 c37 c38 0 0).toArray) rfl rfl rfl Bg1 (by kernel_rfl) (nle rfl) rfl rfl ?_; intro w7 hn hw; replace Bg0 := Bg0.grown hw Ng1_g0.symm; replace HS := HS.grown hw GEg1; replace Bg1 := hn; clear hw; clear hn))
 all_goals exact bodyPost_ret (results_cell1 rfl _ _ g1 36 (K4 c5 c6 c7 c8 c9 c10 c11 2400 c31 0 0 c34 c35 c36 c37 c38 0 0) _ rfl Bg1 Try.underlying36 rfl (by kernel_rfl)) rfl ⟨_, _, _, _, _, _, _, _, _, _, _, _, _, _, _, _, _, _, rfl, ⟨(by decide), hp_c5, Wc6, Wc7, Wc8, Wc9, Wc10, Wc11, (by decide), Wc31, (by decide), (by decide), Wc34, Wc35, Wc36, Wc37, (by decide), (by decide)⟩, hb_c30.1, HS.out⟩
theorem undoS1 (c1 c2 c3 c4 c5 c6 c7 c8 c9 c10 c11 c39 c40 : Int) (hc : G1 c1 c2 c3 c4 c5 c6 c7 c8 c9 c10 c11 c39 c40)  (w : World) :
  Calls Try.prog 18 #[.agg (K1 c1 c2 c3 c4 c5 c6 c7 c8 c9 c10 c11 c39 c40).toArray] w fun e w' => S1 (fun x y => c1 ≤ x) w e w' := by
 have hu36 := Try.underlying36
 obtain ⟨hb_c1, hp_c5, Wc1, Wc2, Wc3, Wc4, Wc6, Wc7, Wc8, Wc9, Wc10, Wc11, Wc39, Wc40⟩ := hc
 have HS := Since.refl w
 go_enter Try.func18, Try.ntmps18
 go_wp2_with (first | (refine seg_new rfl (N := 1) rfl (K1 c1 c2 c3 c4 c5 c6 c7 c8 c9 c10 c11 c39 c40) 36 ?hr ?_; (case hr => rfl); intro g0 hg w1 hn hl; have GEg0 := ge_new HS hg; clear hg; replace HS := HS.below hl; have Bg0 := hn; clear hl hn) | (refine seg_new rfl (N := 2) rfl K0 36 ?hr ?_; (case hr => rfl); intro g1 hg w2 hn hl; have Ng1_g0 := ne_new Bg0 hg; have GEg1 := ge_new HS hg; clear hg; replace Bg0 := Bg0.below hl; replace HS := HS.below hl; have Bg1 := hn; clear hl hn; have kg0_0 := Bg0.at 0 rfl) | ((go_at_call 36); (with_reducible refine (parts_reno g0 _ ((Bg0.cell 0).trans rfl)).mono ?_); rintro e w3 ⟨rfl, hd⟩; have hl := hd.below; clear hd; replace Bg0 := Bg0.below hl; replace Bg1 := Bg1.below hl; replace HS := HS.below hl; clear hl; clear kg0_0; have kg0_1 := Bg0.at 1 rfl; have zg0_1 := Bg0.frozen 1; have kg0_2 := Bg0.at 2 rfl; have zg0_2 := Bg0.frozen 2; have kg0_3 := Bg0.at 3 rfl; have zg0_3 := Bg0.frozen 3; have kg0_39 := Bg0.at 39 rfl; have kg0_40 := Bg0.at 40 rfl))
 refine start_ (n := 23) (S := fun w' => w'.cell? ⟨g0, 1, none⟩ = some (.int .u64 c1) ∧ w'.cell? ⟨g0, 39, none⟩ = some (.int .u64 c39) ∧ w'.cell? ⟨g0, 2, none⟩ = some (.int .u64 c2) ∧ w'.cell? ⟨g0, 40, none⟩ = some (.int .u64 c40)) (ds := [18, 20, 22]) (bs 23 0) (by kernel_rfl) rfl rfl ⟨((Bg0.drew.cell 1).trans rfl), ((Bg0.drew.cell 39).trans rfl), ((Bg0.drew.cell 2).trans rfl), ((Bg0.drew.cell 40).trans rfl)⟩ (fun hHeld => ?_)
 generalize hWd : World.drew w3 = w4 at hHeld ⊢
 have hl : Below w3.heap.size w3 w4 := (by rw [← hWd]; exact below_drew1 (Below.refl _ _))
 clear hWd
 replace Bg0 := Bg0.below hl; replace Bg1 := Bg1.below hl; replace HS := HS.below hl; clear hl; replace kg0_1 := Bg0.at 1 rfl; replace zg0_1 := Bg0.frozen 1; replace kg0_2 := Bg0.at 2 rfl; replace zg0_2 := Bg0.frozen 2; replace kg0_3 := Bg0.at 3 rfl; replace zg0_3 := Bg0.frozen 3; replace kg0_39 := Bg0.at 39 rfl; replace kg0_40 := Bg0.at 40 rfl
 refine pu 0 22 (.pointer (some ⟨g0, 1, none⟩)) 1 rfl rfl (by kernel_rfl) (fun _ _ _ h => h) (by rfl) (fun _ => by kernel_rfl) rfl ?_
 refine pu 1 23 (.pointer (some ⟨g0, 2, none⟩)) 3 rfl rfl (by kernel_rfl) (fun _ _ _ h => h) (by rfl) (fun _ => by kernel_rfl) rfl ?_
 refine pu 2 24 (.pointer (some ⟨g0, 3, none⟩)) 7 rfl rfl (by kernel_rfl) (fun _ _ _ h => h) (by rfl) (fun _ => by kernel_rfl) rfl ?_
 refine pu 3 25 (.pointer (some ⟨g0, 1, none⟩)) 15 rfl rfl (by kernel_rfl) (fun _ _ _ h => h) (by rfl) (fun _ => by kernel_rfl) rfl ?_
 refine pu 4 26 (.pointer (some ⟨g0, 1, none⟩)) 31 rfl rfl (by kernel_rfl) (fun _ _ _ h => h) (by rfl) (fun _ => by kernel_rfl) rfl ?_
 refine pu 6 28 (.pointer (some ⟨g0, 39, none⟩)) 95 rfl rfl (by kernel_rfl) (fun _ _ _ h => h) (by rfl) (fun _ => by kernel_rfl) rfl ?_
 refine pu 10 32 (.pointer (some ⟨g0, 2, none⟩)) 1119 rfl rfl (by kernel_rfl) (fun _ _ _ h => h) (by rfl) (fun _ => by kernel_rfl) rfl ?_
 refine pu 11 33 (.pointer (some ⟨g0, 2, none⟩)) 3167 rfl rfl (by kernel_rfl) (fun _ _ _ h => h) (by rfl) (fun _ => by kernel_rfl) rfl ?_
 refine pu 13 35 (.pointer (some ⟨g0, 40, none⟩)) 11359 rfl rfl (by kernel_rfl) (fun _ _ _ h => h) (by rfl) (fun _ => by kernel_rfl) rfl ?_
 refine norm_ (a' := ?_) ?_ ?_
 rotate_left
 ·simp only [Act.put, zA_, z0_, z1_, i64_w, i32_w]
  rfl
 refine take_ (i := 5) (N := some 27) (v := ?_) (a' := ?_) (bs 23 11391) rfl rfl (by kernel_rfl) (fun _ _ _ h => h) (Or.inl ⟨by rfl, ?_⟩) hHeld ?_ ?_
 rotate_left
 ·rintro w' ⟨s0, s1, s2, s3⟩
  go_simp
  with_reducible rfl
 rotate_left
 ·simp only [Act.put, zA_, z0_, z1_, i64_w, i32_w]
  rfl
 refine take_ (i := 7) (N := some 29) (v := ?_) (a' := ?_) (bs 23 11519) rfl rfl (by kernel_rfl) (fun _ _ _ h => h) (Or.inl ⟨by rfl, ?_⟩) hHeld ?_ ?_
 rotate_left
 ·rintro w' ⟨s0, s1, s2, s3⟩
  go_simp
  with_reducible rfl
 rotate_left
 ·simp only [Act.put, zA_, z0_, z1_, i64_w, i32_w]
  rfl
 refine pure_ (i := 8) (N := some 30) (v := ?_) (a' := ?_) (bs 23 11775) rfl rfl (by kernel_rfl) (fun _ _ _ h => h) (Or.inl ⟨by rfl, ?_⟩) ?_ ?_
 rotate_left
 ·intro w'
  go_simp
  with_reducible rfl
 rotate_left
 ·simp only [Act.put, zA_, z0_, z1_, i64_w, i32_w]
  rfl
 refine take_ (i := 12) (N := some 34) (v := ?_) (a' := ?_) (bs 23 15871) rfl rfl (by kernel_rfl) (fun _ _ _ h => h) (Or.inl ⟨by rfl, ?_⟩) hHeld ?_ ?_
 rotate_left
 ·rintro w' ⟨s0, s1, s2, s3⟩
  go_simp
  with_reducible rfl
 rotate_left
 ·simp only [Act.put, zA_, z0_, z1_, i64_w, i32_w]
  rfl
 refine take_ (i := 14) (N := some 36) (v := ?_) (a' := ?_) (bs 23 32255) rfl rfl (by kernel_rfl) (fun _ _ _ h => h) (Or.inl ⟨by rfl, ?_⟩) hHeld ?_ ?_
 rotate_left
 ·rintro w' ⟨s0, s1, s2, s3⟩
  go_simp
  with_reducible rfl
 rotate_left
 ·simp only [Act.put, zA_, z0_, z1_, i64_w, i32_w]
  rfl
 refine pure_ (i := 15) (N := some 37) (v := ?_) (a' := ?_) (bs 23 65023) rfl rfl (by kernel_rfl) (fun _ _ _ h => h) (Or.inl ⟨by rfl, ?_⟩) ?_ ?_
 rotate_left
 ·intro w'
  go_simp
  with_reducible rfl
 rotate_left
 ·simp only [Act.put, zA_, z0_, z1_, i64_w, i32_w]
  rfl
 refine one_ (i := 9) (N := some 31) (bs 23 65535) rfl rfl (by kernel_rfl) (by decide) (fun K hK => ?_)
 refine goes_ Try.func24 (by kernel_rfl) rfl #[.int .u64 (max c1 c39)] (by rfl) rfl rfl (by simp only [List.map_toArray, List.map_cons, List.map_nil]; rfl) ?_
 with_reducible refine (reno_Held.C (max c1 c39) _).mono ?_
 rintro e w5 ⟨rfl, hd⟩
 refine ⟨_, rfl, ?_⟩
 have hl := hd.below
 clear hd
 replace Bg0 := Bg0.below hl; replace Bg1 := Bg1.below hl; replace HS := HS.below hl; clear hl; replace kg0_1 := Bg0.at 1 rfl; replace zg0_1 := Bg0.frozen 1; replace kg0_2 := Bg0.at 2 rfl; replace zg0_2 := Bg0.frozen 2; replace kg0_3 := Bg0.at 3 rfl; replace zg0_3 := Bg0.frozen 3; replace kg0_39 := Bg0.at 39 rfl; replace kg0_40 := Bg0.at 40 rfl
 refine hK.out _ _ ⟨((Bg0.cell 1).trans rfl), ((Bg0.cell 39).trans rfl), ((Bg0.cell 2).trans rfl), ((Bg0.cell 40).trans rfl)⟩ (fun hHeld => ?_)
 clear hK K
 refine norm_ (a' := ?_) ?_ ?_
 rotate_left
 ·show Act.put _ (some 31) _ = _
  simp only [Act.put, zA_, z0_, z1_, i64_w, i32_w]
  rfl
 refine one_ (i := 16) (N := some 38) (bs 23 131071) rfl rfl (by kernel_rfl) (by decide) (fun K hK => ?_)
 refine goes_ Try.func24 (by kernel_rfl) rfl #[.int .u64 (max c2 c40)] (by rfl) rfl rfl (by simp only [List.map_toArray, List.map_cons, List.map_nil]; rfl) ?_
 with_reducible refine (reno_Held.C (max c2 c40) _).mono ?_
 rintro e w6 ⟨rfl, hd⟩
 refine ⟨_, rfl, ?_⟩
 have hl := hd.below
 clear hd
 replace Bg0 := Bg0.below hl; replace Bg1 := Bg1.below hl; replace HS := HS.below hl; clear hl; replace kg0_1 := Bg0.at 1 rfl; replace zg0_1 := Bg0.frozen 1; replace kg0_2 := Bg0.at 2 rfl; replace zg0_2 := Bg0.frozen 2; replace kg0_3 := Bg0.at 3 rfl; replace zg0_3 := Bg0.frozen 3; replace kg0_39 := Bg0.at 39 rfl; replace kg0_40 := Bg0.at 40 rfl
 refine hK.out _ _ ⟨((Bg0.cell 1).trans rfl), ((Bg0.cell 39).trans rfl), ((Bg0.cell 2).trans rfl), ((Bg0.cell 40).trans rfl)⟩ (fun hHeld => ?_)
 clear hK K
 refine norm_ (a' := ?_) ?_ ?_
 rotate_left
 ·show Act.put _ (some 38) _ = _
  simp only [Act.put, zA_, z0_, z1_, i64_w, i32_w]
  rfl
 refine pu 17 39 (.pointer (some ⟨g0, 1, none⟩)) 262143 rfl rfl (by kernel_rfl) (fun _ _ _ h => h) (by rfl) (fun _ => by kernel_rfl) rfl ?_
 refine norm_ (a' := ?_) ?_ ?_
 rotate_left
 ·simp only [Act.put, zA_, z0_, z1_, i64_w, i32_w]
  rfl
 refine last_ (i := 18) (N := none) (bs 23 524287) rfl rfl (by kernel_rfl) (by decide) (fun K hK => ?_)
 refine skip_ (w1 := ?_) (by rfl) rfl ?_ ?_
 rotate_left
 ·go_simp
  rfl
 refine hK.out _ _ ?_
 clear hK K
 refine pu 19 40 (.pointer (some ⟨g0, 2, none⟩)) 1048575 rfl rfl (by kernel_rfl) (fun _ _ _ h => h) (by rfl) (fun _ => by kernel_rfl) rfl ?_
 refine norm_ (a' := ?_) ?_ ?_
 rotate_left
 ·simp only [Act.put, zA_, z0_, z1_, i64_w, i32_w]
  rfl
 refine last_ (i := 20) (N := none) (bs 23 2097151) rfl rfl (by kernel_rfl) (by decide) (fun K hK => ?_)
 refine skip_ (w1 := ?_) (by rfl) rfl ?_ ?_
 rotate_left
 ·go_simp
  rfl
 refine hK.out _ _ ?_
 clear hK K
 refine pu 21 41 (.pointer (some ⟨g0, 3, none⟩)) 4194303 rfl rfl (by kernel_rfl) (fun _ _ _ h => h) (by rfl) (fun _ => by kernel_rfl) rfl ?_
 refine norm_ (a' := ?_) ?_ ?_
 rotate_left
 ·simp only [Act.put, zA_, z0_, z1_, i64_w, i32_w]
  rfl
 refine last_ (i := 22) (N := none) (bs 23 8388607) rfl rfl (by kernel_rfl) (by decide) (fun K hK => ?_)
 refine skip_ (w1 := ?_) (by rfl) rfl ?_ ?_
 rotate_left
 ·go_simp
  rfl
 refine hK.out _ _ ?_
 clear hK K
 refine done_ (by kernel_rfl) ?_
 refine letter ?_
 intro w7 hW
 have Bn_ : Blk w7 g0 36 (K1 (uHeld (max c1 c39)) (uHeld (max c2 c40)) 0 c4 c5 c6 c7 c8 c9 c10 c11 c39 c40) := (by rw [hW]; (repeat (first | (with_reducible refine Blk.drewN ?_ _) | (with_reducible refine Blk.drew ?_))); refine Blk.set (l := (K1 (uHeld (max c1 c39)) (uHeld (max c2 c40)) c3 c4 c5 c6 c7 c8 c9 c10 c11 c39 c40)) ?_ 3 _ rfl; (repeat (first | (with_reducible refine Blk.drewN ?_ _) | (with_reducible refine Blk.drew ?_))); refine Blk.set (l := (K1 (uHeld (max c1 c39)) c2 c3 c4 c5 c6 c7 c8 c9 c10 c11 c39 c40)) ?_ 2 _ rfl; (repeat (first | (with_reducible refine Blk.drewN ?_ _) | (with_reducible refine Blk.drew ?_))); refine Blk.set (l := (K1 c1 c2 c3 c4 c5 c6 c7 c8 c9 c10 c11 c39 c40)) ?_ 1 _ rfl; (repeat (first | (with_reducible refine Blk.drewN ?_ _) | (with_reducible refine Blk.drew ?_))); exact Bg0)
 replace Bg0 := Bn_
 clear Bn_
 have Bn_ : Blk w7 g1 36 K0 := (by rw [hW]; (repeat (first | (with_reducible refine Blk.drewN ?_ _) | (with_reducible refine Blk.drew ?_))); refine Blk.setFar ?_ Ng1_g0; (repeat (first | (with_reducible refine Blk.drewN ?_ _) | (with_reducible refine Blk.drew ?_))); refine Blk.setFar ?_ Ng1_g0; (repeat (first | (with_reducible refine Blk.drewN ?_ _) | (with_reducible refine Blk.drew ?_))); refine Blk.setFar ?_ Ng1_g0; (repeat (first | (with_reducible refine Blk.drewN ?_ _) | (with_reducible refine Blk.drew ?_))); exact Bg1)
 replace Bg1 := Bn_
 clear Bn_
 have HS_ : Since w w7 := (by rw [hW]; repeat (first | (with_reducible exact HS) | (with_reducible refine Since.drewN ?_ _) | (with_reducible refine Since.drew ?_) | (with_reducible refine Since.set ?_ GEg0)))
 replace HS := HS_
 clear HS_ hW
 clear kg0_1 zg0_1 kg0_2 zg0_2 kg0_3 zg0_3 kg0_39 kg0_40
 go_wp2_with (first | (refine seg_store rfl rfl 23 (.tmp 42) (.const (.int .u64 0)) rfl g0 39 [.int .u64 0] (K1 (uHeld (max c1 c39)) (uHeld (max c2 c40)) 0 c4 c5 c6 c7 c8 c9 c10 c11 0 c40) (.int .u64 0) rfl rfl rfl Bg0 (by kernel_rfl) (nle rfl) rfl rfl ?_; intro w8 hn hw; replace Bg1 := Bg1.grown hw Ng1_g0; replace HS := HS.grown hw GEg0; replace Bg0 := hn; clear hw; clear hn) | (refine seg_store rfl rfl 23 (.tmp 43) (.const (.int .u64 0)) rfl g0 40 [.int .u64 0] (K1 (uHeld (max c1 c39)) (uHeld (max c2 c40)) 0 c4 c5 c6 c7 c8 c9 c10 c11 0 0) (.int .u64 0) rfl rfl rfl Bg0 (by kernel_rfl) (nle rfl) rfl rfl ?_; intro w9 hn hw; replace Bg1 := Bg1.grown hw Ng1_g0; replace HS := HS.grown hw GEg0; replace Bg0 := hn; clear hw; clear hn) | (refine seg_load rfl (N := 44) rfl 36 (.tmp 1) rfl g0 0 (K1 (uHeld (max c1 c39)) (uHeld (max c2 c40)) 0 c4 c5 c6 c7 c8 c9 c10 c11 0 0) rfl Bg0 rfl Try.underlying36 rfl (by kernel_rfl) ?_) | (refine seg_store rfl rfl 36 (.tmp 2) (.tmp 44) rfl g1 0 (K1 (uHeld (max c1 c39)) (uHeld (max c2 c40)) 0 c4 c5 c6 c7 c8 c9 c10 c11 0 0) (K1 (uHeld (max c1 c39)) (uHeld (max c2 c40)) 0 c4 c5 c6 c7 c8 c9 c10 c11 0 0) (.agg (K1 (uHeld (max c1 c39)) (uHeld (max c2 c40)) 0 c4 c5 c6 c7 c8 c9 c10 c11 0 0).toArray) rfl rfl rfl Bg1 (by kernel_rfl) (nle rfl) rfl rfl ?_; intro w10 hn hw; replace Bg0 := Bg0.grown hw Ng1_g0.symm; replace HS := HS.grown hw GEg1; replace Bg1 := hn; clear hw; clear hn))
 all_goals exact bodyPost_ret (results_cell1 rfl _ _ g1 36 (K1 (uHeld (max c1 c39)) (uHeld (max c2 c40)) 0 c4 c5 c6 c7 c8 c9 c10 c11 0 0) _ rfl Bg1 Try.underlying36 rfl (by kernel_rfl)) rfl ⟨_, _, _, _, _, _, _, _, _, _, _, _, _, rfl, ⟨(uHeld_in _), hp_c5, (uHeld_w _), (uHeld_w _), (by decide), Wc4, Wc6, Wc7, Wc8, Wc9, Wc10, Wc11, (by decide), (by decide)⟩, (undo_ge hb_c1), HS.out⟩
theorem undoS2 (c5 c6 c7 c8 c9 c10 c11 c12 c13 c14 c16 c17 c18 c19 c39 c40 : Int) (c15 : Bool) (hc : G2 c5 c6 c7 c8 c9 c10 c11 c12 c13 c14 c16 c17 c18 c19 c39 c40)  (w : World) :
  Calls Try.prog 18 #[.agg (K2 c5 c6 c7 c8 c9 c10 c11 c12 c13 c14 c15 c16 c17 c18 c19 c39 c40).toArray] w fun e w' => S2 (fun x y => c12 ≤ x) w e w' := by
 have hu36 := Try.underlying36
 obtain ⟨hb_c12, hp_c5, Wc6, Wc7, Wc8, Wc9, Wc10, Wc11, Wc12, Wc13, Wc14, Wc16, Wc17, Wc18, Wc19, Wc39, Wc40⟩ := hc
 have HS := Since.refl w
 go_enter Try.func18, Try.ntmps18
 go_wp2_with (first | (refine seg_new rfl (N := 1) rfl (K2 c5 c6 c7 c8 c9 c10 c11 c12 c13 c14 c15 c16 c17 c18 c19 c39 c40) 36 ?hr ?_; (case hr => rfl); intro g0 hg w1 hn hl; have GEg0 := ge_new HS hg; clear hg; replace HS := HS.below hl; have Bg0 := hn; clear hl hn) | (refine seg_new rfl (N := 2) rfl K0 36 ?hr ?_; (case hr => rfl); intro g1 hg w2 hn hl; have Ng1_g0 := ne_new Bg0 hg; have GEg1 := ge_new HS hg; clear hg; replace Bg0 := Bg0.below hl; replace HS := HS.below hl; have Bg1 := hn; clear hl hn; have kg0_0 := Bg0.at 0 rfl) | ((go_at_call 36); (with_reducible refine (parts_cubic g0 _ ((Bg0.cell 0).trans rfl)).mono ?_); rintro e w3 ⟨rfl, hd⟩; have hl := hd.below; clear hd; replace Bg0 := Bg0.below hl; replace Bg1 := Bg1.below hl; replace HS := HS.below hl; clear hl; clear kg0_0; have kg0_12 := Bg0.at 12 rfl; have zg0_12 := Bg0.frozen 12; have kg0_13 := Bg0.at 13 rfl; have zg0_13 := Bg0.frozen 13; have kg0_14 := Bg0.at 14 rfl; have zg0_14 := Bg0.frozen 14; have kg0_39 := Bg0.at 39 rfl; have kg0_40 := Bg0.at 40 rfl))
 refine start_ (n := 23) (S := fun w' => w'.cell? ⟨g0, 12, none⟩ = some (.int .u64 c12) ∧ w'.cell? ⟨g0, 39, none⟩ = some (.int .u64 c39) ∧ w'.cell? ⟨g0, 13, none⟩ = some (.int .u64 c13) ∧ w'.cell? ⟨g0, 40, none⟩ = some (.int .u64 c40)) (ds := [18, 20, 22]) (bs 23 0) (by kernel_rfl) rfl rfl ⟨((Bg0.drew.cell 12).trans rfl), ((Bg0.drew.cell 39).trans rfl), ((Bg0.drew.cell 13).trans rfl), ((Bg0.drew.cell 40).trans rfl)⟩ (fun hHeld => ?_)
 generalize hWd : World.drew w3 = w4 at hHeld ⊢
 have hl : Below w3.heap.size w3 w4 := (by rw [← hWd]; exact below_drew1 (Below.refl _ _))
 clear hWd
 replace Bg0 := Bg0.below hl; replace Bg1 := Bg1.below hl; replace HS := HS.below hl; clear hl; replace kg0_12 := Bg0.at 12 rfl; replace zg0_12 := Bg0.frozen 12; replace kg0_13 := Bg0.at 13 rfl; replace zg0_13 := Bg0.frozen 13; replace kg0_14 := Bg0.at 14 rfl; replace zg0_14 := Bg0.frozen 14; replace kg0_39 := Bg0.at 39 rfl; replace kg0_40 := Bg0.at 40 rfl
 refine pu 0 22 (.pointer (some ⟨g0, 12, none⟩)) 1 rfl rfl (by kernel_rfl) (fun _ _ _ h => h) (by rfl) (fun _ => by kernel_rfl) rfl ?_
 refine pu 1 23 (.pointer (some ⟨g0, 13, none⟩)) 3 rfl rfl (by kernel_rfl) (fun _ _ _ h => h) (by rfl) (fun _ => by kernel_rfl) rfl ?_
 refine pu 2 24 (.pointer (some ⟨g0, 14, none⟩)) 7 rfl rfl (by kernel_rfl) (fun _ _ _ h => h) (by rfl) (fun _ => by kernel_rfl) rfl ?_
 refine pu 3 25 (.pointer (some ⟨g0, 12, none⟩)) 15 rfl rfl (by kernel_rfl) (fun _ _ _ h => h) (by rfl) (fun _ => by kernel_rfl) rfl ?_
 refine pu 4 26 (.pointer (some ⟨g0, 12, none⟩)) 31 rfl rfl (by kernel_rfl) (fun _ _ _ h => h) (by rfl) (fun _ => by kernel_rfl) rfl ?_
 refine pu 6 28 (.pointer (some ⟨g0, 39, none⟩)) 95 rfl rfl (by kernel_rfl) (fun _ _ _ h => h) (by rfl) (fun _ => by kernel_rfl) rfl ?_
 refine pu 10 32 (.pointer (some ⟨g0, 13, none⟩)) 1119 rfl rfl (by kernel_rfl) (fun _ _ _ h => h) (by rfl) (fun _ => by kernel_rfl) rfl ?_
 refine pu 11 33 (.pointer (some ⟨g0, 13, none⟩)) 3167 rfl rfl (by kernel_rfl) (fun _ _ _ h => h) (by rfl) (fun _ => by kernel_rfl) rfl ?_
 refine pu 13 35 (.pointer (some ⟨g0, 40, none⟩)) 11359 rfl rfl (by kernel_rfl) (fun _ _ _ h => h) (by rfl) (fun _ => by kernel_rfl) rfl ?_
 refine norm_ (a' := ?_) ?_ ?_
 rotate_left
 ·simp only [Act.put, zA_, z0_, z1_, i64_w, i32_w]
  rfl
 refine take_ (i := 5) (N := some 27) (v := ?_) (a' := ?_) (bs 23 11391) rfl rfl (by kernel_rfl) (fun _ _ _ h => h) (Or.inl ⟨by rfl, ?_⟩) hHeld ?_ ?_
 rotate_left
 ·rintro w' ⟨s0, s1, s2, s3⟩
  go_simp
  with_reducible rfl
 rotate_left
 ·simp only [Act.put, zA_, z0_, z1_, i64_w, i32_w]
  rfl
 refine take_ (i := 7) (N := some 29) (v := ?_) (a' := ?_) (bs 23 11519) rfl rfl (by kernel_rfl) (fun _ _ _ h => h) (Or.inl ⟨by rfl, ?_⟩) hHeld ?_ ?_
 rotate_left
 ·rintro w' ⟨s0, s1, s2, s3⟩
  go_simp
  with_reducible rfl
 rotate_left
 ·simp only [Act.put, zA_, z0_, z1_, i64_w, i32_w]
  rfl
 refine pure_ (i := 8) (N := some 30) (v := ?_) (a' := ?_) (bs 23 11775) rfl rfl (by kernel_rfl) (fun _ _ _ h => h) (Or.inl ⟨by rfl, ?_⟩) ?_ ?_
 rotate_left
 ·intro w'
  go_simp
  with_reducible rfl
 rotate_left
 ·simp only [Act.put, zA_, z0_, z1_, i64_w, i32_w]
  rfl
 refine take_ (i := 12) (N := some 34) (v := ?_) (a' := ?_) (bs 23 15871) rfl rfl (by kernel_rfl) (fun _ _ _ h => h) (Or.inl ⟨by rfl, ?_⟩) hHeld ?_ ?_
 rotate_left
 ·rintro w' ⟨s0, s1, s2, s3⟩
  go_simp
  with_reducible rfl
 rotate_left
 ·simp only [Act.put, zA_, z0_, z1_, i64_w, i32_w]
  rfl
 refine take_ (i := 14) (N := some 36) (v := ?_) (a' := ?_) (bs 23 32255) rfl rfl (by kernel_rfl) (fun _ _ _ h => h) (Or.inl ⟨by rfl, ?_⟩) hHeld ?_ ?_
 rotate_left
 ·rintro w' ⟨s0, s1, s2, s3⟩
  go_simp
  with_reducible rfl
 rotate_left
 ·simp only [Act.put, zA_, z0_, z1_, i64_w, i32_w]
  rfl
 refine pure_ (i := 15) (N := some 37) (v := ?_) (a' := ?_) (bs 23 65023) rfl rfl (by kernel_rfl) (fun _ _ _ h => h) (Or.inl ⟨by rfl, ?_⟩) ?_ ?_
 rotate_left
 ·intro w'
  go_simp
  with_reducible rfl
 rotate_left
 ·simp only [Act.put, zA_, z0_, z1_, i64_w, i32_w]
  rfl
 refine one_ (i := 9) (N := some 31) (bs 23 65535) rfl rfl (by kernel_rfl) (by decide) (fun K hK => ?_)
 refine goes_ Try.func24 (by kernel_rfl) rfl #[.int .u64 (max c12 c39)] (by rfl) rfl rfl (by simp only [List.map_toArray, List.map_cons, List.map_nil]; rfl) ?_
 with_reducible refine (reno_Held.C (max c12 c39) _).mono ?_
 rintro e w5 ⟨rfl, hd⟩
 refine ⟨_, rfl, ?_⟩
 have hl := hd.below
 clear hd
 replace Bg0 := Bg0.below hl; replace Bg1 := Bg1.below hl; replace HS := HS.below hl; clear hl; replace kg0_12 := Bg0.at 12 rfl; replace zg0_12 := Bg0.frozen 12; replace kg0_13 := Bg0.at 13 rfl; replace zg0_13 := Bg0.frozen 13; replace kg0_14 := Bg0.at 14 rfl; replace zg0_14 := Bg0.frozen 14; replace kg0_39 := Bg0.at 39 rfl; replace kg0_40 := Bg0.at 40 rfl
 refine hK.out _ _ ⟨((Bg0.cell 12).trans rfl), ((Bg0.cell 39).trans rfl), ((Bg0.cell 13).trans rfl), ((Bg0.cell 40).trans rfl)⟩ (fun hHeld => ?_)
 clear hK K
 refine norm_ (a' := ?_) ?_ ?_
 rotate_left
 ·show Act.put _ (some 31) _ = _
  simp only [Act.put, zA_, z0_, z1_, i64_w, i32_w]
  rfl
 refine one_ (i := 16) (N := some 38) (bs 23 131071) rfl rfl (by kernel_rfl) (by decide) (fun K hK => ?_)
 refine goes_ Try.func24 (by kernel_rfl) rfl #[.int .u64 (max c13 c40)] (by rfl) rfl rfl (by simp only [List.map_toArray, List.map_cons, List.map_nil]; rfl) ?_
 with_reducible refine (reno_Held.C (max c13 c40) _).mono ?_
 rintro e w6 ⟨rfl, hd⟩
 refine ⟨_, rfl, ?_⟩
 have hl := hd.below
 clear hd
 replace Bg0 := Bg0.below hl; replace Bg1 := Bg1.below hl; replace HS := HS.below hl; clear hl; replace kg0_12 := Bg0.at 12 rfl; replace zg0_12 := Bg0.frozen 12; replace kg0_13 := Bg0.at 13 rfl; replace zg0_13 := Bg0.frozen 13; replace kg0_14 := Bg0.at 14 rfl; replace zg0_14 := Bg0.frozen 14; replace kg0_39 := Bg0.at 39 rfl; replace kg0_40 := Bg0.at 40 rfl
 refine hK.out _ _ ⟨((Bg0.cell 12).trans rfl), ((Bg0.cell 39).trans rfl), ((Bg0.cell 13).trans rfl), ((Bg0.cell 40).trans rfl)⟩ (fun hHeld => ?_)
 clear hK K
 refine norm_ (a' := ?_) ?_ ?_
 rotate_left
 ·show Act.put _ (some 38) _ = _
  simp only [Act.put, zA_, z0_, z1_, i64_w, i32_w]
  rfl
 refine pu 17 39 (.pointer (some ⟨g0, 12, none⟩)) 262143 rfl rfl (by kernel_rfl) (fun _ _ _ h => h) (by rfl) (fun _ => by kernel_rfl) rfl ?_
 refine norm_ (a' := ?_) ?_ ?_
 rotate_left
 ·simp only [Act.put, zA_, z0_, z1_, i64_w, i32_w]
  rfl
 refine last_ (i := 18) (N := none) (bs 23 524287) rfl rfl (by kernel_rfl) (by decide) (fun K hK => ?_)
 refine skip_ (w1 := ?_) (by rfl) rfl ?_ ?_
 rotate_left
 ·go_simp
  rfl
 refine hK.out _ _ ?_
 clear hK K
 refine pu 19 40 (.pointer (some ⟨g0, 13, none⟩)) 1048575 rfl rfl (by kernel_rfl) (fun _ _ _ h => h) (by rfl) (fun _ => by kernel_rfl) rfl ?_
 refine norm_ (a' := ?_) ?_ ?_
 rotate_left
 ·simp only [Act.put, zA_, z0_, z1_, i64_w, i32_w]
  rfl
 refine last_ (i := 20) (N := none) (bs 23 2097151) rfl rfl (by kernel_rfl) (by decide) (fun K hK => ?_)
 refine skip_ (w1 := ?_) (by rfl) rfl ?_ ?_
 rotate_left
 ·go_simp
  rfl
 refine hK.out _ _ ?_
 clear hK K
 refine pu 21 41 (.pointer (some ⟨g0, 14, none⟩)) 4194303 rfl rfl (by kernel_rfl) (fun _ _ _ h => h) (by rfl) (fun _ => by kernel_rfl) rfl ?_
 refine norm_ (a' := ?_) ?_ ?_
 rotate_left
 ·simp only [Act.put, zA_, z0_, z1_, i64_w, i32_w]
  rfl
 refine last_ (i := 22) (N := none) (bs 23 8388607) rfl rfl (by kernel_rfl) (by decide) (fun K hK => ?_)
 refine skip_ (w1 := ?_) (by rfl) rfl ?_ ?_
 rotate_left
 ·go_simp
  rfl
 refine hK.out _ _ ?_
 clear hK K
 refine done_ (by kernel_rfl) ?_
 refine letter ?_
 intro w7 hW
 have Bn_ : Blk w7 g0 36 (K2 c5 c6 c7 c8 c9 c10 c11 (uHeld (max c12 c39)) (uHeld (max c13 c40)) 0 c15 c16 c17 c18 c19 c39 c40) := (by rw [hW]; (repeat (first | (with_reducible refine Blk.drewN ?_ _) | (with_reducible refine Blk.drew ?_))); refine Blk.set (l := (K2 c5 c6 c7 c8 c9 c10 c11 (uHeld (max c12 c39)) (uHeld (max c13 c40)) c14 c15 c16 c17 c18 c19 c39 c40)) ?_ 14 _ rfl; (repeat (first | (with_reducible refine Blk.drewN ?_ _) | (with_reducible refine Blk.drew ?_))); refine Blk.set (l := (K2 c5 c6 c7 c8 c9 c10 c11 (uHeld (max c12 c39)) c13 c14 c15 c16 c17 c18 c19 c39 c40)) ?_ 13 _ rfl; (repeat (first | (with_reducible refine Blk.drewN ?_ _) | (with_reducible refine Blk.drew ?_))); refine Blk.set (l := (K2 c5 c6 c7 c8 c9 c10 c11 c12 c13 c14 c15 c16 c17 c18 c19 c39 c40)) ?_ 12 _ rfl; (repeat (first | (with_reducible refine Blk.drewN ?_ _) | (with_reducible refine Blk.drew ?_))); exact Bg0)
 replace Bg0 := Bn_
 clear Bn_
 have Bn_ : Blk w7 g1 36 K0 := (by rw [hW]; (repeat (first | (with_reducible refine Blk.drewN ?_ _) | (with_reducible refine Blk.drew ?_))); refine Blk.setFar ?_ Ng1_g0; (repeat (first | (with_reducible refine Blk.drewN ?_ _) | (with_reducible refine Blk.drew ?_))); refine Blk.setFar ?_ Ng1_g0; (repeat (first | (with_reducible refine Blk.drewN ?_ _) | (with_reducible refine Blk.drew ?_))); refine Blk.setFar ?_ Ng1_g0; (repeat (first | (with_reducible refine Blk.drewN ?_ _) | (with_reducible refine Blk.drew ?_))); exact Bg1)
 replace Bg1 := Bn_
 clear Bn_
 have HS_ : Since w w7 := (by rw [hW]; repeat (first | (with_reducible exact HS) | (with_reducible refine Since.drewN ?_ _) | (with_reducible refine Since.drew ?_) | (with_reducible refine Since.set ?_ GEg0)))
 replace HS := HS_
 clear HS_ hW
 clear kg0_12 zg0_12 kg0_13 zg0_13 kg0_14 zg0_14 kg0_39 kg0_40
 go_wp2_with (first | (refine seg_store rfl rfl 23 (.tmp 42) (.const (.int .u64 0)) rfl g0 39 [.int .u64 0] (K2 c5 c6 c7 c8 c9 c10 c11 (uHeld (max c12 c39)) (uHeld (max c13 c40)) 0 c15 c16 c17 c18 c19 0 c40) (.int .u64 0) rfl rfl rfl Bg0 (by kernel_rfl) (nle rfl) rfl rfl ?_; intro w8 hn hw; replace Bg1 := Bg1.grown hw Ng1_g0; replace HS := HS.grown hw GEg0; replace Bg0 := hn; clear hw; clear hn) | (refine seg_store rfl rfl 23 (.tmp 43) (.const (.int .u64 0)) rfl g0 40 [.int .u64 0] (K2 c5 c6 c7 c8 c9 c10 c11 (uHeld (max c12 c39)) (uHeld (max c13 c40)) 0 c15 c16 c17 c18 c19 0 0) (.int .u64 0) rfl rfl rfl Bg0 (by kernel_rfl) (nle rfl) rfl rfl ?_; intro w9 hn hw; replace Bg1 := Bg1.grown hw Ng1_g0; replace HS := HS.grown hw GEg0; replace Bg0 := hn; clear hw; clear hn) | (refine seg_load rfl (N := 44) rfl 36 (.tmp 1) rfl g0 0 (K2 c5 c6 c7 c8 c9 c10 c11 (uHeld (max c12 c39)) (uHeld (max c13 c40)) 0 c15 c16 c17 c18 c19 0 0) rfl Bg0 rfl Try.underlying36 rfl (by kernel_rfl) ?_) | (refine seg_store rfl rfl 36 (.tmp 2) (.tmp 44) rfl g1 0 (K2 c5 c6 c7 c8 c9 c10 c11 (uHeld (max c12 c39)) (uHeld (max c13 c40)) 0 c15 c16 c17 c18 c19 0 0) (K2 c5 c6 c7 c8 c9 c10 c11 (uHeld (max c12 c39)) (uHeld (max c13 c40)) 0 c15 c16 c17 c18 c19 0 0) (.agg (K2 c5 c6 c7 c8 c9 c10 c11 (uHeld (max c12 c39)) (uHeld (max c13 c40)) 0 c15 c16 c17 c18 c19 0 0).toArray) rfl rfl rfl Bg1 (by kernel_rfl) (nle rfl) rfl rfl ?_; intro w10 hn hw; replace Bg0 := Bg0.grown hw Ng1_g0.symm; replace HS := HS.grown hw GEg1; replace Bg1 := hn; clear hw; clear hn))
 all_goals exact bodyPost_ret (results_cell1 rfl _ _ g1 36 (K2 c5 c6 c7 c8 c9 c10 c11 (uHeld (max c12 c39)) (uHeld (max c13 c40)) 0 c15 c16 c17 c18 c19 0 0) _ rfl Bg1 Try.underlying36 rfl (by kernel_rfl)) rfl ⟨_, _, _, _, _, _, _, _, _, _, _, _, _, _, _, _, _, rfl, ⟨(uHeld_in _), hp_c5, Wc6, Wc7, Wc8, Wc9, Wc10, Wc11, (uHeld_w _), (uHeld_w _), (by decide), Wc16, Wc17, Wc18, Wc19, (by decide), (by decide)⟩, (undo_ge hb_c12), HS.out⟩
theorem undoS4 (c5 c6 c7 c8 c9 c10 c11 c30 c31 c32 c33 c34 c35 c36 c37 c39 c40 : Int) (c38 : Bool) (hc : G4 c5 c6 c7 c8 c9 c10 c11 c30 c31 c32 c33 c34 c35 c36 c37 c39 c40)  (w : World) :
  Calls Try.prog 18 #[.agg (K4 c5 c6 c7 c8 c9 c10 c11 c30 c31 c32 c33 c34 c35 c36 c37 c38 c39 c40).toArray] w fun e w' => S4 (fun x y => c30 ≤ x) w e w' := by
 have hu36 := Try.underlying36
 obtain ⟨hb_c30, hp_c5, Wc6, Wc7, Wc8, Wc9, Wc10, Wc11, Wc30, Wc31, Wc32, Wc33, Wc34, Wc35, Wc36, Wc37, Wc39, Wc40⟩ := hc
 have HS := Since.refl w
 go_enter Try.func18, Try.ntmps18
 go_wp2_with (first | (refine seg_new rfl (N := 1) rfl (K4 c5 c6 c7 c8 c9 c10 c11 c30 c31 c32 c33 c34 c35 c36 c37 c38 c39 c40) 36 ?hr ?_; (case hr => rfl); intro g0 hg w1 hn hl; have GEg0 := ge_new HS hg; clear hg; replace HS := HS.below hl; have Bg0 := hn; clear hl hn) | (refine seg_new rfl (N := 2) rfl K0 36 ?hr ?_; (case hr => rfl); intro g1 hg w2 hn hl; have Ng1_g0 := ne_new Bg0 hg; have GEg1 := ge_new HS hg; clear hg; replace Bg0 := Bg0.below hl; replace HS := HS.below hl; have Bg1 := hn; clear hl hn; have kg0_0 := Bg0.at 0 rfl) | ((go_at_call 36); (with_reducible refine (parts_prague g0 _ ((Bg0.cell 0).trans rfl)).mono ?_); rintro e w3 ⟨rfl, hd⟩; have hl := hd.below; clear hd; replace Bg0 := Bg0.below hl; replace Bg1 := Bg1.below hl; replace HS := HS.below hl; clear hl; clear kg0_0; have kg0_30 := Bg0.at 30 rfl; have zg0_30 := Bg0.frozen 30; have kg0_31 := Bg0.at 31 rfl; have zg0_31 := Bg0.frozen 31; have kg0_32 := Bg0.at 32 rfl; have zg0_32 := Bg0.frozen 32; have kg0_39 := Bg0.at 39 rfl; have kg0_40 := Bg0.at 40 rfl))
 refine start_ (n := 23) (S := fun w' => w'.cell? ⟨g0, 30, none⟩ = some (.int .u64 c30) ∧ w'.cell? ⟨g0, 39, none⟩ = some (.int .u64 c39) ∧ w'.cell? ⟨g0, 31, none⟩ = some (.int .u64 c31) ∧ w'.cell? ⟨g0, 40, none⟩ = some (.int .u64 c40)) (ds := [18, 20, 22]) (bs 23 0) (by kernel_rfl) rfl rfl ⟨((Bg0.drew.cell 30).trans rfl), ((Bg0.drew.cell 39).trans rfl), ((Bg0.drew.cell 31).trans rfl), ((Bg0.drew.cell 40).trans rfl)⟩ (fun hHeld => ?_)
 generalize hWd : World.drew w3 = w4 at hHeld ⊢
 have hl : Below w3.heap.size w3 w4 := (by rw [← hWd]; exact below_drew1 (Below.refl _ _))
 clear hWd
 replace Bg0 := Bg0.below hl; replace Bg1 := Bg1.below hl; replace HS := HS.below hl; clear hl; replace kg0_30 := Bg0.at 30 rfl; replace zg0_30 := Bg0.frozen 30; replace kg0_31 := Bg0.at 31 rfl; replace zg0_31 := Bg0.frozen 31; replace kg0_32 := Bg0.at 32 rfl; replace zg0_32 := Bg0.frozen 32; replace kg0_39 := Bg0.at 39 rfl; replace kg0_40 := Bg0.at 40 rfl
 refine pu 0 22 (.pointer (some ⟨g0, 30, none⟩)) 1 rfl rfl (by kernel_rfl) (fun _ _ _ h => h) (by rfl) (fun _ => by kernel_rfl) rfl ?_
 refine pu 1 23 (.pointer (some ⟨g0, 31, none⟩)) 3 rfl rfl (by kernel_rfl) (fun _ _ _ h => h) (by rfl) (fun _ => by kernel_rfl) rfl ?_
 refine pu 2 24 (.pointer (some ⟨g0, 32, none⟩)) 7 rfl rfl (by kernel_rfl) (fun _ _ _ h => h) (by rfl) (fun _ => by kernel_rfl) rfl ?_
 refine pu 3 25 (.pointer (some ⟨g0, 30, none⟩)) 15 rfl rfl (by kernel_rfl) (fun _ _ _ h => h) (by rfl) (fun _ => by kernel_rfl) rfl ?_
 refine pu 4 26 (.pointer (some ⟨g0, 30, none⟩)) 31 rfl rfl (by kernel_rfl) (fun _ _ _ h => h) (by rfl) (fun _ => by kernel_rfl) rfl ?_
 refine pu 6 28 (.pointer (some ⟨g0, 39, none⟩)) 95 rfl rfl (by kernel_rfl) (fun _ _ _ h => h) (by rfl) (fun _ => by kernel_rfl) rfl ?_
 refine pu 10 32 (.pointer (some ⟨g0, 31, none⟩)) 1119 rfl rfl (by kernel_rfl) (fun _ _ _ h => h) (by rfl) (fun _ => by kernel_rfl) rfl ?_
 refine pu 11 33 (.pointer (some ⟨g0, 31, none⟩)) 3167 rfl rfl (by kernel_rfl) (fun _ _ _ h => h) (by rfl) (fun _ => by kernel_rfl) rfl ?_
 refine pu 13 35 (.pointer (some ⟨g0, 40, none⟩)) 11359 rfl rfl (by kernel_rfl) (fun _ _ _ h => h) (by rfl) (fun _ => by kernel_rfl) rfl ?_
 refine norm_ (a' := ?_) ?_ ?_
 rotate_left
 ·simp only [Act.put, zA_, z0_, z1_, i64_w, i32_w]
  rfl
 refine take_ (i := 5) (N := some 27) (v := ?_) (a' := ?_) (bs 23 11391) rfl rfl (by kernel_rfl) (fun _ _ _ h => h) (Or.inl ⟨by rfl, ?_⟩) hHeld ?_ ?_
 rotate_left
 ·rintro w' ⟨s0, s1, s2, s3⟩
  go_simp
  with_reducible rfl
 rotate_left
 ·simp only [Act.put, zA_, z0_, z1_, i64_w, i32_w]
  rfl
 refine take_ (i := 7) (N := some 29) (v := ?_) (a' := ?_) (bs 23 11519) rfl rfl (by kernel_rfl) (fun _ _ _ h => h) (Or.inl ⟨by rfl, ?_⟩) hHeld ?_ ?_
 rotate_left
 ·rintro w' ⟨s0, s1, s2, s3⟩
  go_simp
  with_reducible rfl
 rotate_left
 ·simp only [Act.put, zA_, z0_, z1_, i64_w, i32_w]
  rfl
 refine pure_ (i := 8) (N := some 30) (v := ?_) (a' := ?_) (bs 23 11775) rfl rfl (by kernel_rfl) (fun _ _ _ h => h) (Or.inl ⟨by rfl, ?_⟩) ?_ ?_
 rotate_left
 ·intro w'
  go_simp
  with_reducible rfl
 rotate_left
 ·simp only [Act.put, zA_, z0_, z1_, i64_w, i32_w]
  rfl
 refine take_ (i := 12) (N := some 34) (v := ?_) (a' := ?_) (bs 23 15871) rfl rfl (by kernel_rfl) (fun _ _ _ h => h) (Or.inl ⟨by rfl, ?_⟩) hHeld ?_ ?_
 rotate_left
 ·rintro w' ⟨s0, s1, s2, s3⟩
  go_simp
  with_reducible rfl
 rotate_left
 ·simp only [Act.put, zA_, z0_, z1_, i64_w, i32_w]
  rfl
 refine take_ (i := 14) (N := some 36) (v := ?_) (a' := ?_) (bs 23 32255) rfl rfl (by kernel_rfl) (fun _ _ _ h => h) (Or.inl ⟨by rfl, ?_⟩) hHeld ?_ ?_
 rotate_left
 ·rintro w' ⟨s0, s1, s2, s3⟩
  go_simp
  with_reducible rfl
 rotate_left
 ·simp only [Act.put, zA_, z0_, z1_, i64_w, i32_w]
  rfl
 refine pure_ (i := 15) (N := some 37) (v := ?_) (a' := ?_) (bs 23 65023) rfl rfl (by kernel_rfl) (fun _ _ _ h => h) (Or.inl ⟨by rfl, ?_⟩) ?_ ?_
 rotate_left
 ·intro w'
  go_simp
  with_reducible rfl
 rotate_left
 ·simp only [Act.put, zA_, z0_, z1_, i64_w, i32_w]
  rfl
 refine one_ (i := 9) (N := some 31) (bs 23 65535) rfl rfl (by kernel_rfl) (by decide) (fun K hK => ?_)
 refine goes_ Try.func24 (by kernel_rfl) rfl #[.int .u64 (max c30 c39)] (by rfl) rfl rfl (by simp only [List.map_toArray, List.map_cons, List.map_nil]; rfl) ?_
 with_reducible refine (reno_Held.C (max c30 c39) _).mono ?_
 rintro e w5 ⟨rfl, hd⟩
 refine ⟨_, rfl, ?_⟩
 have hl := hd.below
 clear hd
 replace Bg0 := Bg0.below hl; replace Bg1 := Bg1.below hl; replace HS := HS.below hl; clear hl; replace kg0_30 := Bg0.at 30 rfl; replace zg0_30 := Bg0.frozen 30; replace kg0_31 := Bg0.at 31 rfl; replace zg0_31 := Bg0.frozen 31; replace kg0_32 := Bg0.at 32 rfl; replace zg0_32 := Bg0.frozen 32; replace kg0_39 := Bg0.at 39 rfl; replace kg0_40 := Bg0.at 40 rfl
 refine hK.out _ _ ⟨((Bg0.cell 30).trans rfl), ((Bg0.cell 39).trans rfl), ((Bg0.cell 31).trans rfl), ((Bg0.cell 40).trans rfl)⟩ (fun hHeld => ?_)
 clear hK K
 refine norm_ (a' := ?_) ?_ ?_
 rotate_left
 ·show Act.put _ (some 31) _ = _
  simp only [Act.put, zA_, z0_, z1_, i64_w, i32_w]
  rfl
 refine one_ (i := 16) (N := some 38) (bs 23 131071) rfl rfl (by kernel_rfl) (by decide) (fun K hK => ?_)
 refine goes_ Try.func24 (by kernel_rfl) rfl #[.int .u64 (max c31 c40)] (by rfl) rfl rfl (by simp only [List.map_toArray, List.map_cons, List.map_nil]; rfl) ?_
 with_reducible refine (reno_Held.C (max c31 c40) _).mono ?_
 rintro e w6 ⟨rfl, hd⟩
 refine ⟨_, rfl, ?_⟩
 have hl := hd.below
 clear hd
 replace Bg0 := Bg0.below hl; replace Bg1 := Bg1.below hl; replace HS := HS.below hl; clear hl; replace kg0_30 := Bg0.at 30 rfl; replace zg0_30 := Bg0.frozen 30; replace kg0_31 := Bg0.at 31 rfl; replace zg0_31 := Bg0.frozen 31; replace kg0_32 := Bg0.at 32 rfl; replace zg0_32 := Bg0.frozen 32; replace kg0_39 := Bg0.at 39 rfl; replace kg0_40 := Bg0.at 40 rfl
 refine hK.out _ _ ⟨((Bg0.cell 30).trans rfl), ((Bg0.cell 39).trans rfl), ((Bg0.cell 31).trans rfl), ((Bg0.cell 40).trans rfl)⟩ (fun hHeld => ?_)
 clear hK K
 refine norm_ (a' := ?_) ?_ ?_
 rotate_left
 ·show Act.put _ (some 38) _ = _
  simp only [Act.put, zA_, z0_, z1_, i64_w, i32_w]
  rfl
 refine pu 17 39 (.pointer (some ⟨g0, 30, none⟩)) 262143 rfl rfl (by kernel_rfl) (fun _ _ _ h => h) (by rfl) (fun _ => by kernel_rfl) rfl ?_
 refine norm_ (a' := ?_) ?_ ?_
 rotate_left
 ·simp only [Act.put, zA_, z0_, z1_, i64_w, i32_w]
  rfl
 refine last_ (i := 18) (N := none) (bs 23 524287) rfl rfl (by kernel_rfl) (by decide) (fun K hK => ?_)
 refine skip_ (w1 := ?_) (by rfl) rfl ?_ ?_
 rotate_left
 ·go_simp
  rfl
 refine hK.out _ _ ?_
 clear hK K
 refine pu 19 40 (.pointer (some ⟨g0, 31, none⟩)) 1048575 rfl rfl (by kernel_rfl) (fun _ _ _ h => h) (by rfl) (fun _ => by kernel_rfl) rfl ?_
 refine norm_ (a' := ?_) ?_ ?_
 rotate_left
 ·simp only [Act.put, zA_, z0_, z1_, i64_w, i32_w]
  rfl
 refine last_ (i := 20) (N := none) (bs 23 2097151) rfl rfl (by kernel_rfl) (by decide) (fun K hK => ?_)
 refine skip_ (w1 := ?_) (by rfl) rfl ?_ ?_
 rotate_left
 ·go_simp
  rfl
 refine hK.out _ _ ?_
 clear hK K
 refine pu 21 41 (.pointer (some ⟨g0, 32, none⟩)) 4194303 rfl rfl (by kernel_rfl) (fun _ _ _ h => h) (by rfl) (fun _ => by kernel_rfl) rfl ?_
 refine norm_ (a' := ?_) ?_ ?_
 rotate_left
 ·simp only [Act.put, zA_, z0_, z1_, i64_w, i32_w]
  rfl
 refine last_ (i := 22) (N := none) (bs 23 8388607) rfl rfl (by kernel_rfl) (by decide) (fun K hK => ?_)
 refine skip_ (w1 := ?_) (by rfl) rfl ?_ ?_
 rotate_left
 ·go_simp
  rfl
 refine hK.out _ _ ?_
 clear hK K
 refine done_ (by kernel_rfl) ?_
 refine letter ?_
 intro w7 hW
 have Bn_ : Blk w7 g0 36 (K4 c5 c6 c7 c8 c9 c10 c11 (uHeld (max c30 c39)) (uHeld (max c31 c40)) 0 c33 c34 c35 c36 c37 c38 c39 c40) := (by rw [hW]; (repeat (first | (with_reducible refine Blk.drewN ?_ _) | (with_reducible refine Blk.drew ?_))); refine Blk.set (l := (K4 c5 c6 c7 c8 c9 c10 c11 (uHeld (max c30 c39)) (uHeld (max c31 c40)) c32 c33 c34 c35 c36 c37 c38 c39 c40)) ?_ 32 _ rfl; (repeat (first | (with_reducible refine Blk.drewN ?_ _) | (with_reducible refine Blk.drew ?_))); refine Blk.set (l := (K4 c5 c6 c7 c8 c9 c10 c11 (uHeld (max c30 c39)) c31 c32 c33 c34 c35 c36 c37 c38 c39 c40)) ?_ 31 _ rfl; (repeat (first | (with_reducible refine Blk.drewN ?_ _) | (with_reducible refine Blk.drew ?_))); refine Blk.set (l := (K4 c5 c6 c7 c8 c9 c10 c11 c30 c31 c32 c33 c34 c35 c36 c37 c38 c39 c40)) ?_ 30 _ rfl; (repeat (first | (with_reducible refine Blk.drewN ?_ _) | (with_reducible refine Blk.drew ?_))); exact Bg0)
 replace Bg0 := Bn_
 clear Bn_
 have Bn_ : Blk w7 g1 36 K0 := (by rw [hW]; (repeat (first | (with_reducible refine Blk.drewN ?_ _) | (with_reducible refine Blk.drew ?_))); refine Blk.setFar ?_ Ng1_g0; (repeat (first | (with_reducible refine Blk.drewN ?_ _) | (with_reducible refine Blk.drew ?_))); refine Blk.setFar ?_ Ng1_g0; (repeat (first | (with_reducible refine Blk.drewN ?_ _) | (with_reducible refine Blk.drew ?_))); refine Blk.setFar ?_ Ng1_g0; (repeat (first | (with_reducible refine Blk.drewN ?_ _) | (with_reducible refine Blk.drew ?_))); exact Bg1)
 replace Bg1 := Bn_
 clear Bn_
 have HS_ : Since w w7 := (by rw [hW]; repeat (first | (with_reducible exact HS) | (with_reducible refine Since.drewN ?_ _) | (with_reducible refine Since.drew ?_) | (with_reducible refine Since.set ?_ GEg0)))
 replace HS := HS_
 clear HS_ hW
 clear kg0_30 zg0_30 kg0_31 zg0_31 kg0_32 zg0_32 kg0_39 kg0_40
 go_wp2_with (first | (refine seg_store rfl rfl 23 (.tmp 42) (.const (.int .u64 0)) rfl g0 39 [.int .u64 0] (K4 c5 c6 c7 c8 c9 c10 c11 (uHeld (max c30 c39)) (uHeld (max c31 c40)) 0 c33 c34 c35 c36 c37 c38 0 c40) (.int .u64 0) rfl rfl rfl Bg0 (by kernel_rfl) (nle rfl) rfl rfl ?_; intro w8 hn hw; replace Bg1 := Bg1.grown hw Ng1_g0; replace HS := HS.grown hw GEg0; replace Bg0 := hn; clear hw; clear hn) | (refine seg_store rfl rfl 23 (.tmp 43) (.const (.int .u64 0)) rfl g0 40 [.int .u64 0] (K4 c5 c6 c7 c8 c9 c10 c11 (uHeld (max c30 c39)) (uHeld (max c31 c40)) 0 c33 c34 c35 c36 c37 c38 0 0) (.int .u64 0) rfl rfl rfl Bg0 (by kernel_rfl) (nle rfl) rfl rfl ?_; intro w9 hn hw; replace Bg1 := Bg1.grown hw Ng1_g0; replace HS := HS.grown hw GEg0; replace Bg0 := hn; clear hw; clear hn) | (refine seg_load rfl (N := 44) rfl 36 (.tmp 1) rfl g0 0 (K4 c5 c6 c7 c8 c9 c10 c11 (uHeld (max c30 c39)) (uHeld (max c31 c40)) 0 c33 c34 c35 c36 c37 c38 0 0) rfl Bg0 rfl Try.underlying36 rfl (by kernel_rfl) ?_) | (refine seg_store rfl rfl 36 (.tmp 2) (.tmp 44) rfl g1 0 (K4 c5 c6 c7 c8 c9 c10 c11 (uHeld (max c30 c39)) (uHeld (max c31 c40)) 0 c33 c34 c35 c36 c37 c38 0 0) (K4 c5 c6 c7 c8 c9 c10 c11 (uHeld (max c30 c39)) (uHeld (max c31 c40)) 0 c33 c34 c35 c36 c37 c38 0 0) (.agg (K4 c5 c6 c7 c8 c9 c10 c11 (uHeld (max c30 c39)) (uHeld (max c31 c40)) 0 c33 c34 c35 c36 c37 c38 0 0).toArray) rfl rfl rfl Bg1 (by kernel_rfl) (nle rfl) rfl rfl ?_; intro w10 hn hw; replace Bg0 := Bg0.grown hw Ng1_g0.symm; replace HS := HS.grown hw GEg1; replace Bg1 := hn; clear hw; clear hn))
 all_goals exact bodyPost_ret (results_cell1 rfl _ _ g1 36 (K4 c5 c6 c7 c8 c9 c10 c11 (uHeld (max c30 c39)) (uHeld (max c31 c40)) 0 c33 c34 c35 c36 c37 c38 0 0) _ rfl Bg1 Try.underlying36 rfl (by kernel_rfl)) rfl ⟨_, _, _, _, _, _, _, _, _, _, _, _, _, _, _, _, _, _, rfl, ⟨(uHeld_in _), hp_c5, Wc6, Wc7, Wc8, Wc9, Wc10, Wc11, (uHeld_w _), (uHeld_w _), (by decide), Wc33, Wc34, Wc35, Wc36, Wc37, (by decide), (by decide)⟩, (undo_ge hb_c30), HS.out⟩
end Go.Proofs.Ytpgffmnbdggpnaa.PCv
end
