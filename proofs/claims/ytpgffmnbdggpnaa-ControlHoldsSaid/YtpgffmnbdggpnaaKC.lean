/- Several texts of this claim in one. -/
import Derived.Deep.DeepMust
import Derived.Test.YtpgffmnbdggpnaaKA
import Derived.Test.YtpgffmnbdggpnaaKW
import Derived.Test.YtpgffmnbdggpnaaKB
section
namespace Go.Proofs.Ytpgffmnbdggpnaa.PCv
open Go.RowKit Go.Proofs.YtpgffmnbdggpnaaW.PrintWords Go.Proofs.YtpgffmnbdggpnaaW.PrintLast Go.Proofs.YtpgffmnbdggpnaaW.PrintMore
set_option linter.unusedVariables false
set_option linter.unusedSimpArgs false
set_option maxRecDepth 100000
set_option maxHeartbeats 8000000
set_option maxHeartbeats 1000000 in
theorem parts_reno (g : Nat) (w : World) (k0 : w.cell? ⟨g, 0, none⟩ = some (.int .i64 1)) :
  Calls Try.prog 36 #[.pointer (some ⟨g, 0, none⟩)] w fun e w' => e = .returned (.tuple #[.pointer (some ⟨g, 1, none⟩), .pointer (some ⟨g, 2, none⟩), .pointer (some ⟨g, 3, none⟩)]) ∧ Drawn0 w w' := by
 have hu36 := Try.underlying36
 have hu25 := Try.underlying25
 have hu29 := Try.underlying29
 have hu34 := Try.underlying34
 go_enter Try.func36, Try.ntmps36
 go_wp2
 go_quiet (fail)
 go_wp2
 go_ret3
 exact ⟨rfl, ⟨_, rfl⟩⟩
set_option maxHeartbeats 1000000 in
theorem parts_cubic (g : Nat) (w : World) (k0 : w.cell? ⟨g, 0, none⟩ = some (.int .i64 2)) :
  Calls Try.prog 36 #[.pointer (some ⟨g, 0, none⟩)] w fun e w' => e = .returned (.tuple #[.pointer (some ⟨g, 12, none⟩), .pointer (some ⟨g, 13, none⟩), .pointer (some ⟨g, 14, none⟩)]) ∧ Drawn0 w w' := by
 have hu36 := Try.underlying36
 have hu25 := Try.underlying25
 have hu29 := Try.underlying29
 have hu34 := Try.underlying34
 go_enter Try.func36, Try.ntmps36
 go_wp2
 go_quiet (fail)
 go_wp2
 go_ret3
 exact ⟨rfl, ⟨_, rfl⟩⟩
set_option maxHeartbeats 1000000 in
theorem parts_prague (g : Nat) (w : World) (k0 : w.cell? ⟨g, 0, none⟩ = some (.int .i64 4)) :
  Calls Try.prog 36 #[.pointer (some ⟨g, 0, none⟩)] w fun e w' => e = .returned (.tuple #[.pointer (some ⟨g, 30, none⟩), .pointer (some ⟨g, 31, none⟩), .pointer (some ⟨g, 32, none⟩)]) ∧ Drawn0 w w' := by
 have hu36 := Try.underlying36
 have hu25 := Try.underlying25
 have hu29 := Try.underlying29
 have hu34 := Try.underlying34
 go_enter Try.func36, Try.ntmps36
 go_wp2
 go_quiet (fail)
 go_wp2
 go_ret3
 exact ⟨rfl, ⟨_, rfl⟩⟩
theorem finish_0 (s0 s1 s2 s3 s4 s5 s6 : Int)  (w : World) :
  Calls Try.prog 40 #[.agg #[.int .i64 s0, .int .u64 s1, .int .u64 s2, .int .u64 s3, .int .u64 s4, .int .u64 s5, .int .u64 s6]] w fun e w' => e = .returned (.agg #[.int .i64 2, .int .u64 s1, .int .u64 s2, .int .u64 s3, .int .u64 s4, .int .u64 s5, .int .u64 s6]) ∧ Below w.heap.size w w' := by
 have hu27 := Try.underlying27
 have HS := Since.refl w
 go_enter Try.func40, Try.ntmps40
 go_wp2_with (first | (refine seg_new rfl (N := 1) rfl [.int .i64 s0, .int .u64 s1, .int .u64 s2, .int .u64 s3, .int .u64 s4, .int .u64 s5, .int .u64 s6] 27 ?hr ?_; (case hr => rfl); intro g0 hg w1 hn hl; have GEg0 := ge_new HS hg; clear hg; replace HS := HS.below hl; have Bg0 := hn; clear hl hn) | (refine seg_new rfl (N := 2) rfl [.int .i64 0, .int .u64 0, .int .u64 0, .int .u64 0, .int .u64 0, .int .u64 0, .int .u64 0] 27 ?hr ?_; (case hr => rfl); intro g1 hg w2 hn hl; have Ng1_g0 := ne_new Bg0 hg; have GEg1 := ge_new HS hg; clear hg; replace Bg0 := Bg0.below hl; replace HS := HS.below hl; have Bg1 := hn; clear hl hn) | (refine seg_store rfl rfl 3 (.tmp 3) (.const (.int .i64 2)) rfl g0 0 [.int .i64 2] [.int .i64 2, .int .u64 s1, .int .u64 s2, .int .u64 s3, .int .u64 s4, .int .u64 s5, .int .u64 s6] (.int .i64 2) rfl rfl rfl Bg0 (by kernel_rfl) (nle rfl) rfl rfl ?_; intro w3 hn hw; replace Bg1 := Bg1.grown hw Ng1_g0; replace HS := HS.grown hw GEg0; replace Bg0 := hn; clear hw; clear hn) | (refine seg_load rfl (N := 4) rfl 27 (.tmp 1) rfl g0 0 [.int .i64 2, .int .u64 s1, .int .u64 s2, .int .u64 s3, .int .u64 s4, .int .u64 s5, .int .u64 s6] rfl Bg0 rfl Try.underlying27 rfl (by kernel_rfl) ?_) | (refine seg_store rfl rfl 27 (.tmp 2) (.tmp 4) rfl g1 0 [.int .i64 2, .int .u64 s1, .int .u64 s2, .int .u64 s3, .int .u64 s4, .int .u64 s5, .int .u64 s6] [.int .i64 2, .int .u64 s1, .int .u64 s2, .int .u64 s3, .int .u64 s4, .int .u64 s5, .int .u64 s6] (.agg #[.int .i64 2, .int .u64 s1, .int .u64 s2, .int .u64 s3, .int .u64 s4, .int .u64 s5, .int .u64 s6]) rfl rfl rfl Bg1 (by kernel_rfl) (nle rfl) rfl rfl ?_; intro w4 hn hw; replace Bg0 := Bg0.grown hw Ng1_g0.symm; replace HS := HS.grown hw GEg1; replace Bg1 := hn; clear hw; clear hn))
 all_goals exact bodyPost_ret (results_cell1 rfl _ _ g1 27 [.int .i64 2, .int .u64 s1, .int .u64 s2, .int .u64 s3, .int .u64 s4, .int .u64 s5, .int .u64 s6] _ rfl Bg1 Try.underlying27 rfl (by kernel_rfl)) rfl ⟨rfl, HS.out⟩
theorem reno_loss_0 (r0 r1 r2 r3 ta tn : Int) (Wr0 : W64 r0) (Wtn : W64 tn) (w : World) (h0 : (decide (ta < r2)) = false) :
  Calls Try.prog 41 #[.agg #[.int .u64 r0, .int .u64 r1, .int .u64 r2, .int .u64 r3], .int .u64 ta, .int .u64 tn] w fun e w' => e = .returned (.agg #[.int .u64 (uHeld (r0 / 2)), .int .u64 (uHeld (r0 / 2)), .int .u64 (uAdd tn 1), .int .u64 0]) ∧ Below w.heap.size w w' := by
 have hu25 := Try.underlying25
 have q0 : IntKind.u64.wrap (Int.tdiv r0 2) = r0 / 2 := wdiv Wr0 2 (by decide)
 have HS := Since.refl w
 go_enter Try.func41, Try.ntmps41
 go_wp2_with (first | (refine seg_new rfl (N := 3) rfl [.int .u64 r0, .int .u64 r1, .int .u64 r2, .int .u64 r3] 25 ?hr ?_; (case hr => rfl); intro g0 hg w1 hn hl; have GEg0 := ge_new HS hg; clear hg; replace HS := HS.below hl; have Bg0 := hn; clear hl hn) | (refine seg_new rfl (N := 6) rfl [.int .u64 0, .int .u64 0, .int .u64 0, .int .u64 0] 25 ?hr ?_; (case hr => rfl); intro g1 hg w2 hn hl; have Ng1_g0 := ne_new Bg0 hg; have GEg1 := ge_new HS hg; clear hg; replace Bg0 := Bg0.below hl; replace HS := HS.below hl; have Bg1 := hn; clear hl hn; have kg0_0 := Bg0.at 0 rfl; have kg0_2 := Bg0.at 2 rfl) | ((go_at_call 24); (with_reducible refine (reno_Held.C (r0 / 2) _).mono ?_); rintro e w3 ⟨rfl, hd⟩; have hl := hd.below; clear hd; replace Bg0 := Bg0.below hl; replace Bg1 := Bg1.below hl; replace HS := HS.below hl; clear hl; clear kg0_0 kg0_2) | ((go_at_call 25); (with_reducible refine (fix_Add.C tn 1 Wtn (by decide) _).mono ?_); rintro e w4 ⟨rfl, hd⟩; have hl := hd.below; clear hd; replace Bg0 := Bg0.below hl; replace Bg1 := Bg1.below hl; replace HS := HS.below hl; clear hl) | (refine seg_new rfl (N := 8) rfl [.int .u64 0, .int .u64 0, .int .u64 0, .int .u64 0] 25 ?hr ?_; (case hr => rfl); intro g2 hg w5 hn hl; have Ng2_g0 := ne_new Bg0 hg; have Ng2_g1 := ne_new Bg1 hg; have GEg2 := ge_new HS hg; clear hg; replace Bg0 := Bg0.below hl; replace Bg1 := Bg1.below hl; replace HS := HS.below hl; have Bg2 := hn; clear hl hn) | (refine seg_store rfl rfl 25 (.tmp 8) (.tmp 22) rfl g2 0 [.int .u64 (uHeld (r0 / 2)), .int .u64 (uHeld (r0 / 2)), .int .u64 (uAdd tn 1), .int .u64 0] [.int .u64 (uHeld (r0 / 2)), .int .u64 (uHeld (r0 / 2)), .int .u64 (uAdd tn 1), .int .u64 0] (.agg #[.int .u64 (uHeld (r0 / 2)), .int .u64 (uHeld (r0 / 2)), .int .u64 (uAdd tn 1), .int .u64 0]) rfl rfl rfl Bg2 (by kernel_rfl) (nle rfl) rfl rfl ?_; intro w6 hn hw; replace Bg0 := Bg0.grown hw Ng2_g0.symm; replace Bg1 := Bg1.grown hw Ng2_g1.symm; replace HS := HS.grown hw GEg2; replace Bg2 := hn; clear hw; clear hn) | (refine seg_load rfl (N := 23) rfl 25 (.tmp 8) rfl g2 0 [.int .u64 (uHeld (r0 / 2)), .int .u64 (uHeld (r0 / 2)), .int .u64 (uAdd tn 1), .int .u64 0] rfl Bg2 rfl Try.underlying25 rfl (by kernel_rfl) ?_) | (refine seg_load rfl (N := 24) rfl 25 (.tmp 3) rfl g0 0 [.int .u64 r0, .int .u64 r1, .int .u64 r2, .int .u64 r3] rfl Bg0 rfl Try.underlying25 rfl (by kernel_rfl) ?_) | (refine seg_load rfl (N := 26) rfl 25 (.tmp 8) rfl g2 0 [.int .u64 (uHeld (r0 / 2)), .int .u64 (uHeld (r0 / 2)), .int .u64 (uAdd tn 1), .int .u64 0] rfl Bg2 rfl Try.underlying25 rfl (by kernel_rfl) ?_) | (refine seg_store rfl rfl 25 (.tmp 6) (.tmp 26) rfl g1 0 [.int .u64 (uHeld (r0 / 2)), .int .u64 (uHeld (r0 / 2)), .int .u64 (uAdd tn 1), .int .u64 0] [.int .u64 (uHeld (r0 / 2)), .int .u64 (uHeld (r0 / 2)), .int .u64 (uAdd tn 1), .int .u64 0] (.agg #[.int .u64 (uHeld (r0 / 2)), .int .u64 (uHeld (r0 / 2)), .int .u64 (uAdd tn 1), .int .u64 0]) rfl rfl rfl Bg1 (by kernel_rfl) (nle rfl) rfl rfl ?_; intro w7 hn hw; replace Bg0 := Bg0.grown hw Ng1_g0.symm; replace Bg2 := Bg2.grown hw Ng2_g1; replace HS := HS.grown hw GEg1; replace Bg1 := hn; clear hw; clear hn) | (refine seg_load rfl (N := 27) rfl 25 (.tmp 3) rfl g0 0 [.int .u64 r0, .int .u64 r1, .int .u64 r2, .int .u64 r3] rfl Bg0 rfl Try.underlying25 rfl (by kernel_rfl) ?_) | (refine seg_store rfl rfl 25 (.tmp 6) (.tmp 27) rfl g1 0 [.int .u64 r0, .int .u64 r1, .int .u64 r2, .int .u64 r3] [.int .u64 r0, .int .u64 r1, .int .u64 r2, .int .u64 r3] (.agg #[.int .u64 r0, .int .u64 r1, .int .u64 r2, .int .u64 r3]) rfl rfl rfl Bg1 (by kernel_rfl) (nle rfl) rfl rfl ?_; intro w7 hn hw; replace Bg0 := Bg0.grown hw Ng1_g0.symm; replace Bg2 := Bg2.grown hw Ng2_g1; replace HS := HS.grown hw GEg1; replace Bg1 := hn; clear hw; clear hn))
 all_goals (first | (exact bodyPost_ret (results_cell1 rfl _ _ g1 25 [.int .u64 (uHeld (r0 / 2)), .int .u64 (uHeld (r0 / 2)), .int .u64 (uAdd tn 1), .int .u64 0] _ rfl Bg1 Try.underlying25 rfl (by kernel_rfl)) rfl ⟨rfl, HS.out⟩) | (exact bodyPost_ret (results_cell1 rfl _ _ g1 25 [.int .u64 r0, .int .u64 r1, .int .u64 r2, .int .u64 r3] _ rfl Bg1 Try.underlying25 rfl (by kernel_rfl)) rfl ⟨by simp_all, HS.out⟩))
theorem probe_new_0 (now : Int)  (w : World) :
  Calls Try.prog 33 #[.int .u64 now] w fun e w' => e = .returned (.agg #[.int .i64 0, .slice none 0 0, .int .u64 18446744073709551615, .int .u64 now, .int .u64 0, .int .u64 0, .int .u64 0, .int .u64 0, .int .u64 now, .int .u64 16777216]) ∧ Below w.heap.size w w' := by
 have hu32 := Try.underlying32
 have HS := Since.refl w
 go_enter Try.func33, Try.ntmps33
 go_wp2_with (first | (refine seg_new rfl (N := 2) rfl [.int .i64 0, .slice none 0 0, .int .u64 0, .int .u64 0, .int .u64 0, .int .u64 0, .int .u64 0, .int .u64 0, .int .u64 0, .int .u64 0] 32 ?hr ?_; (case hr => rfl); intro g0 hg w1 hn hl; have GEg0 := ge_new HS hg; clear hg; replace HS := HS.below hl; have Bg0 := hn; clear hl hn) | (refine seg_store rfl rfl 32 (.tmp 2) (.tmp 5) rfl g0 0 [.int .i64 0, .slice none 0 0, .int .u64 18446744073709551615, .int .u64 now, .int .u64 0, .int .u64 0, .int .u64 0, .int .u64 0, .int .u64 now, .int .u64 16777216] [.int .i64 0, .slice none 0 0, .int .u64 18446744073709551615, .int .u64 now, .int .u64 0, .int .u64 0, .int .u64 0, .int .u64 0, .int .u64 now, .int .u64 16777216] (.agg #[.int .i64 0, .slice none 0 0, .int .u64 18446744073709551615, .int .u64 now, .int .u64 0, .int .u64 0, .int .u64 0, .int .u64 0, .int .u64 now, .int .u64 16777216]) rfl rfl rfl Bg0 (by kernel_rfl) (nle rfl) rfl rfl ?_; intro w2 hn hw; replace HS := HS.grown hw GEg0; replace Bg0 := hn; clear hw; clear hn))
 all_goals exact bodyPost_ret (results_cell1 rfl _ _ g0 32 [.int .i64 0, .slice none 0 0, .int .u64 18446744073709551615, .int .u64 now, .int .u64 0, .int .u64 0, .int .u64 0, .int .u64 0, .int .u64 now, .int .u64 16777216] _ rfl Bg0 Try.underlying32 rfl (by kernel_rfl)) rfl ⟨rfl, HS.out⟩
theorem slow_new_0 (next : Int)  (w : World) :
  Calls Try.prog 30 #[.int .u64 next] w fun e w' => e = .returned (.agg #[.int .i64 0, .int .u64 next, .int .u64 18446744073709551615, .int .u64 18446744073709551615, .int .u64 0, .int .u64 18446744073709551615, .int .u64 0]) ∧ Below w.heap.size w w' := by
 have hu27 := Try.underlying27
 have HS := Since.refl w
 go_enter Try.func30, Try.ntmps30
 go_wp2_with (first | (refine seg_new rfl (N := 2) rfl [.int .i64 0, .int .u64 0, .int .u64 0, .int .u64 0, .int .u64 0, .int .u64 0, .int .u64 0] 27 ?hr ?_; (case hr => rfl); intro g0 hg w1 hn hl; have GEg0 := ge_new HS hg; clear hg; replace HS := HS.below hl; have Bg0 := hn; clear hl hn) | (refine seg_store rfl rfl 27 (.tmp 2) (.tmp 4) rfl g0 0 [.int .i64 0, .int .u64 next, .int .u64 18446744073709551615, .int .u64 18446744073709551615, .int .u64 0, .int .u64 18446744073709551615, .int .u64 0] [.int .i64 0, .int .u64 next, .int .u64 18446744073709551615, .int .u64 18446744073709551615, .int .u64 0, .int .u64 18446744073709551615, .int .u64 0] (.agg #[.int .i64 0, .int .u64 next, .int .u64 18446744073709551615, .int .u64 18446744073709551615, .int .u64 0, .int .u64 18446744073709551615, .int .u64 0]) rfl rfl rfl Bg0 (by kernel_rfl) (nle rfl) rfl rfl ?_; intro w2 hn hw; replace HS := HS.grown hw GEg0; replace Bg0 := hn; clear hw; clear hn))
 all_goals exact bodyPost_ret (results_cell1 rfl _ _ g0 27 [.int .i64 0, .int .u64 next, .int .u64 18446744073709551615, .int .u64 18446744073709551615, .int .u64 0, .int .u64 18446744073709551615, .int .u64 0] _ rfl Bg0 Try.underlying27 rfl (by kernel_rfl)) rfl ⟨rfl, HS.out⟩
theorem reno_new_0  (w : World) :
  Calls Try.prog 31 #[] w fun e w' => e = .returned (.agg #[.int .u64 12000, .int .u64 16777216, .int .u64 0, .int .u64 0]) ∧ Below w.heap.size w w' := by
 have hu25 := Try.underlying25
 have HS := Since.refl w
 go_enter Try.func31, Try.ntmps31
 go_wp2_with (first | (refine seg_new rfl (N := 0) rfl [.int .u64 0, .int .u64 0, .int .u64 0, .int .u64 0] 25 ?hr ?_; (case hr => rfl); intro g0 hg w1 hn hl; have GEg0 := ge_new HS hg; clear hg; replace HS := HS.below hl; have Bg0 := hn; clear hl hn) | (refine seg_store rfl rfl 25 (.tmp 0) (.tmp 1) rfl g0 0 [.int .u64 12000, .int .u64 16777216, .int .u64 0, .int .u64 0] [.int .u64 12000, .int .u64 16777216, .int .u64 0, .int .u64 0] (.agg #[.int .u64 12000, .int .u64 16777216, .int .u64 0, .int .u64 0]) rfl rfl rfl Bg0 (by kernel_rfl) (nle rfl) rfl rfl ?_; intro w2 hn hw; replace HS := HS.grown hw GEg0; replace Bg0 := hn; clear hw; clear hn))
 all_goals exact bodyPost_ret (results_cell1 rfl _ _ g0 25 [.int .u64 12000, .int .u64 16777216, .int .u64 0, .int .u64 0] _ rfl Bg0 Try.underlying25 rfl (by kernel_rfl)) rfl ⟨rfl, HS.out⟩
theorem keep1_0 (c1 c2 c3 c4 c5 c6 c7 c8 c9 c10 c11 c12 c13 c14 c16 c17 c18 c19 c20 c22 c23 c24 c25 c26 c27 c28 c29 c30 c31 c32 c33 c34 c35 c36 c37 c39 c40 ta : Int) (c15 c38 : Bool) (A21 : Option Addr) (g ga n21 k21 : Nat)  (w : World) (h0 : (decide (c3 ≤ ta)) = true) (Bg : Blk w g 36 (K36 1 c1 c2 c3 c4 c5 c6 c7 c8 c9 c10 c11 c12 c13 c14 c15 c16 c17 c18 c19 c20 (.slice A21 n21 k21) c22 c23 c24 c25 c26 c27 c28 c29 c30 c31 c32 c33 c34 c35 c36 c37 c38 c39 c40)) (Bga : Blk w ga 23 [.int .u64 ta]) (Nga_g : ga ≠ g) :
  Calls Try.prog 39 #[.pointer (some ⟨g, 0, none⟩), .pointer (some ⟨ga, 0, none⟩)] w fun e w' => e = .returned (.tuple #[]) ∧ Blk w' g 36 (K36 1 c1 c2 c3 c4 2 c6 c7 c8 c9 c10 c11 c12 c13 c14 c15 c16 c17 c18 c19 c20 (.slice A21 n21 k21) c22 c23 c24 c25 c26 c27 c28 c29 c30 c31 c32 c33 c34 c35 c36 c37 c38 c1 c2) ∧ w.grownBy w' (some g) := by
 have hu27 := Try.underlying27
 have hu36 := Try.underlying36
 have HS := Turned.refl g w
 go_enter Try.func39, Try.ntmps39
 go_wp2_with (first | ((go_at_call 36); (with_reducible refine (parts_reno g _ ((Bg.cell 0).trans rfl)).mono ?_); rintro e w1 ⟨rfl, hd⟩; have hl := hd.below; clear hd; replace Bg := Bg.below hl; replace Bga := Bga.below hl; replace HS := HS.below hl; clear hl; have kg_3 := Bg.at 3 rfl; have kga_0 := Bga.at 0 rfl))
 all_goals go_quiet (fail)
 all_goals (generalize hW : World.drewN w1 _ = w2; have hl : Below w1.heap.size w1 w2 := (by rw [← hW]; exact pw_below_drewN (Below.refl _ _) _); clear hW; replace Bg := Bg.below hl; replace Bga := Bga.below hl; replace HS := HS.below hl; clear hl; clear kg_3 kga_0; have kg_1 := Bg.at 1 rfl; have kg_2 := Bg.at 2 rfl; have kg_39 := Bg.at 39 rfl; have zg_39 := Bg.frozen 39; have kg_40 := Bg.at 40 rfl; have zg_40 := Bg.frozen 40)
 go_wp2
 go_region_with (fail)
 all_goals (refine letter ?_; intro w3 hW)
 all_goals (have Bn_ : Blk w3 g 36 (K36 1 c1 c2 c3 c4 c5 c6 c7 c8 c9 c10 c11 c12 c13 c14 c15 c16 c17 c18 c19 c20 (.slice A21 n21 k21) c22 c23 c24 c25 c26 c27 c28 c29 c30 c31 c32 c33 c34 c35 c36 c37 c38 c1 c2) := (by rw [hW]; (repeat (first | (with_reducible refine Blk.drewN ?_ _) | (with_reducible refine Blk.drew ?_))); refine Blk.set (l := (K36 1 c1 c2 c3 c4 c5 c6 c7 c8 c9 c10 c11 c12 c13 c14 c15 c16 c17 c18 c19 c20 (.slice A21 n21 k21) c22 c23 c24 c25 c26 c27 c28 c29 c30 c31 c32 c33 c34 c35 c36 c37 c38 c1 c40)) ?_ 40 _ rfl; (repeat (first | (with_reducible refine Blk.drewN ?_ _) | (with_reducible refine Blk.drew ?_))); refine Blk.set (l := (K36 1 c1 c2 c3 c4 c5 c6 c7 c8 c9 c10 c11 c12 c13 c14 c15 c16 c17 c18 c19 c20 (.slice A21 n21 k21) c22 c23 c24 c25 c26 c27 c28 c29 c30 c31 c32 c33 c34 c35 c36 c37 c38 c39 c40)) ?_ 39 _ rfl; (repeat (first | (with_reducible refine Blk.drewN ?_ _) | (with_reducible refine Blk.drew ?_))); exact Bg); replace Bg := Bn_; clear Bn_)
 all_goals (have Bn_ : Blk w3 ga 23 [.int .u64 ta] := (by rw [hW]; (repeat (first | (with_reducible refine Blk.drewN ?_ _) | (with_reducible refine Blk.drew ?_))); refine Blk.setFar ?_ Nga_g; (repeat (first | (with_reducible refine Blk.drewN ?_ _) | (with_reducible refine Blk.drew ?_))); refine Blk.setFar ?_ Nga_g; (repeat (first | (with_reducible refine Blk.drewN ?_ _) | (with_reducible refine Blk.drew ?_))); exact Bga); replace Bga := Bn_; clear Bn_)
 all_goals (have HS_ : Turned g w w3 := (by rw [hW]; repeat (first | (with_reducible exact HS) | (with_reducible refine Turned.drewN ?_ _) | (with_reducible refine Turned.drew ?_) | (with_reducible refine Turned.set ?_))); replace HS := HS_; clear HS_ hW)
 all_goals (clear kg_1 kg_2 kg_39 zg_39 kg_40 zg_40; have kg_0 := Bg.at 0 rfl)
 go_wp2_with (first | (refine seg_load rfl (N := 27) rfl 27 (.tmp 26) rfl g 5 [.int .i64 c5, .int .u64 c6, .int .u64 c7, .int .u64 c8, .int .u64 c9, .int .u64 c10, .int .u64 c11] rfl Bg rfl Try.underlying27 rfl (by kernel_rfl) ?_) | ((go_at_call 40); (with_reducible refine (finish_0 c5 c6 c7 c8 c9 c10 c11 _).mono ?_); rintro e w4 ⟨rfl, hl⟩; replace Bg := Bg.below hl; replace Bga := Bga.below hl; replace HS := HS.below hl; clear hl; clear kg_0) | (refine seg_store rfl rfl 27 (.tmp 29) (.tmp 28) rfl g 5 [.int .i64 2, .int .u64 c6, .int .u64 c7, .int .u64 c8, .int .u64 c9, .int .u64 c10, .int .u64 c11] (K36 1 c1 c2 c3 c4 2 c6 c7 c8 c9 c10 c11 c12 c13 c14 c15 c16 c17 c18 c19 c20 (.slice A21 n21 k21) c22 c23 c24 c25 c26 c27 c28 c29 c30 c31 c32 c33 c34 c35 c36 c37 c38 c1 c2) (.agg #[.int .i64 2, .int .u64 c6, .int .u64 c7, .int .u64 c8, .int .u64 c9, .int .u64 c10, .int .u64 c11]) rfl rfl rfl Bg (by kernel_rfl) (nle rfl) rfl rfl ?_; intro w5 hn hw; replace Bga := Bga.grown hw Nga_g; replace HS := HS.same hw; replace Bg := hn; clear hw; clear hn))
 all_goals (go_end0; exact ⟨rfl, Bg, HS.out⟩)
theorem new1_0 (now next : Int)  (w : World) :
  Calls Try.prog 14 #[.int .i64 1, .int .u64 now, .int .u64 next] w fun e w' => e = .returned (.tuple #[.agg (K1 12000 16777216 0 0 0 next 18446744073709551615 18446744073709551615 0 18446744073709551615 0 0 0).toArray, .int .i64 0]) ∧ Below w.heap.size w w' := by
 have hu25 := Try.underlying25
 have hu36 := Try.underlying36
 have HS := Since.refl w
 go_enter Try.func14, Try.ntmps14
 go_wp2_with (first | (refine seg_new rfl (N := 6) rfl K0 36 ?hr ?_; (case hr => rfl); intro g0 hg w1 hn hl; have GEg0 := ge_new HS hg; clear hg; replace HS := HS.below hl; have Bg0 := hn; clear hl hn) | ((go_at_call 30); (with_reducible refine (slow_new_0 next _).mono ?_); rintro e w2 ⟨rfl, hl⟩; replace Bg0 := Bg0.below hl; replace HS := HS.below hl; clear hl) | (refine seg_new rfl (N := 8) rfl K0 36 ?hr ?_; (case hr => rfl); intro g1 hg w3 hn hl; have Ng1_g0 := ne_new Bg0 hg; have GEg1 := ge_new HS hg; clear hg; replace Bg0 := Bg0.below hl; replace HS := HS.below hl; have Bg1 := hn; clear hl hn) | (refine seg_store rfl rfl 36 (.tmp 8) (.tmp 12) rfl g1 0 (K1 0 0 0 0 0 next 18446744073709551615 18446744073709551615 0 18446744073709551615 0 0 0) (K1 0 0 0 0 0 next 18446744073709551615 18446744073709551615 0 18446744073709551615 0 0 0) (.agg (K1 0 0 0 0 0 next 18446744073709551615 18446744073709551615 0 18446744073709551615 0 0 0).toArray) rfl rfl rfl Bg1 (by kernel_rfl) (nle rfl) rfl rfl ?_; intro w4 hn hw; replace Bg0 := Bg0.grown hw Ng1_g0.symm; replace HS := HS.grown hw GEg1; replace Bg1 := hn; clear hw; clear hn) | ((go_at_call 31); (with_reducible refine (reno_new_0 _).mono ?_); rintro e w5 ⟨rfl, hl⟩; replace Bg0 := Bg0.below hl; replace Bg1 := Bg1.below hl; replace HS := HS.below hl; clear hl) | (refine seg_store rfl rfl 25 (.tmp 18) (.tmp 17) rfl g1 1 [.int .u64 12000, .int .u64 16777216, .int .u64 0, .int .u64 0] (K1 12000 16777216 0 0 0 next 18446744073709551615 18446744073709551615 0 18446744073709551615 0 0 0) (.agg #[.int .u64 12000, .int .u64 16777216, .int .u64 0, .int .u64 0]) rfl rfl rfl Bg1 (by kernel_rfl) (nle rfl) rfl rfl ?_; intro w6 hn hw; replace Bg0 := Bg0.grown hw Ng1_g0.symm; replace HS := HS.grown hw GEg1; replace Bg1 := hn; clear hw; clear hn) | (refine seg_load rfl (N := 33) rfl 36 (.tmp 8) rfl g1 0 (K1 12000 16777216 0 0 0 next 18446744073709551615 18446744073709551615 0 18446744073709551615 0 0 0) rfl Bg1 rfl Try.underlying36 rfl (by kernel_rfl) ?_) | (refine seg_store rfl rfl 36 (.tmp 6) (.tmp 33) rfl g0 0 (K1 12000 16777216 0 0 0 next 18446744073709551615 18446744073709551615 0 18446744073709551615 0 0 0) (K1 12000 16777216 0 0 0 next 18446744073709551615 18446744073709551615 0 18446744073709551615 0 0 0) (.agg (K1 12000 16777216 0 0 0 next 18446744073709551615 18446744073709551615 0 18446744073709551615 0 0 0).toArray) rfl rfl rfl Bg0 (by kernel_rfl) (nle rfl) rfl rfl ?_; intro w7 hn hw; replace Bg1 := Bg1.grown hw Ng1_g0; replace HS := HS.grown hw GEg0; replace Bg0 := hn; clear hw; clear hn))
 all_goals exact bodyPost_ret (results_cell_tmp rfl _ _ g0 36 (K1 12000 16777216 0 0 0 next 18446744073709551615 18446744073709551615 0 18446744073709551615 0 0 0) _ (.int .i64 0) rfl rfl Bg0 Try.underlying36 rfl (by kernel_rfl)) rfl ⟨rfl, HS.out⟩
theorem new3_0 (now next : Int)  (w : World) :
  Calls Try.prog 14 #[.int .i64 3, .int .u64 now, .int .u64 next] w fun e w' => e = .returned (.tuple #[.agg (K3 0 next 18446744073709551615 18446744073709551615 0 18446744073709551615 0 0 (.slice none 0 0) 18446744073709551615 now 0 0 0 0 now 16777216 0 0).toArray, .int .i64 0]) ∧ Below w.heap.size w w' := by
 have hu32 := Try.underlying32
 have hu36 := Try.underlying36
 have HS := Since.refl w
 go_enter Try.func14, Try.ntmps14
 go_wp2_with (first | (refine seg_new rfl (N := 6) rfl K0 36 ?hr ?_; (case hr => rfl); intro g0 hg w1 hn hl; have GEg0 := ge_new HS hg; clear hg; replace HS := HS.below hl; have Bg0 := hn; clear hl hn) | ((go_at_call 30); (with_reducible refine (slow_new_0 next _).mono ?_); rintro e w2 ⟨rfl, hl⟩; replace Bg0 := Bg0.below hl; replace HS := HS.below hl; clear hl) | (refine seg_new rfl (N := 8) rfl K0 36 ?hr ?_; (case hr => rfl); intro g1 hg w3 hn hl; have Ng1_g0 := ne_new Bg0 hg; have GEg1 := ge_new HS hg; clear hg; replace Bg0 := Bg0.below hl; replace HS := HS.below hl; have Bg1 := hn; clear hl hn) | (refine seg_store rfl rfl 36 (.tmp 8) (.tmp 12) rfl g1 0 (K3 0 next 18446744073709551615 18446744073709551615 0 18446744073709551615 0 0 (.slice none 0 0) 0 0 0 0 0 0 0 0 0 0) (K3 0 next 18446744073709551615 18446744073709551615 0 18446744073709551615 0 0 (.slice none 0 0) 0 0 0 0 0 0 0 0 0 0) (.agg (K3 0 next 18446744073709551615 18446744073709551615 0 18446744073709551615 0 0 (.slice none 0 0) 0 0 0 0 0 0 0 0 0 0).toArray) rfl rfl rfl Bg1 (by kernel_rfl) (nle rfl) rfl rfl ?_; intro w4 hn hw; replace Bg0 := Bg0.grown hw Ng1_g0.symm; replace HS := HS.grown hw GEg1; replace Bg1 := hn; clear hw; clear hn) | ((go_at_call 33); (with_reducible refine (probe_new_0 now _).mono ?_); rintro e w5 ⟨rfl, hl⟩; replace Bg0 := Bg0.below hl; replace Bg1 := Bg1.below hl; replace HS := HS.below hl; clear hl) | (refine seg_store rfl rfl 32 (.tmp 27) (.tmp 26) rfl g1 20 [.int .i64 0, .slice none 0 0, .int .u64 18446744073709551615, .int .u64 now, .int .u64 0, .int .u64 0, .int .u64 0, .int .u64 0, .int .u64 now, .int .u64 16777216] (K3 0 next 18446744073709551615 18446744073709551615 0 18446744073709551615 0 0 (.slice none 0 0) 18446744073709551615 now 0 0 0 0 now 16777216 0 0) (.agg #[.int .i64 0, .slice none 0 0, .int .u64 18446744073709551615, .int .u64 now, .int .u64 0, .int .u64 0, .int .u64 0, .int .u64 0, .int .u64 now, .int .u64 16777216]) rfl rfl rfl Bg1 (by kernel_rfl) (nle rfl) rfl rfl ?_; intro w6 hn hw; replace Bg0 := Bg0.grown hw Ng1_g0.symm; replace HS := HS.grown hw GEg1; replace Bg1 := hn; clear hw; clear hn) | (refine seg_load rfl (N := 33) rfl 36 (.tmp 8) rfl g1 0 (K3 0 next 18446744073709551615 18446744073709551615 0 18446744073709551615 0 0 (.slice none 0 0) 18446744073709551615 now 0 0 0 0 now 16777216 0 0) rfl Bg1 rfl Try.underlying36 rfl (by kernel_rfl) ?_) | (refine seg_store rfl rfl 36 (.tmp 6) (.tmp 33) rfl g0 0 (K3 0 next 18446744073709551615 18446744073709551615 0 18446744073709551615 0 0 (.slice none 0 0) 18446744073709551615 now 0 0 0 0 now 16777216 0 0) (K3 0 next 18446744073709551615 18446744073709551615 0 18446744073709551615 0 0 (.slice none 0 0) 18446744073709551615 now 0 0 0 0 now 16777216 0 0) (.agg (K3 0 next 18446744073709551615 18446744073709551615 0 18446744073709551615 0 0 (.slice none 0 0) 18446744073709551615 now 0 0 0 0 now 16777216 0 0).toArray) rfl rfl rfl Bg0 (by kernel_rfl) (nle rfl) rfl rfl ?_; intro w7 hn hw; replace Bg1 := Bg1.grown hw Ng1_g0; replace HS := HS.grown hw GEg0; replace Bg0 := hn; clear hw; clear hn))
 all_goals exact bodyPost_ret (results_cell_tmp rfl _ _ g0 36 (K3 0 next 18446744073709551615 18446744073709551615 0 18446744073709551615 0 0 (.slice none 0 0) 18446744073709551615 now 0 0 0 0 now 16777216 0 0) _ (.int .i64 0) rfl rfl Bg0 Try.underlying36 rfl (by kernel_rfl)) rfl ⟨rfl, HS.out⟩
theorem newN_0 (kind now next : Int)  (w : World) (h0 : (kind == 1) = false) (h1 : (kind == 2) = false) (h2 : (kind == 3) = false) (h3 : (kind == 4) = false) :
  Calls Try.prog 14 #[.int .i64 kind, .int .u64 now, .int .u64 next] w fun e w' => e = .returned (.tuple #[.agg K0.toArray, .int .i64 1]) ∧ Below w.heap.size w w' := by
 have hu36 := Try.underlying36
 have HS := Since.refl w
 go_enter Try.func14, Try.ntmps14
 go_wp2_with (first | (refine seg_new rfl (N := 6) rfl K0 36 ?hr ?_; (case hr => rfl); intro g0 hg w1 hn hl; have GEg0 := ge_new HS hg; clear hg; replace HS := HS.below hl; have Bg0 := hn; clear hl hn) | ((go_at_call 30); (with_reducible refine (slow_new_0 next _).mono ?_); rintro e w2 ⟨rfl, hl⟩; replace Bg0 := Bg0.below hl; replace HS := HS.below hl; clear hl) | (refine seg_new rfl (N := 8) rfl K0 36 ?hr ?_; (case hr => rfl); intro g1 hg w3 hn hl; have Ng1_g0 := ne_new Bg0 hg; have GEg1 := ge_new HS hg; clear hg; replace Bg0 := Bg0.below hl; replace HS := HS.below hl; have Bg1 := hn; clear hl hn) | (refine seg_store rfl rfl 36 (.tmp 8) (.tmp 12) rfl g1 0 (K36 kind 0 0 0 0 0 next 18446744073709551615 18446744073709551615 0 18446744073709551615 0 0 0 0 false 0 0 0 0 0 (.slice none 0 0) 0 0 0 0 0 0 0 0 0 0 0 0 0 0 0 0 false 0 0) (K36 kind 0 0 0 0 0 next 18446744073709551615 18446744073709551615 0 18446744073709551615 0 0 0 0 false 0 0 0 0 0 (.slice none 0 0) 0 0 0 0 0 0 0 0 0 0 0 0 0 0 0 0 false 0 0) (.agg (K36 kind 0 0 0 0 0 next 18446744073709551615 18446744073709551615 0 18446744073709551615 0 0 0 0 false 0 0 0 0 0 (.slice none 0 0) 0 0 0 0 0 0 0 0 0 0 0 0 0 0 0 0 false 0 0).toArray) rfl rfl rfl Bg1 (by kernel_rfl) (nle rfl) rfl rfl ?_; intro w4 hn hw; replace Bg0 := Bg0.grown hw Ng1_g0.symm; replace HS := HS.grown hw GEg1; replace Bg1 := hn; clear hw; clear hn) | (refine seg_store rfl rfl 36 (.tmp 6) (.tmp 14) rfl g0 0 K0 K0 (.agg K0.toArray) rfl rfl rfl Bg0 (by kernel_rfl) (nle rfl) rfl rfl ?_; intro w5 hn hw; replace Bg1 := Bg1.grown hw Ng1_g0; replace HS := HS.grown hw GEg0; replace Bg0 := hn; clear hw; clear hn))
 all_goals exact bodyPost_ret (results_cell_tmp rfl _ _ g0 36 K0 _ (.int .i64 1) rfl rfl Bg0 Try.underlying36 rfl (by kernel_rfl)) rfl ⟨rfl, HS.out⟩
theorem loss1_0 (c1 c2 c3 c4 c5 c6 c7 c8 c9 c10 c11 c12 c13 c14 c16 c17 c18 c19 c20 c22 c23 c24 c25 c26 c27 c28 c29 c30 c31 c32 c33 c34 c35 c36 c37 c39 c40 at_ now fl : Int) (c15 c38 : Bool) (A21 : Option Addr) (n21 k21 : Nat) (Wc1 : W64 c1) (Wnow : W64 now) (w : World) (h0 : (decide (c3 ≤ at_)) = true) :
  Calls Try.prog 17 #[.agg (K36 1 c1 c2 c3 c4 c5 c6 c7 c8 c9 c10 c11 c12 c13 c14 c15 c16 c17 c18 c19 c20 (.slice A21 n21 k21) c22 c23 c24 c25 c26 c27 c28 c29 c30 c31 c32 c33 c34 c35 c36 c37 c38 c39 c40).toArray, .int .u64 at_, .int .u64 now, .int .u64 fl] w fun e w' => e = .returned (.agg (K36 1 (uHeld (c1 / 2)) (uHeld (c1 / 2)) (uAdd now 1) 0 2 c6 c7 c8 c9 c10 c11 c12 c13 c14 c15 c16 c17 c18 c19 c20 (.slice A21 n21 k21) c22 c23 c24 c25 c26 c27 c28 c29 c30 c31 c32 c33 c34 c35 c36 c37 c38 c1 c2).toArray) ∧ Below w.heap.size w w' := by
 have hu25 := Try.underlying25
 have hu36 := Try.underlying36
 have d0 := (lt_of_le h0)
 have HS := Since.refl w
 go_enter Try.func17, Try.ntmps17
 go_wp2_with (first | (refine seg_new rfl (N := 4) rfl (K36 1 c1 c2 c3 c4 c5 c6 c7 c8 c9 c10 c11 c12 c13 c14 c15 c16 c17 c18 c19 c20 (.slice A21 n21 k21) c22 c23 c24 c25 c26 c27 c28 c29 c30 c31 c32 c33 c34 c35 c36 c37 c38 c39 c40) 36 ?hr ?_; (case hr => rfl); intro g0 hg w1 hn hl; have GEg0 := ge_new HS hg; clear hg; replace HS := HS.below hl; have Bg0 := hn; clear hl hn) | (refine seg_new rfl (N := 5) rfl [.int .u64 at_] 23 ?hr ?_; (case hr => rfl); intro g1 hg w2 hn hl; have Ng1_g0 := ne_new Bg0 hg; have GEg1 := ge_new HS hg; clear hg; replace Bg0 := Bg0.below hl; replace HS := HS.below hl; have Bg1 := hn; clear hl hn) | (refine seg_new rfl (N := 8) rfl K0 36 ?hr ?_; (case hr => rfl); intro g2 hg w3 hn hl; have Ng2_g0 := ne_new Bg0 hg; have Ng2_g1 := ne_new Bg1 hg; have GEg2 := ge_new HS hg; clear hg; replace Bg0 := Bg0.below hl; replace Bg1 := Bg1.below hl; replace HS := HS.below hl; have Bg2 := hn; clear hl hn; have kg0_0 := Bg0.at 0 rfl) | ((go_at_call 39); (with_reducible refine (keep1_0 c1 c2 c3 c4 c5 c6 c7 c8 c9 c10 c11 c12 c13 c14 c16 c17 c18 c19 c20 c22 c23 c24 c25 c26 c27 c28 c29 c30 c31 c32 c33 c34 c35 c36 c37 c39 c40 at_ c15 c38 A21 g0 g1 n21 k21 _ h0 Bg0 Bg1 Ng1_g0).mono ?_); rintro e w4 ⟨rfl, hn, hw⟩; replace Bg1 := Bg1.grown hw Ng1_g0; replace Bg2 := Bg2.grown hw Ng2_g0; replace HS := HS.grown hw GEg0; replace Bg0 := hn; clear hw; clear kg0_0; have kg1_0 := Bg1.at 0 rfl; clear hn) | (refine seg_load rfl (N := 18) rfl 25 (.tmp 17) rfl g0 1 [.int .u64 c1, .int .u64 c2, .int .u64 c3, .int .u64 c4] rfl Bg0 rfl Try.underlying25 rfl (by kernel_rfl) ?_) | ((go_at_call 41); (with_reducible refine (reno_loss_0 c1 c2 c3 c4 at_ now Wc1 Wnow _ (lt_of_le h0)).mono ?_); rintro e w5 ⟨rfl, hl⟩; replace Bg0 := Bg0.below hl; replace Bg1 := Bg1.below hl; replace Bg2 := Bg2.below hl; replace HS := HS.below hl; clear hl; clear kg1_0) | (refine seg_store rfl rfl 25 (.tmp 22) (.tmp 21) rfl g0 1 [.int .u64 (uHeld (c1 / 2)), .int .u64 (uHeld (c1 / 2)), .int .u64 (uAdd now 1), .int .u64 0] (K36 1 (uHeld (c1 / 2)) (uHeld (c1 / 2)) (uAdd now 1) 0 2 c6 c7 c8 c9 c10 c11 c12 c13 c14 c15 c16 c17 c18 c19 c20 (.slice A21 n21 k21) c22 c23 c24 c25 c26 c27 c28 c29 c30 c31 c32 c33 c34 c35 c36 c37 c38 c1 c2) (.agg #[.int .u64 (uHeld (c1 / 2)), .int .u64 (uHeld (c1 / 2)), .int .u64 (uAdd now 1), .int .u64 0]) rfl rfl rfl Bg0 (by kernel_rfl) (nle rfl) rfl rfl ?_; intro w6 hn hw; replace Bg1 := Bg1.grown hw Ng1_g0; replace Bg2 := Bg2.grown hw Ng2_g0; replace HS := HS.grown hw GEg0; replace Bg0 := hn; clear hw; clear hn) | (refine seg_load rfl (N := 50) rfl 36 (.tmp 4) rfl g0 0 (K36 1 (uHeld (c1 / 2)) (uHeld (c1 / 2)) (uAdd now 1) 0 2 c6 c7 c8 c9 c10 c11 c12 c13 c14 c15 c16 c17 c18 c19 c20 (.slice A21 n21 k21) c22 c23 c24 c25 c26 c27 c28 c29 c30 c31 c32 c33 c34 c35 c36 c37 c38 c1 c2) rfl Bg0 rfl Try.underlying36 rfl (by kernel_rfl) ?_) | (refine seg_store rfl rfl 36 (.tmp 8) (.tmp 50) rfl g2 0 (K36 1 (uHeld (c1 / 2)) (uHeld (c1 / 2)) (uAdd now 1) 0 2 c6 c7 c8 c9 c10 c11 c12 c13 c14 c15 c16 c17 c18 c19 c20 (.slice A21 n21 k21) c22 c23 c24 c25 c26 c27 c28 c29 c30 c31 c32 c33 c34 c35 c36 c37 c38 c1 c2) (K36 1 (uHeld (c1 / 2)) (uHeld (c1 / 2)) (uAdd now 1) 0 2 c6 c7 c8 c9 c10 c11 c12 c13 c14 c15 c16 c17 c18 c19 c20 (.slice A21 n21 k21) c22 c23 c24 c25 c26 c27 c28 c29 c30 c31 c32 c33 c34 c35 c36 c37 c38 c1 c2) (.agg (K36 1 (uHeld (c1 / 2)) (uHeld (c1 / 2)) (uAdd now 1) 0 2 c6 c7 c8 c9 c10 c11 c12 c13 c14 c15 c16 c17 c18 c19 c20 (.slice A21 n21 k21) c22 c23 c24 c25 c26 c27 c28 c29 c30 c31 c32 c33 c34 c35 c36 c37 c38 c1 c2).toArray) rfl rfl rfl Bg2 (by kernel_rfl) (nle rfl) rfl rfl ?_; intro w7 hn hw; replace Bg0 := Bg0.grown hw Ng2_g0.symm; replace Bg1 := Bg1.grown hw Ng2_g1.symm; replace HS := HS.grown hw GEg2; replace Bg2 := hn; clear hw; clear hn))
 all_goals exact bodyPost_ret (results_cell1 rfl _ _ g2 36 (K36 1 (uHeld (c1 / 2)) (uHeld (c1 / 2)) (uAdd now 1) 0 2 c6 c7 c8 c9 c10 c11 c12 c13 c14 c15 c16 c17 c18 c19 c20 (.slice A21 n21 k21) c22 c23 c24 c25 c26 c27 c28 c29 c30 c31 c32 c33 c34 c35 c36 c37 c38 c1 c2) _ rfl Bg2 Try.underlying36 rfl (by kernel_rfl)) rfl ⟨rfl, HS.out⟩
theorem undo1_0 (c1 c2 c3 c4 c5 c6 c7 c8 c9 c10 c11 c12 c13 c14 c16 c17 c18 c19 c20 c22 c23 c24 c25 c26 c27 c28 c29 c30 c31 c32 c33 c34 c35 c36 c37 c39 c40 : Int) (c15 c38 : Bool) (A21 : Option Addr) (n21 k21 : Nat)  (w : World) :
  Calls Try.prog 18 #[.agg (K36 1 c1 c2 c3 c4 c5 c6 c7 c8 c9 c10 c11 c12 c13 c14 c15 c16 c17 c18 c19 c20 (.slice A21 n21 k21) c22 c23 c24 c25 c26 c27 c28 c29 c30 c31 c32 c33 c34 c35 c36 c37 c38 c39 c40).toArray] w fun e w' => e = .returned (.agg (K36 1 (uHeld (max c1 c39)) (uHeld (max c2 c40)) 0 c4 c5 c6 c7 c8 c9 c10 c11 c12 c13 c14 c15 c16 c17 c18 c19 c20 (.slice A21 n21 k21) c22 c23 c24 c25 c26 c27 c28 c29 c30 c31 c32 c33 c34 c35 c36 c37 c38 0 0).toArray) ∧ Below w.heap.size w w' := by
 have hu36 := Try.underlying36
 have HS := Since.refl w
 go_enter Try.func18, Try.ntmps18
 go_wp2_with (first | (refine seg_new rfl (N := 1) rfl (K36 1 c1 c2 c3 c4 c5 c6 c7 c8 c9 c10 c11 c12 c13 c14 c15 c16 c17 c18 c19 c20 (.slice A21 n21 k21) c22 c23 c24 c25 c26 c27 c28 c29 c30 c31 c32 c33 c34 c35 c36 c37 c38 c39 c40) 36 ?hr ?_; (case hr => rfl); intro g0 hg w1 hn hl; have GEg0 := ge_new HS hg; clear hg; replace HS := HS.below hl; have Bg0 := hn; clear hl hn) | (refine seg_new rfl (N := 2) rfl K0 36 ?hr ?_; (case hr => rfl); intro g1 hg w2 hn hl; have Ng1_g0 := ne_new Bg0 hg; have GEg1 := ge_new HS hg; clear hg; replace Bg0 := Bg0.below hl; replace HS := HS.below hl; have Bg1 := hn; clear hl hn; have kg0_0 := Bg0.at 0 rfl) | ((go_at_call 36); (with_reducible refine (parts_reno g0 _ ((Bg0.cell 0).trans rfl)).mono ?_); rintro e w3 ⟨rfl, hd⟩; have hl := hd.below; clear hd; replace Bg0 := Bg0.below hl; replace Bg1 := Bg1.below hl; replace HS := HS.below hl; clear hl; clear kg0_0; have kg0_1 := Bg0.at 1 rfl; have zg0_1 := Bg0.frozen 1; have kg0_2 := Bg0.at 2 rfl; have zg0_2 := Bg0.frozen 2; have kg0_3 := Bg0.at 3 rfl; have zg0_3 := Bg0.frozen 3; have kg0_39 := Bg0.at 39 rfl; have kg0_40 := Bg0.at 40 rfl))
 refine start_ (n := 23) (S := fun w' => w'.cell? ⟨g0, 1, none⟩ = some (.int .u64 c1) ∧ w'.cell? ⟨g0, 39, none⟩ = some (.int .u64 c39) ∧ w'.cell? ⟨g0, 2, none⟩ = some (.int .u64 c2) ∧ w'.cell? ⟨g0, 40, none⟩ = some (.int .u64 c40)) (ds := [18, 20, 22]) (bs 23 0) (by kernel_rfl) rfl rfl ⟨((Bg0.drew.cell 1).trans rfl), ((Bg0.drew.cell 39).trans rfl), ((Bg0.drew.cell 2).trans rfl), ((Bg0.drew.cell 40).trans rfl)⟩ (fun hHeld => ?_)
 generalize hWd : World.drew w3 = w4 at hHeld ⊢
 have hl : Below w3.heap.size w3 w4 := (by rw [← hWd]; exact below_drew1 (Below.refl _ _))
 clear hWd
 replace Bg0 := Bg0.below hl; replace Bg1 := Bg1.below hl; replace HS := HS.below hl; clear hl; replace kg0_1 := Bg0.at 1 rfl; replace zg0_1 := Bg0.frozen 1; replace kg0_2 := Bg0.at 2 rfl; replace zg0_2 := Bg0.frozen 2; replace kg0_3 := Bg0.at 3 rfl; replace zg0_3 := Bg0.frozen 3; replace kg0_39 := Bg0.at 39 rfl; replace kg0_40 := Bg0.at 40 rfl
 refine pu 0 22 (.pointer (some ⟨g0, 1, none⟩)) 1 rfl rfl (by kernel_rfl) (fun _ _ _ h => h) (by rfl) (fun _ => by kernel_rfl) rfl ?_
 refine pu 1 23 (.pointer (some ⟨g0, 2, none⟩)) 3 rfl rfl (by kernel_rfl) (fun _ _ _ h => h) (by rfl) (fun _ => by kernel_rfl) rfl ?_
 refine pu 2 24 (.pointer (some ⟨g0, 3, none⟩)) 7 rfl rfl (by kernel_rfl) (fun _ _ _ h => h) (by rfl) (fun _ => by kernel_rfl) rfl ?_
 refine pu 3 25 (.pointer (some ⟨g0, 1, none⟩)) 15 rfl rfl (by kernel_rfl) (fun _ _ _ h => h) (by rfl) (fun _ => by kernel_rfl) rfl ?_
 refine pu 4 26 (.pointer (some ⟨g0, 1, none⟩)) 31 rfl rfl (by kernel_rfl) (fun _ _ _ h => h) (by rfl) (fun _ => by kernel_rfl) rfl ?_
 refine pu 6 28 (.pointer (some ⟨g0, 39, none⟩)) 95 rfl rfl (by kernel_rfl) (fun _ _ _ h => h) (by rfl) (fun _ => by kernel_rfl) rfl ?_
 refine pu 10 32 (.pointer (some ⟨g0, 2, none⟩)) 1119 rfl rfl (by kernel_rfl) (fun _ _ _ h => h) (by rfl) (fun _ => by kernel_rfl) rfl ?_
 refine pu 11 33 (.pointer (some ⟨g0, 2, none⟩)) 3167 rfl rfl (by kernel_rfl) (fun _ _ _ h => h) (by rfl) (fun _ => by kernel_rfl) rfl ?_
 refine pu 13 35 (.pointer (some ⟨g0, 40, none⟩)) 11359 rfl rfl (by kernel_rfl) (fun _ _ _ h => h) (by rfl) (fun _ => by kernel_rfl) rfl ?_
 refine norm_ (a' := ?_) ?_ ?_
 rotate_left
 ·simp only [Act.put, zA_, z0_, z1_, i64_w, i32_w]
  rfl
 refine take_ (i := 5) (N := some 27) (v := ?_) (a' := ?_) (bs 23 11391) rfl rfl (by kernel_rfl) (fun _ _ _ h => h) (Or.inl ⟨by rfl, ?_⟩) hHeld ?_ ?_
 rotate_left
 ·rintro w' ⟨s0, s1, s2, s3⟩
  go_simp
  with_reducible rfl
 rotate_left
 ·simp only [Act.put, zA_, z0_, z1_, i64_w, i32_w]
  rfl
 refine take_ (i := 7) (N := some 29) (v := ?_) (a' := ?_) (bs 23 11519) rfl rfl (by kernel_rfl) (fun _ _ _ h => h) (Or.inl ⟨by rfl, ?_⟩) hHeld ?_ ?_
 rotate_left
 ·rintro w' ⟨s0, s1, s2, s3⟩
  go_simp
  with_reducible rfl
 rotate_left
 ·simp only [Act.put, zA_, z0_, z1_, i64_w, i32_w]
  rfl
 refine pure_ (i := 8) (N := some 30) (v := ?_) (a' := ?_) (bs 23 11775) rfl rfl (by kernel_rfl) (fun _ _ _ h => h) (Or.inl ⟨by rfl, ?_⟩) ?_ ?_
 rotate_left
 ·intro w'
  go_simp
  with_reducible rfl
 rotate_left
 ·simp only [Act.put, zA_, z0_, z1_, i64_w, i32_w]
  rfl
 refine take_ (i := 12) (N := some 34) (v := ?_) (a' := ?_) (bs 23 15871) rfl rfl (by kernel_rfl) (fun _ _ _ h => h) (Or.inl ⟨by rfl, ?_⟩) hHeld ?_ ?_
 rotate_left
 ·rintro w' ⟨s0, s1, s2, s3⟩
  go_simp
  with_reducible rfl
 rotate_left
 ·simp only [Act.put, zA_, z0_, z1_, i64_w, i32_w]
  rfl
 refine take_ (i := 14) (N := some 36) (v := ?_) (a' := ?_) (bs 23 32255) rfl rfl (by kernel_rfl) (fun _ _ _ h => h) (Or.inl ⟨by rfl, ?_⟩) hHeld ?_ ?_
 rotate_left
 ·rintro w' ⟨s0, s1, s2, s3⟩
  go_simp
  with_reducible rfl
 rotate_left
 ·simp only [Act.put, zA_, z0_, z1_, i64_w, i32_w]
  rfl
 refine pure_ (i := 15) (N := some 37) (v := ?_) (a' := ?_) (bs 23 65023) rfl rfl (by kernel_rfl) (fun _ _ _ h => h) (Or.inl ⟨by rfl, ?_⟩) ?_ ?_
 rotate_left
 ·intro w'
  go_simp
  with_reducible rfl
 rotate_left
 ·simp only [Act.put, zA_, z0_, z1_, i64_w, i32_w]
  rfl
 refine one_ (i := 9) (N := some 31) (bs 23 65535) rfl rfl (by kernel_rfl) (by decide) (fun K hK => ?_)
 refine goes_ Try.func24 (by kernel_rfl) rfl #[.int .u64 (max c1 c39)] (by rfl) rfl rfl (by simp only [List.map_toArray, List.map_cons, List.map_nil]; rfl) ?_
 with_reducible refine (reno_Held.C (max c1 c39) _).mono ?_
 rintro e w5 ⟨rfl, hd⟩
 refine ⟨_, rfl, ?_⟩
 have hl := hd.below
 clear hd
 replace Bg0 := Bg0.below hl; replace Bg1 := Bg1.below hl; replace HS := HS.below hl; clear hl; replace kg0_1 := Bg0.at 1 rfl; replace zg0_1 := Bg0.frozen 1; replace kg0_2 := Bg0.at 2 rfl; replace zg0_2 := Bg0.frozen 2; replace kg0_3 := Bg0.at 3 rfl; replace zg0_3 := Bg0.frozen 3; replace kg0_39 := Bg0.at 39 rfl; replace kg0_40 := Bg0.at 40 rfl
 refine hK.out _ _ ⟨((Bg0.cell 1).trans rfl), ((Bg0.cell 39).trans rfl), ((Bg0.cell 2).trans rfl), ((Bg0.cell 40).trans rfl)⟩ (fun hHeld => ?_)
 clear hK K
 refine norm_ (a' := ?_) ?_ ?_
 rotate_left
 ·show Act.put _ (some 31) _ = _
  simp only [Act.put, zA_, z0_, z1_, i64_w, i32_w]
  rfl
 refine one_ (i := 16) (N := some 38) (bs 23 131071) rfl rfl (by kernel_rfl) (by decide) (fun K hK => ?_)
 refine goes_ Try.func24 (by kernel_rfl) rfl #[.int .u64 (max c2 c40)] (by rfl) rfl rfl (by simp only [List.map_toArray, List.map_cons, List.map_nil]; rfl) ?_
 with_reducible refine (reno_Held.C (max c2 c40) _).mono ?_
 rintro e w6 ⟨rfl, hd⟩
 refine ⟨_, rfl, ?_⟩
 have hl := hd.below
 clear hd
 replace Bg0 := Bg0.below hl; replace Bg1 := Bg1.below hl; replace HS := HS.below hl; clear hl; replace kg0_1 := Bg0.at 1 rfl; replace zg0_1 := Bg0.frozen 1; replace kg0_2 := Bg0.at 2 rfl; replace zg0_2 := Bg0.frozen 2; replace kg0_3 := Bg0.at 3 rfl; replace zg0_3 := Bg0.frozen 3; replace kg0_39 := Bg0.at 39 rfl; replace kg0_40 := Bg0.at 40 rfl
 refine hK.out _ _ ⟨((Bg0.cell 1).trans rfl), ((Bg0.cell 39).trans rfl), ((Bg0.cell 2).trans rfl), ((Bg0.cell 40).trans rfl)⟩ (fun hHeld => ?_)
 clear hK K
 refine norm_ (a' := ?_) ?_ ?_
 rotate_left
 ·show Act.put _ (some 38) _ = _
  simp only [Act.put, zA_, z0_, z1_, i64_w, i32_w]
  rfl
 refine pu 17 39 (.pointer (some ⟨g0, 1, none⟩)) 262143 rfl rfl (by kernel_rfl) (fun _ _ _ h => h) (by rfl) (fun _ => by kernel_rfl) rfl ?_
 refine norm_ (a' := ?_) ?_ ?_
 rotate_left
 ·simp only [Act.put, zA_, z0_, z1_, i64_w, i32_w]
  rfl
 refine last_ (i := 18) (N := none) (bs 23 524287) rfl rfl (by kernel_rfl) (by decide) (fun K hK => ?_)
 refine skip_ (w1 := ?_) (by rfl) rfl ?_ ?_
 rotate_left
 ·go_simp
  rfl
 refine hK.out _ _ ?_
 clear hK K
 refine pu 19 40 (.pointer (some ⟨g0, 2, none⟩)) 1048575 rfl rfl (by kernel_rfl) (fun _ _ _ h => h) (by rfl) (fun _ => by kernel_rfl) rfl ?_
 refine norm_ (a' := ?_) ?_ ?_
 rotate_left
 ·simp only [Act.put, zA_, z0_, z1_, i64_w, i32_w]
  rfl
 refine last_ (i := 20) (N := none) (bs 23 2097151) rfl rfl (by kernel_rfl) (by decide) (fun K hK => ?_)
 refine skip_ (w1 := ?_) (by rfl) rfl ?_ ?_
 rotate_left
 ·go_simp
  rfl
 refine hK.out _ _ ?_
 clear hK K
 refine pu 21 41 (.pointer (some ⟨g0, 3, none⟩)) 4194303 rfl rfl (by kernel_rfl) (fun _ _ _ h => h) (by rfl) (fun _ => by kernel_rfl) rfl ?_
 refine norm_ (a' := ?_) ?_ ?_
 rotate_left
 ·simp only [Act.put, zA_, z0_, z1_, i64_w, i32_w]
  rfl
 refine last_ (i := 22) (N := none) (bs 23 8388607) rfl rfl (by kernel_rfl) (by decide) (fun K hK => ?_)
 refine skip_ (w1 := ?_) (by rfl) rfl ?_ ?_
 rotate_left
 ·go_simp
  rfl
 refine hK.out _ _ ?_
 clear hK K
 refine done_ (by kernel_rfl) ?_
 refine letter ?_
 intro w7 hW
 have Bn_ : Blk w7 g0 36 (K36 1 (uHeld (max c1 c39)) (uHeld (max c2 c40)) 0 c4 c5 c6 c7 c8 c9 c10 c11 c12 c13 c14 c15 c16 c17 c18 c19 c20 (.slice A21 n21 k21) c22 c23 c24 c25 c26 c27 c28 c29 c30 c31 c32 c33 c34 c35 c36 c37 c38 c39 c40) := (by rw [hW]; (repeat (first | (with_reducible refine Blk.drewN ?_ _) | (with_reducible refine Blk.drew ?_))); refine Blk.set (l := (K36 1 (uHeld (max c1 c39)) (uHeld (max c2 c40)) c3 c4 c5 c6 c7 c8 c9 c10 c11 c12 c13 c14 c15 c16 c17 c18 c19 c20 (.slice A21 n21 k21) c22 c23 c24 c25 c26 c27 c28 c29 c30 c31 c32 c33 c34 c35 c36 c37 c38 c39 c40)) ?_ 3 _ rfl; (repeat (first | (with_reducible refine Blk.drewN ?_ _) | (with_reducible refine Blk.drew ?_))); refine Blk.set (l := (K36 1 (uHeld (max c1 c39)) c2 c3 c4 c5 c6 c7 c8 c9 c10 c11 c12 c13 c14 c15 c16 c17 c18 c19 c20 (.slice A21 n21 k21) c22 c23 c24 c25 c26 c27 c28 c29 c30 c31 c32 c33 c34 c35 c36 c37 c38 c39 c40)) ?_ 2 _ rfl; (repeat (first | (with_reducible refine Blk.drewN ?_ _) | (with_reducible refine Blk.drew ?_))); refine Blk.set (l := (K36 1 c1 c2 c3 c4 c5 c6 c7 c8 c9 c10 c11 c12 c13 c14 c15 c16 c17 c18 c19 c20 (.slice A21 n21 k21) c22 c23 c24 c25 c26 c27 c28 c29 c30 c31 c32 c33 c34 c35 c36 c37 c38 c39 c40)) ?_ 1 _ rfl; (repeat (first | (with_reducible refine Blk.drewN ?_ _) | (with_reducible refine Blk.drew ?_))); exact Bg0)
 replace Bg0 := Bn_
 clear Bn_
 have Bn_ : Blk w7 g1 36 K0 := (by rw [hW]; (repeat (first | (with_reducible refine Blk.drewN ?_ _) | (with_reducible refine Blk.drew ?_))); refine Blk.setFar ?_ Ng1_g0; (repeat (first | (with_reducible refine Blk.drewN ?_ _) | (with_reducible refine Blk.drew ?_))); refine Blk.setFar ?_ Ng1_g0; (repeat (first | (with_reducible refine Blk.drewN ?_ _) | (with_reducible refine Blk.drew ?_))); refine Blk.setFar ?_ Ng1_g0; (repeat (first | (with_reducible refine Blk.drewN ?_ _) | (with_reducible refine Blk.drew ?_))); exact Bg1)
 replace Bg1 := Bn_
 clear Bn_
 have HS_ : Since w w7 := (by rw [hW]; repeat (first | (with_reducible exact HS) | (with_reducible refine Since.drewN ?_ _) | (with_reducible refine Since.drew ?_) | (with_reducible refine Since.set ?_ GEg0)))
 replace HS := HS_
 clear HS_ hW
 clear kg0_1 zg0_1 kg0_2 zg0_2 kg0_3 zg0_3 kg0_39 kg0_40
 go_wp2_with (first | (refine seg_store rfl rfl 23 (.tmp 42) (.const (.int .u64 0)) rfl g0 39 [.int .u64 0] (K36 1 (uHeld (max c1 c39)) (uHeld (max c2 c40)) 0 c4 c5 c6 c7 c8 c9 c10 c11 c12 c13 c14 c15 c16 c17 c18 c19 c20 (.slice A21 n21 k21) c22 c23 c24 c25 c26 c27 c28 c29 c30 c31 c32 c33 c34 c35 c36 c37 c38 0 c40) (.int .u64 0) rfl rfl rfl Bg0 (by kernel_rfl) (nle rfl) rfl rfl ?_; intro w8 hn hw; replace Bg1 := Bg1.grown hw Ng1_g0; replace HS := HS.grown hw GEg0; replace Bg0 := hn; clear hw; clear hn) | (refine seg_store rfl rfl 23 (.tmp 43) (.const (.int .u64 0)) rfl g0 40 [.int .u64 0] (K36 1 (uHeld (max c1 c39)) (uHeld (max c2 c40)) 0 c4 c5 c6 c7 c8 c9 c10 c11 c12 c13 c14 c15 c16 c17 c18 c19 c20 (.slice A21 n21 k21) c22 c23 c24 c25 c26 c27 c28 c29 c30 c31 c32 c33 c34 c35 c36 c37 c38 0 0) (.int .u64 0) rfl rfl rfl Bg0 (by kernel_rfl) (nle rfl) rfl rfl ?_; intro w9 hn hw; replace Bg1 := Bg1.grown hw Ng1_g0; replace HS := HS.grown hw GEg0; replace Bg0 := hn; clear hw; clear hn) | (refine seg_load rfl (N := 44) rfl 36 (.tmp 1) rfl g0 0 (K36 1 (uHeld (max c1 c39)) (uHeld (max c2 c40)) 0 c4 c5 c6 c7 c8 c9 c10 c11 c12 c13 c14 c15 c16 c17 c18 c19 c20 (.slice A21 n21 k21) c22 c23 c24 c25 c26 c27 c28 c29 c30 c31 c32 c33 c34 c35 c36 c37 c38 0 0) rfl Bg0 rfl Try.underlying36 rfl (by kernel_rfl) ?_) | (refine seg_store rfl rfl 36 (.tmp 2) (.tmp 44) rfl g1 0 (K36 1 (uHeld (max c1 c39)) (uHeld (max c2 c40)) 0 c4 c5 c6 c7 c8 c9 c10 c11 c12 c13 c14 c15 c16 c17 c18 c19 c20 (.slice A21 n21 k21) c22 c23 c24 c25 c26 c27 c28 c29 c30 c31 c32 c33 c34 c35 c36 c37 c38 0 0) (K36 1 (uHeld (max c1 c39)) (uHeld (max c2 c40)) 0 c4 c5 c6 c7 c8 c9 c10 c11 c12 c13 c14 c15 c16 c17 c18 c19 c20 (.slice A21 n21 k21) c22 c23 c24 c25 c26 c27 c28 c29 c30 c31 c32 c33 c34 c35 c36 c37 c38 0 0) (.agg (K36 1 (uHeld (max c1 c39)) (uHeld (max c2 c40)) 0 c4 c5 c6 c7 c8 c9 c10 c11 c12 c13 c14 c15 c16 c17 c18 c19 c20 (.slice A21 n21 k21) c22 c23 c24 c25 c26 c27 c28 c29 c30 c31 c32 c33 c34 c35 c36 c37 c38 0 0).toArray) rfl rfl rfl Bg1 (by kernel_rfl) (nle rfl) rfl rfl ?_; intro w10 hn hw; replace Bg0 := Bg0.grown hw Ng1_g0.symm; replace HS := HS.grown hw GEg1; replace Bg1 := hn; clear hw; clear hn))
 all_goals exact bodyPost_ret (results_cell1 rfl _ _ g1 36 (K36 1 (uHeld (max c1 c39)) (uHeld (max c2 c40)) 0 c4 c5 c6 c7 c8 c9 c10 c11 c12 c13 c14 c15 c16 c17 c18 c19 c20 (.slice A21 n21 k21) c22 c23 c24 c25 c26 c27 c28 c29 c30 c31 c32 c33 c34 c35 c36 c37 c38 0 0) _ rfl Bg1 Try.underlying36 rfl (by kernel_rfl)) rfl ⟨rfl, HS.out⟩
theorem window1_0 (c1 c2 c3 c4 c5 c6 c7 c8 c9 c10 c11 c12 c13 c14 c16 c17 c18 c19 c20 c22 c23 c24 c25 c26 c27 c28 c29 c30 c31 c32 c33 c34 c35 c36 c37 c39 c40 : Int) (c15 c38 : Bool) (A21 : Option Addr) (n21 k21 : Nat)  (w : World) :
  Calls Try.prog 15 #[.agg (K36 1 c1 c2 c3 c4 c5 c6 c7 c8 c9 c10 c11 c12 c13 c14 c15 c16 c17 c18 c19 c20 (.slice A21 n21 k21) c22 c23 c24 c25 c26 c27 c28 c29 c30 c31 c32 c33 c34 c35 c36 c37 c38 c39 c40).toArray] w fun e w' => e = .returned (.int .u64 c1) ∧ Below w.heap.size w w' := by
 have hu36 := Try.underlying36
 have HS := Since.refl w
 go_enter Try.func15, Try.ntmps15
 go_wp2_with (first | (refine seg_new rfl (N := 1) rfl (K36 1 c1 c2 c3 c4 c5 c6 c7 c8 c9 c10 c11 c12 c13 c14 c15 c16 c17 c18 c19 c20 (.slice A21 n21 k21) c22 c23 c24 c25 c26 c27 c28 c29 c30 c31 c32 c33 c34 c35 c36 c37 c38 c39 c40) 36 ?hr ?_; (case hr => rfl); intro g0 hg w1 hn hl; have GEg0 := ge_new HS hg; clear hg; replace HS := HS.below hl; have Bg0 := hn; clear hl hn; have kg0_0 := Bg0.at 0 rfl) | ((go_at_call 36); (with_reducible refine (parts_reno g0 _ ((Bg0.cell 0).trans rfl)).mono ?_); rintro e w2 ⟨rfl, hd⟩; have hl := hd.below; clear hd; replace Bg0 := Bg0.below hl; replace HS := HS.below hl; clear hl; clear kg0_0; have kg0_1 := Bg0.at 1 rfl))
 all_goals (go_ret; exact ⟨rfl, HS.out⟩)
theorem rate1_0 (c1 c2 c3 c4 c5 c6 c7 c8 c9 c10 c11 c12 c13 c14 c16 c17 c18 c19 c20 c22 c23 c24 c25 c26 c27 c28 c29 c30 c31 c32 c33 c34 c35 c36 c37 c39 c40 sm : Int) (c15 c38 : Bool) (A21 : Option Addr) (n21 k21 : Nat) (Wc1 : W64 c1) (Wsm : W64 sm) (w : World) :
  Calls Try.prog 9 #[.agg (K36 1 c1 c2 c3 c4 c5 c6 c7 c8 c9 c10 c11 c12 c13 c14 c15 c16 c17 c18 c19 c20 (.slice A21 n21 k21) c22 c23 c24 c25 c26 c27 c28 c29 c30 c31 c32 c33 c34 c35 c36 c37 c38 c39 c40).toArray, .int .u64 sm] w fun e w' => e = .returned (.int .u64 (uMulDiv c1 1250 (max sm 1))) ∧ Below w.heap.size w w' := by
 have hu36 := Try.underlying36
 have HS := Since.refl w
 go_enter Try.func9, Try.ntmps9
 go_wp2_with (first | (refine seg_new rfl (N := 2) rfl (K36 1 c1 c2 c3 c4 c5 c6 c7 c8 c9 c10 c11 c12 c13 c14 c15 c16 c17 c18 c19 c20 (.slice A21 n21 k21) c22 c23 c24 c25 c26 c27 c28 c29 c30 c31 c32 c33 c34 c35 c36 c37 c38 c39 c40) 36 ?hr ?_; (case hr => rfl); intro g0 hg w1 hn hl; have GEg0 := ge_new HS hg; clear hg; replace HS := HS.below hl; have Bg0 := hn; clear hl hn; have kg0_0 := Bg0.at 0 rfl) | (refine seg_load rfl (N := 16) rfl 36 (.tmp 2) rfl g0 0 (K36 1 c1 c2 c3 c4 c5 c6 c7 c8 c9 c10 c11 c12 c13 c14 c15 c16 c17 c18 c19 c20 (.slice A21 n21 k21) c22 c23 c24 c25 c26 c27 c28 c29 c30 c31 c32 c33 c34 c35 c36 c37 c38 c39 c40) rfl Bg0 rfl Try.underlying36 rfl (by kernel_rfl) ?_) | ((go_at_call 15); (with_reducible refine (window1_0 c1 c2 c3 c4 c5 c6 c7 c8 c9 c10 c11 c12 c13 c14 c16 c17 c18 c19 c20 c22 c23 c24 c25 c26 c27 c28 c29 c30 c31 c32 c33 c34 c35 c36 c37 c39 c40 c15 c38 A21 n21 k21 _).mono ?_); rintro e w2 ⟨rfl, hl⟩; replace Bg0 := Bg0.below hl; replace HS := HS.below hl; clear hl; clear kg0_0) | ((go_at_call 20); (with_reducible refine (fix_MulDivT.C c1 1250 (max sm 1) Wc1 (by decide) (max_w Wsm (by decide)) _).mono ?_); rintro e w3 ⟨rfl, hd⟩; have hl := hd.below; clear hd; replace Bg0 := Bg0.below hl; replace HS := HS.below hl; clear hl))
 all_goals (go_ret; exact ⟨rfl, HS.out⟩)
theorem prodN_0 (p3 p4 p5 p6 p7 p8 p9 parts : Int)  (w : World) :
  Calls Try.prog 54 #[.agg #[.int .i64 0, .slice none 0 0, .int .u64 18446744073709551615, .int .u64 p3, .int .u64 p4, .int .u64 p5, .int .u64 p6, .int .u64 p7, .int .u64 p8, .int .u64 p9], .int .u64 parts] w fun e w' => e = .returned (.int .u64 0) ∧ Below w.heap.size w w' := by
 have hu32 := Try.underlying32
 have HS := Since.refl w
 go_enter Try.func54, Try.ntmps54
 go_wp2_with (first | (refine seg_new rfl (N := 2) rfl [.int .i64 0, .slice none 0 0, .int .u64 18446744073709551615, .int .u64 p3, .int .u64 p4, .int .u64 p5, .int .u64 p6, .int .u64 p7, .int .u64 p8, .int .u64 p9] 32 ?hr ?_; (case hr => rfl); intro g0 hg w1 hn hl; have GEg0 := ge_new HS hg; clear hg; replace HS := HS.below hl; have Bg0 := hn; clear hl hn; have kg0_2 := Bg0.at 2 rfl))
 all_goals (go_ret; exact ⟨rfl, HS.out⟩)
theorem winN_0 (p3 p4 p5 p6 p7 p8 p9 : Int)  (w : World) :
  Calls Try.prog 35 #[.agg #[.int .i64 0, .slice none 0 0, .int .u64 18446744073709551615, .int .u64 p3, .int .u64 p4, .int .u64 p5, .int .u64 p6, .int .u64 p7, .int .u64 p8, .int .u64 p9]] w fun e w' => e = .returned (.int .u64 12000) ∧ Below w.heap.size w w' := by
 have hu32 := Try.underlying32
 have HS := Since.refl w
 go_enter Try.func35, Try.ntmps35
 go_wp2_with (first | (refine seg_new rfl (N := 1) rfl [.int .i64 0, .slice none 0 0, .int .u64 18446744073709551615, .int .u64 p3, .int .u64 p4, .int .u64 p5, .int .u64 p6, .int .u64 p7, .int .u64 p8, .int .u64 p9] 32 ?hr ?_; (case hr => rfl); intro g0 hg w1 hn hl; have GEg0 := ge_new HS hg; clear hg; replace HS := HS.below hl; have Bg0 := hn; clear hl hn; have kg0_0 := Bg0.at 0 rfl) | (refine seg_load rfl (N := 10) rfl 32 (.tmp 1) rfl g0 0 [.int .i64 0, .slice none 0 0, .int .u64 18446744073709551615, .int .u64 p3, .int .u64 p4, .int .u64 p5, .int .u64 p6, .int .u64 p7, .int .u64 p8, .int .u64 p9] rfl Bg0 rfl Try.underlying32 rfl (by kernel_rfl) ?_) | ((go_at_call 54); (with_reducible refine (prodN_0 p3 p4 p5 p6 p7 p8 p9 256 _).mono ?_); rintro e w2 ⟨rfl, hl⟩; replace Bg0 := Bg0.below hl; replace HS := HS.below hl; clear hl; clear kg0_0))
 all_goals (go_ret; exact ⟨rfl, HS.out⟩)
theorem window3n_0 (c1 c2 c3 c4 c5 c6 c7 c8 c9 c10 c11 c12 c13 c14 c16 c17 c18 c19 c23 c24 c25 c26 c27 c28 c29 c30 c31 c32 c33 c34 c35 c36 c37 c39 c40 : Int) (c15 c38 : Bool)  (w : World) :
  Calls Try.prog 15 #[.agg (K36 3 c1 c2 c3 c4 c5 c6 c7 c8 c9 c10 c11 c12 c13 c14 c15 c16 c17 c18 c19 0 (.slice none 0 0) 18446744073709551615 c23 c24 c25 c26 c27 c28 c29 c30 c31 c32 c33 c34 c35 c36 c37 c38 c39 c40).toArray] w fun e w' => e = .returned (.int .u64 12000) ∧ Below w.heap.size w w' := by
 have hu32 := Try.underlying32
 have hu36 := Try.underlying36
 have HS := Since.refl w
 go_enter Try.func15, Try.ntmps15
 go_wp2_with (first | (refine seg_new rfl (N := 1) rfl (K36 3 c1 c2 c3 c4 c5 c6 c7 c8 c9 c10 c11 c12 c13 c14 c15 c16 c17 c18 c19 0 (.slice none 0 0) 18446744073709551615 c23 c24 c25 c26 c27 c28 c29 c30 c31 c32 c33 c34 c35 c36 c37 c38 c39 c40) 36 ?hr ?_; (case hr => rfl); intro g0 hg w1 hn hl; have GEg0 := ge_new HS hg; clear hg; replace HS := HS.below hl; have Bg0 := hn; clear hl hn; have kg0_0 := Bg0.at 0 rfl) | (refine seg_load rfl (N := 10) rfl 32 (.tmp 9) rfl g0 20 [.int .i64 0, .slice none 0 0, .int .u64 18446744073709551615, .int .u64 c23, .int .u64 c24, .int .u64 c25, .int .u64 c26, .int .u64 c27, .int .u64 c28, .int .u64 c29] rfl Bg0 rfl Try.underlying32 rfl (by kernel_rfl) ?_) | ((go_at_call 35); (with_reducible refine (winN_0 c23 c24 c25 c26 c27 c28 c29 _).mono ?_); rintro e w2 ⟨rfl, hl⟩; replace Bg0 := Bg0.below hl; replace HS := HS.below hl; clear hl; clear kg0_0))
 all_goals (go_ret; exact ⟨rfl, HS.out⟩)
theorem awake_0  (w : World) (h0 : ((uMulDiv 12000 1250 100) == 150000) = true) (h1 : ((uHeld 6000) == 6000) = true) (h2 : ((uHeld (max (uHeld 6000) 12000)) == 12000) = true) :
  Calls Try.prog 8 #[] w fun e w' => e = .returned (.bool true) ∧ Below w.heap.size w w' := by
 have hu36 := Try.underlying36
 have HS := Since.refl w
 go_enter Try.func8, Try.ntmps8
 go_wp2_with (first | ((go_at_call 14); (with_reducible refine (new1_0 0 5 _).mono ?_); rintro e w1 ⟨rfl, hl⟩; replace HS := HS.below hl; clear hl) | (refine seg_new rfl (N := 1) rfl K0 36 ?hr ?_; (case hr => rfl); intro g0 hg w2 hn hl; have GEg0 := ge_new HS hg; clear hg; replace HS := HS.below hl; have Bg0 := hn; clear hl hn) | (refine seg_store rfl rfl 36 (.tmp 1) (.tmp 11) rfl g0 0 (K1 12000 16777216 0 0 0 5 18446744073709551615 18446744073709551615 0 18446744073709551615 0 0 0) (K1 12000 16777216 0 0 0 5 18446744073709551615 18446744073709551615 0 18446744073709551615 0 0 0) (.agg (K1 12000 16777216 0 0 0 5 18446744073709551615 18446744073709551615 0 18446744073709551615 0 0 0).toArray) rfl rfl rfl Bg0 (by kernel_rfl) (nle rfl) rfl rfl ?_; intro w3 hn hw; replace HS := HS.grown hw GEg0; replace Bg0 := hn; clear hw; clear hn) | (refine seg_load rfl (N := 13) rfl 36 (.tmp 1) rfl g0 0 (K1 12000 16777216 0 0 0 5 18446744073709551615 18446744073709551615 0 18446744073709551615 0 0 0) rfl Bg0 rfl Try.underlying36 rfl (by kernel_rfl) ?_) | ((go_at_call 17); (with_reducible refine (loss1_0 12000 16777216 0 0 0 5 18446744073709551615 18446744073709551615 0 18446744073709551615 0 0 0 0 0 0 0 0 0 0 0 0 0 0 0 0 0 0 0 0 0 0 0 0 0 0 0 0 9 0 false false none 0 0 (by decide) (by decide) _ rfl).mono ?_); rintro e w4 ⟨rfl, hl⟩; replace Bg0 := Bg0.below hl; replace HS := HS.below hl; clear hl) | (refine seg_new rfl (N := 3) rfl K0 36 ?hr ?_; (case hr => rfl); intro g1 hg w5 hn hl; have Ng1_g0 := ne_new Bg0 hg; have GEg1 := ge_new HS hg; clear hg; replace Bg0 := Bg0.below hl; replace HS := HS.below hl; have Bg1 := hn; clear hl hn) | (refine seg_store rfl rfl 36 (.tmp 3) (.tmp 14) rfl g1 0 (K1 (uHeld 6000) (uHeld 6000) (uAdd 9 1) 0 2 5 18446744073709551615 18446744073709551615 0 18446744073709551615 0 12000 16777216) (K1 (uHeld 6000) (uHeld 6000) (uAdd 9 1) 0 2 5 18446744073709551615 18446744073709551615 0 18446744073709551615 0 12000 16777216) (.agg (K1 (uHeld 6000) (uHeld 6000) (uAdd 9 1) 0 2 5 18446744073709551615 18446744073709551615 0 18446744073709551615 0 12000 16777216).toArray) rfl rfl rfl Bg1 (by kernel_rfl) (nle rfl) rfl rfl ?_; intro w6 hn hw; replace Bg0 := Bg0.grown hw Ng1_g0.symm; replace HS := HS.grown hw GEg1; replace Bg1 := hn; clear hw; clear hn) | (refine seg_load rfl (N := 15) rfl 36 (.tmp 3) rfl g1 0 (K1 (uHeld 6000) (uHeld 6000) (uAdd 9 1) 0 2 5 18446744073709551615 18446744073709551615 0 18446744073709551615 0 12000 16777216) rfl Bg1 rfl Try.underlying36 rfl (by kernel_rfl) ?_) | ((go_at_call 18); (with_reducible refine (undo1_0 (uHeld 6000) (uHeld 6000) (uAdd 9 1) 0 2 5 18446744073709551615 18446744073709551615 0 18446744073709551615 0 0 0 0 0 0 0 0 0 0 0 0 0 0 0 0 0 0 0 0 0 0 0 0 0 12000 16777216 false false none 0 0 _).mono ?_); rintro e w7 ⟨rfl, hl⟩; replace Bg0 := Bg0.below hl; replace Bg1 := Bg1.below hl; replace HS := HS.below hl; clear hl) | (refine seg_new rfl (N := 4) rfl K0 36 ?hr ?_; (case hr => rfl); intro g2 hg w8 hn hl; have Ng2_g0 := ne_new Bg0 hg; have Ng2_g1 := ne_new Bg1 hg; have GEg2 := ge_new HS hg; clear hg; replace Bg0 := Bg0.below hl; replace Bg1 := Bg1.below hl; replace HS := HS.below hl; have Bg2 := hn; clear hl hn) | (refine seg_store rfl rfl 36 (.tmp 4) (.tmp 16) rfl g2 0 (K1 (uHeld (max (uHeld 6000) 12000)) (uHeld (max (uHeld 6000) 16777216)) 0 0 2 5 18446744073709551615 18446744073709551615 0 18446744073709551615 0 0 0) (K1 (uHeld (max (uHeld 6000) 12000)) (uHeld (max (uHeld 6000) 16777216)) 0 0 2 5 18446744073709551615 18446744073709551615 0 18446744073709551615 0 0 0) (.agg (K1 (uHeld (max (uHeld 6000) 12000)) (uHeld (max (uHeld 6000) 16777216)) 0 0 2 5 18446744073709551615 18446744073709551615 0 18446744073709551615 0 0 0).toArray) rfl rfl rfl Bg2 (by kernel_rfl) (nle rfl) rfl rfl ?_; intro w9 hn hw; replace Bg0 := Bg0.grown hw Ng2_g0.symm; replace Bg1 := Bg1.grown hw Ng2_g1.symm; replace HS := HS.grown hw GEg2; replace Bg2 := hn; clear hw; clear hn) | ((go_at_call 14); (with_reducible refine (newN_0 5 0 0 _ rfl rfl rfl rfl).mono ?_); rintro e w10 ⟨rfl, hl⟩; replace Bg0 := Bg0.below hl; replace Bg1 := Bg1.below hl; replace Bg2 := Bg2.below hl; replace HS := HS.below hl; clear hl) | (refine seg_new rfl (N := 5) rfl K0 36 ?hr ?_; (case hr => rfl); intro g3 hg w11 hn hl; have Ng3_g0 := ne_new Bg0 hg; have Ng3_g1 := ne_new Bg1 hg; have Ng3_g2 := ne_new Bg2 hg; have GEg3 := ge_new HS hg; clear hg; replace Bg0 := Bg0.below hl; replace Bg1 := Bg1.below hl; replace Bg2 := Bg2.below hl; replace HS := HS.below hl; have Bg3 := hn; clear hl hn) | (refine seg_store rfl rfl 36 (.tmp 5) (.tmp 19) rfl g3 0 K0 K0 (.agg K0.toArray) rfl rfl rfl Bg3 (by kernel_rfl) (nle rfl) rfl rfl ?_; intro w12 hn hw; replace Bg0 := Bg0.grown hw Ng3_g0.symm; replace Bg1 := Bg1.grown hw Ng3_g1.symm; replace Bg2 := Bg2.grown hw Ng3_g2.symm; replace HS := HS.grown hw GEg3; replace Bg3 := hn; clear hw; clear hn) | ((go_at_call 14); (with_reducible refine (new3_0 0 5 _).mono ?_); rintro e w13 ⟨rfl, hl⟩; replace Bg0 := Bg0.below hl; replace Bg1 := Bg1.below hl; replace Bg2 := Bg2.below hl; replace Bg3 := Bg3.below hl; replace HS := HS.below hl; clear hl) | (refine seg_new rfl (N := 7) rfl K0 36 ?hr ?_; (case hr => rfl); intro g4 hg w14 hn hl; have Ng4_g0 := ne_new Bg0 hg; have Ng4_g1 := ne_new Bg1 hg; have Ng4_g2 := ne_new Bg2 hg; have Ng4_g3 := ne_new Bg3 hg; have GEg4 := ge_new HS hg; clear hg; replace Bg0 := Bg0.below hl; replace Bg1 := Bg1.below hl; replace Bg2 := Bg2.below hl; replace Bg3 := Bg3.below hl; replace HS := HS.below hl; have Bg4 := hn; clear hl hn) | (refine seg_store rfl rfl 36 (.tmp 7) (.tmp 23) rfl g4 0 (K3 0 5 18446744073709551615 18446744073709551615 0 18446744073709551615 0 0 (.slice none 0 0) 18446744073709551615 0 0 0 0 0 0 16777216 0 0) (K3 0 5 18446744073709551615 18446744073709551615 0 18446744073709551615 0 0 (.slice none 0 0) 18446744073709551615 0 0 0 0 0 0 16777216 0 0) (.agg (K3 0 5 18446744073709551615 18446744073709551615 0 18446744073709551615 0 0 (.slice none 0 0) 18446744073709551615 0 0 0 0 0 0 16777216 0 0).toArray) rfl rfl rfl Bg4 (by kernel_rfl) (nle rfl) rfl rfl ?_; intro w15 hn hw; replace Bg0 := Bg0.grown hw Ng4_g0.symm; replace Bg1 := Bg1.grown hw Ng4_g1.symm; replace Bg2 := Bg2.grown hw Ng4_g2.symm; replace Bg3 := Bg3.grown hw Ng4_g3.symm; replace HS := HS.grown hw GEg4; replace Bg4 := hn; clear hw; clear hn) | (refine gate_guard (by first | rfl | kernel_rfl | (go_simp; done)) ?_; refine seg_load rfl (N := 28) rfl 36 (.tmp 1) rfl g0 0 (K1 12000 16777216 0 0 0 5 18446744073709551615 18446744073709551615 0 18446744073709551615 0 0 0) rfl Bg0 rfl Try.underlying36 rfl (by kernel_rfl) ?_) | ((go_at_call 15); (with_reducible refine (window1_0 12000 16777216 0 0 0 5 18446744073709551615 18446744073709551615 0 18446744073709551615 0 0 0 0 0 0 0 0 0 0 0 0 0 0 0 0 0 0 0 0 0 0 0 0 0 0 0 false false none 0 0 _).mono ?_); rintro e w16 ⟨rfl, hl⟩; replace Bg0 := Bg0.below hl; replace Bg1 := Bg1.below hl; replace Bg2 := Bg2.below hl; replace Bg3 := Bg3.below hl; replace Bg4 := Bg4.below hl; replace HS := HS.below hl; clear hl) | (refine gate_guard (by first | rfl | kernel_rfl | (go_simp; done)) ?_; refine seg_load rfl (N := 33) rfl 36 (.tmp 1) rfl g0 0 (K1 12000 16777216 0 0 0 5 18446744073709551615 18446744073709551615 0 18446744073709551615 0 0 0) rfl Bg0 rfl Try.underlying36 rfl (by kernel_rfl) ?_) | ((go_at_call 9); (with_reducible refine (rate1_0 12000 16777216 0 0 0 5 18446744073709551615 18446744073709551615 0 18446744073709551615 0 0 0 0 0 0 0 0 0 0 0 0 0 0 0 0 0 0 0 0 0 0 0 0 0 0 0 100 false false none 0 0 (by decide) (by decide) _).mono ?_); rintro e w17 ⟨rfl, hl⟩; replace Bg0 := Bg0.below hl; replace Bg1 := Bg1.below hl; replace Bg2 := Bg2.below hl; replace Bg3 := Bg3.below hl; replace Bg4 := Bg4.below hl; replace HS := HS.below hl; clear hl) | (refine gate_guard (by first | rfl | kernel_rfl | (go_simp; done)) ?_; refine seg_load rfl (N := 38) rfl 36 (.tmp 3) rfl g1 0 (K1 (uHeld 6000) (uHeld 6000) (uAdd 9 1) 0 2 5 18446744073709551615 18446744073709551615 0 18446744073709551615 0 12000 16777216) rfl Bg1 rfl Try.underlying36 rfl (by kernel_rfl) ?_) | ((go_at_call 15); (with_reducible refine (window1_0 (uHeld 6000) (uHeld 6000) (uAdd 9 1) 0 2 5 18446744073709551615 18446744073709551615 0 18446744073709551615 0 0 0 0 0 0 0 0 0 0 0 0 0 0 0 0 0 0 0 0 0 0 0 0 0 12000 16777216 false false none 0 0 _).mono ?_); rintro e w18 ⟨rfl, hl⟩; replace Bg0 := Bg0.below hl; replace Bg1 := Bg1.below hl; replace Bg2 := Bg2.below hl; replace Bg3 := Bg3.below hl; replace Bg4 := Bg4.below hl; replace HS := HS.below hl; clear hl) | (refine gate_guard (by first | rfl | kernel_rfl | (go_simp; done)) ?_; refine seg_load rfl (N := 43) rfl 36 (.tmp 4) rfl g2 0 (K1 (uHeld (max (uHeld 6000) 12000)) (uHeld (max (uHeld 6000) 16777216)) 0 0 2 5 18446744073709551615 18446744073709551615 0 18446744073709551615 0 0 0) rfl Bg2 rfl Try.underlying36 rfl (by kernel_rfl) ?_) | ((go_at_call 15); (with_reducible refine (window1_0 (uHeld (max (uHeld 6000) 12000)) (uHeld (max (uHeld 6000) 16777216)) 0 0 2 5 18446744073709551615 18446744073709551615 0 18446744073709551615 0 0 0 0 0 0 0 0 0 0 0 0 0 0 0 0 0 0 0 0 0 0 0 0 0 0 0 false false none 0 0 _).mono ?_); rintro e w19 ⟨rfl, hl⟩; replace Bg0 := Bg0.below hl; replace Bg1 := Bg1.below hl; replace Bg2 := Bg2.below hl; replace Bg3 := Bg3.below hl; replace Bg4 := Bg4.below hl; replace HS := HS.below hl; clear hl) | (refine gate_guard (by first | rfl | kernel_rfl | (go_simp; done)) ?_; refine seg_load rfl (N := 52) rfl 36 (.tmp 7) rfl g4 0 (K3 0 5 18446744073709551615 18446744073709551615 0 18446744073709551615 0 0 (.slice none 0 0) 18446744073709551615 0 0 0 0 0 0 16777216 0 0) rfl Bg4 rfl Try.underlying36 rfl (by kernel_rfl) ?_) | ((go_at_call 15); (with_reducible refine (window3n_0 0 0 0 0 0 5 18446744073709551615 18446744073709551615 0 18446744073709551615 0 0 0 0 0 0 0 0 0 0 0 0 0 0 16777216 0 0 0 0 0 0 0 0 0 0 false false _).mono ?_); rintro e w20 ⟨rfl, hl⟩; replace Bg0 := Bg0.below hl; replace Bg1 := Bg1.below hl; replace Bg2 := Bg2.below hl; replace Bg3 := Bg3.below hl; replace Bg4 := Bg4.below hl; replace HS := HS.below hl; clear hl))
 all_goals (go_ret; exact ⟨by first | rfl | (simp; done), HS.out⟩)
end Go.Proofs.Ytpgffmnbdggpnaa.PCv
end
