/- Several texts of this claim in one. -/
import Derived.Deep.DeepMust
import Derived.Test.YtpgffmnbdggpnaaKB
import Derived.Test.YtpgffmnbdggpnaaKW
section
namespace Go.Proofs.Ytpgffmnbdggpnaa.PCv
open Go.RowKit Go.Proofs.YtpgffmnbdggpnaaW.PrintWords Go.Proofs.YtpgffmnbdggpnaaW.PrintLast Go.Proofs.YtpgffmnbdggpnaaW.PrintMore
set_option linter.unusedVariables false
set_option linter.unusedSimpArgs false
set_option maxRecDepth 100000
set_option maxHeartbeats 8000000
theorem cubic_ack_0 (r0 r1 r2 r4 r5 r6 r7 by_ at_ now took : Int) (b3 : Bool)  (w : World) :
  Calls Try.prog 12 #[.agg #[.int .u64 r0, .int .u64 r1, .int .u64 r2, .bool b3, .int .u64 r4, .int .u64 r5, .int .u64 r6, .int .u64 r7], .int .u64 by_, .int .u64 at_, .int .u64 now, .int .u64 took, .bool true] w fun e w' => e = .returned (.agg #[.int .u64 r0, .int .u64 r1, .int .u64 r2, .bool b3, .int .u64 r4, .int .u64 r5, .int .u64 r6, .int .u64 r7]) ∧ Below w.heap.size w w' := by
 have hu29 := Try.underlying29
 have HS := Since.refl w
 go_enter Try.func12, Try.ntmps12
 go_wp2_with (first | (refine seg_new rfl (N := 6) rfl [.int .u64 r0, .int .u64 r1, .int .u64 r2, .bool b3, .int .u64 r4, .int .u64 r5, .int .u64 r6, .int .u64 r7] 29 ?hr ?_; (case hr => rfl); intro g0 hg w1 hn hl; have GEg0 := ge_new HS hg; clear hg; replace HS := HS.below hl; have Bg0 := hn; clear hl hn) | (refine seg_new rfl (N := 12) rfl [.int .u64 0, .int .u64 0, .int .u64 0, .bool false, .int .u64 0, .int .u64 0, .int .u64 0, .int .u64 0] 29 ?hr ?_; (case hr => rfl); intro g1 hg w2 hn hl; have Ng1_g0 := ne_new Bg0 hg; have GEg1 := ge_new HS hg; clear hg; replace Bg0 := Bg0.below hl; replace HS := HS.below hl; have Bg1 := hn; clear hl hn) | (refine seg_load rfl (N := 22) rfl 29 (.tmp 6) rfl g0 0 [.int .u64 r0, .int .u64 r1, .int .u64 r2, .bool b3, .int .u64 r4, .int .u64 r5, .int .u64 r6, .int .u64 r7] rfl Bg0 rfl Try.underlying29 rfl (by kernel_rfl) ?_) | (refine seg_store rfl rfl 29 (.tmp 12) (.tmp 22) rfl g1 0 [.int .u64 r0, .int .u64 r1, .int .u64 r2, .bool b3, .int .u64 r4, .int .u64 r5, .int .u64 r6, .int .u64 r7] [.int .u64 r0, .int .u64 r1, .int .u64 r2, .bool b3, .int .u64 r4, .int .u64 r5, .int .u64 r6, .int .u64 r7] (.agg #[.int .u64 r0, .int .u64 r1, .int .u64 r2, .bool b3, .int .u64 r4, .int .u64 r5, .int .u64 r6, .int .u64 r7]) rfl rfl rfl Bg1 (by kernel_rfl) (nle rfl) rfl rfl ?_; intro w3 hn hw; replace Bg0 := Bg0.grown hw Ng1_g0.symm; replace HS := HS.grown hw GEg1; replace Bg1 := hn; clear hw; clear hn))
 all_goals exact bodyPost_ret (results_cell1 rfl _ _ g1 29 [.int .u64 r0, .int .u64 r1, .int .u64 r2, .bool b3, .int .u64 r4, .int .u64 r5, .int .u64 r6, .int .u64 r7] _ rfl Bg1 Try.underlying29 rfl (by kernel_rfl)) rfl ⟨rfl, HS.out⟩
theorem cubic_ack_1 (r0 r1 r2 r4 r5 r6 r7 by_ at_ now took : Int) (b3 : Bool)  (w : World) (h0 : (decide (at_ < r2)) = true) :
  Calls Try.prog 12 #[.agg #[.int .u64 r0, .int .u64 r1, .int .u64 r2, .bool b3, .int .u64 r4, .int .u64 r5, .int .u64 r6, .int .u64 r7], .int .u64 by_, .int .u64 at_, .int .u64 now, .int .u64 took, .bool false] w fun e w' => e = .returned (.agg #[.int .u64 r0, .int .u64 r1, .int .u64 r2, .bool b3, .int .u64 r4, .int .u64 r5, .int .u64 r6, .int .u64 r7]) ∧ Below w.heap.size w w' := by
 have hu29 := Try.underlying29
 have HS := Since.refl w
 go_enter Try.func12, Try.ntmps12
 go_wp2_with (first | (refine seg_new rfl (N := 6) rfl [.int .u64 r0, .int .u64 r1, .int .u64 r2, .bool b3, .int .u64 r4, .int .u64 r5, .int .u64 r6, .int .u64 r7] 29 ?hr ?_; (case hr => rfl); intro g0 hg w1 hn hl; have GEg0 := ge_new HS hg; clear hg; replace HS := HS.below hl; have Bg0 := hn; clear hl hn) | (refine seg_new rfl (N := 12) rfl [.int .u64 0, .int .u64 0, .int .u64 0, .bool false, .int .u64 0, .int .u64 0, .int .u64 0, .int .u64 0] 29 ?hr ?_; (case hr => rfl); intro g1 hg w2 hn hl; have Ng1_g0 := ne_new Bg0 hg; have GEg1 := ge_new HS hg; clear hg; replace Bg0 := Bg0.below hl; replace HS := HS.below hl; have Bg1 := hn; clear hl hn; have kg0_2 := Bg0.at 2 rfl) | (refine seg_load rfl (N := 22) rfl 29 (.tmp 6) rfl g0 0 [.int .u64 r0, .int .u64 r1, .int .u64 r2, .bool b3, .int .u64 r4, .int .u64 r5, .int .u64 r6, .int .u64 r7] rfl Bg0 rfl Try.underlying29 rfl (by kernel_rfl) ?_) | (refine seg_store rfl rfl 29 (.tmp 12) (.tmp 22) rfl g1 0 [.int .u64 r0, .int .u64 r1, .int .u64 r2, .bool b3, .int .u64 r4, .int .u64 r5, .int .u64 r6, .int .u64 r7] [.int .u64 r0, .int .u64 r1, .int .u64 r2, .bool b3, .int .u64 r4, .int .u64 r5, .int .u64 r6, .int .u64 r7] (.agg #[.int .u64 r0, .int .u64 r1, .int .u64 r2, .bool b3, .int .u64 r4, .int .u64 r5, .int .u64 r6, .int .u64 r7]) rfl rfl rfl Bg1 (by kernel_rfl) (nle rfl) rfl rfl ?_; intro w3 hn hw; replace Bg0 := Bg0.grown hw Ng1_g0.symm; replace HS := HS.grown hw GEg1; replace Bg1 := hn; clear hw; clear kg0_2; clear hn))
 all_goals exact bodyPost_ret (results_cell1 rfl _ _ g1 29 [.int .u64 r0, .int .u64 r1, .int .u64 r2, .bool b3, .int .u64 r4, .int .u64 r5, .int .u64 r6, .int .u64 r7] _ rfl Bg1 Try.underlying29 rfl (by kernel_rfl)) rfl ⟨rfl, HS.out⟩
theorem cubic_ack_2 (r0 r1 r2 r4 r5 r6 r7 by_ at_ now took : Int) (b3 : Bool) (Wr0 : W64 r0) (Wby_ : W64 by_) (w : World) (h0 : (decide (at_ < r2)) = false) (h1 : (decide (r0 < r1)) = true) :
  Calls Try.prog 12 #[.agg #[.int .u64 r0, .int .u64 r1, .int .u64 r2, .bool b3, .int .u64 r4, .int .u64 r5, .int .u64 r6, .int .u64 r7], .int .u64 by_, .int .u64 at_, .int .u64 now, .int .u64 took, .bool false] w fun e w' => e = .returned (.agg #[.int .u64 (uHeld (uAdd r0 by_)), .int .u64 r1, .int .u64 r2, .bool b3, .int .u64 r4, .int .u64 r5, .int .u64 r6, .int .u64 r7]) ∧ Below w.heap.size w w' := by
 have hu29 := Try.underlying29
 have HS := Since.refl w
 go_enter Try.func12, Try.ntmps12
 go_wp2_with (first | (refine seg_new rfl (N := 6) rfl [.int .u64 r0, .int .u64 r1, .int .u64 r2, .bool b3, .int .u64 r4, .int .u64 r5, .int .u64 r6, .int .u64 r7] 29 ?hr ?_; (case hr => rfl); intro g0 hg w1 hn hl; have GEg0 := ge_new HS hg; clear hg; replace HS := HS.below hl; have Bg0 := hn; clear hl hn) | (refine seg_new rfl (N := 12) rfl [.int .u64 0, .int .u64 0, .int .u64 0, .bool false, .int .u64 0, .int .u64 0, .int .u64 0, .int .u64 0] 29 ?hr ?_; (case hr => rfl); intro g1 hg w2 hn hl; have Ng1_g0 := ne_new Bg0 hg; have GEg1 := ge_new HS hg; clear hg; replace Bg0 := Bg0.below hl; replace HS := HS.below hl; have Bg1 := hn; clear hl hn; have kg0_0 := Bg0.at 0 rfl; have kg0_1 := Bg0.at 1 rfl; have kg0_2 := Bg0.at 2 rfl) | ((go_at_call 25); (with_reducible refine (fix_Add.C r0 by_ Wr0 Wby_ _).mono ?_); rintro e w3 ⟨rfl, hd⟩; have hl := hd.below; clear hd; replace Bg0 := Bg0.below hl; replace Bg1 := Bg1.below hl; replace HS := HS.below hl; clear hl; clear kg0_0 kg0_1 kg0_2) | ((go_at_call 24); (with_reducible refine (reno_Held.C (uAdd r0 by_) _).mono ?_); rintro e w4 ⟨rfl, hd⟩; have hl := hd.below; clear hd; replace Bg0 := Bg0.below hl; replace Bg1 := Bg1.below hl; replace HS := HS.below hl; clear hl) | (refine seg_store rfl rfl 23 (.tmp 34) (.tmp 33) rfl g0 0 [.int .u64 (uHeld (uAdd r0 by_))] [.int .u64 (uHeld (uAdd r0 by_)), .int .u64 r1, .int .u64 r2, .bool b3, .int .u64 r4, .int .u64 r5, .int .u64 r6, .int .u64 r7] (.int .u64 (uHeld (uAdd r0 by_))) rfl rfl rfl Bg0 (by kernel_rfl) (nle rfl) rfl rfl ?_; intro w5 hn hw; replace Bg1 := Bg1.grown hw Ng1_g0; replace HS := HS.grown hw GEg0; replace Bg0 := hn; clear hw; clear hn) | (refine seg_load rfl (N := 35) rfl 29 (.tmp 6) rfl g0 0 [.int .u64 (uHeld (uAdd r0 by_)), .int .u64 r1, .int .u64 r2, .bool b3, .int .u64 r4, .int .u64 r5, .int .u64 r6, .int .u64 r7] rfl Bg0 rfl Try.underlying29 rfl (by kernel_rfl) ?_) | (refine seg_store rfl rfl 29 (.tmp 12) (.tmp 35) rfl g1 0 [.int .u64 (uHeld (uAdd r0 by_)), .int .u64 r1, .int .u64 r2, .bool b3, .int .u64 r4, .int .u64 r5, .int .u64 r6, .int .u64 r7] [.int .u64 (uHeld (uAdd r0 by_)), .int .u64 r1, .int .u64 r2, .bool b3, .int .u64 r4, .int .u64 r5, .int .u64 r6, .int .u64 r7] (.agg #[.int .u64 (uHeld (uAdd r0 by_)), .int .u64 r1, .int .u64 r2, .bool b3, .int .u64 r4, .int .u64 r5, .int .u64 r6, .int .u64 r7]) rfl rfl rfl Bg1 (by kernel_rfl) (nle rfl) rfl rfl ?_; intro w6 hn hw; replace Bg0 := Bg0.grown hw Ng1_g0.symm; replace HS := HS.grown hw GEg1; replace Bg1 := hn; clear hw; clear hn))
 all_goals exact bodyPost_ret (results_cell1 rfl _ _ g1 29 [.int .u64 (uHeld (uAdd r0 by_)), .int .u64 r1, .int .u64 r2, .bool b3, .int .u64 r4, .int .u64 r5, .int .u64 r6, .int .u64 r7] _ rfl Bg1 Try.underlying29 rfl (by kernel_rfl)) rfl ⟨rfl, HS.out⟩
theorem cubic_ack_3 (r0 r1 r2 r4 r5 r6 r7 by_ at_ now took : Int) (Wr0 : W64 r0) (Wr4 : W64 r4) (Wr5 : W64 r5) (Wr6 : W64 r6) (Wr7 : W64 r7) (Wby_ : W64 by_) (Wnow : W64 now) (Wtook : W64 took) (w : World) (h0 : (decide (at_ < r2)) = false) (h1 : (decide (r0 < r1)) = false) :
  Calls Try.prog 12 #[.agg #[.int .u64 r0, .int .u64 r1, .int .u64 r2, .bool true, .int .u64 r4, .int .u64 r5, .int .u64 r6, .int .u64 r7], .int .u64 by_, .int .u64 at_, .int .u64 now, .int .u64 took, .bool false] w fun e w' => e = .returned (.agg #[.int .u64 (uHeld (max (uAdd r7 (uMulDiv by_ 635 r0)) (uAdd r0 (uMulDiv (IntKind.u64.wrap ((uTarget r0 r5 r6 (uAdd (uSub now r4) took)) - r0)) by_ r0)))), .int .u64 r1, .int .u64 r2, .bool true, .int .u64 r4, .int .u64 r5, .int .u64 r6, .int .u64 (uAdd r7 (uMulDiv by_ 635 r0))]) ∧ Below w.heap.size w w' := by
 have hu29 := Try.underlying29
 have HS := Since.refl w
 go_enter Try.func12, Try.ntmps12
 go_wp2_with (first | (refine seg_new rfl (N := 6) rfl [.int .u64 r0, .int .u64 r1, .int .u64 r2, .bool true, .int .u64 r4, .int .u64 r5, .int .u64 r6, .int .u64 r7] 29 ?hr ?_; (case hr => rfl); intro g0 hg w1 hn hl; have GEg0 := ge_new HS hg; clear hg; replace HS := HS.below hl; have Bg0 := hn; clear hl hn) | (refine seg_new rfl (N := 12) rfl [.int .u64 0, .int .u64 0, .int .u64 0, .bool false, .int .u64 0, .int .u64 0, .int .u64 0, .int .u64 0] 29 ?hr ?_; (case hr => rfl); intro g1 hg w2 hn hl; have Ng1_g0 := ne_new Bg0 hg; have GEg1 := ge_new HS hg; clear hg; replace Bg0 := Bg0.below hl; replace HS := HS.below hl; have Bg1 := hn; clear hl hn; have kg0_0 := Bg0.at 0 rfl; have kg0_1 := Bg0.at 1 rfl; have kg0_2 := Bg0.at 2 rfl; have kg0_3 := Bg0.at 3 rfl; have kg0_7 := Bg0.at 7 rfl; have zg0_7 := Bg0.frozen 7))
 refine start_ (n := 9) (S := fun w' => w'.cell? ⟨g0, 7, none⟩ = some (.int .u64 r7) ∧ w'.cell? ⟨g0, 0, none⟩ = some (.int .u64 r0)) (ds := [8]) (bs 9 0) (by kernel_rfl) rfl rfl ⟨((Bg0.drew.cell 7).trans rfl), ((Bg0.drew.cell 0).trans rfl)⟩ (fun hHeld => ?_)
 generalize hWd : World.drew w2 = w3 at hHeld ⊢
 have hl : Below w2.heap.size w2 w3 := (by rw [← hWd]; exact below_drew1 (Below.refl _ _))
 clear hWd
 replace Bg0 := Bg0.below hl; replace Bg1 := Bg1.below hl; replace HS := HS.below hl; clear hl; replace kg0_0 := Bg0.at 0 rfl; replace kg0_1 := Bg0.at 1 rfl; replace kg0_2 := Bg0.at 2 rfl; replace kg0_3 := Bg0.at 3 rfl; replace kg0_7 := Bg0.at 7 rfl; replace zg0_7 := Bg0.frozen 7
 refine pu 0 65 (.pointer (some ⟨g0, 7, none⟩)) 1 rfl rfl (by kernel_rfl) (fun _ _ _ h => h) (by rfl) (fun _ => by kernel_rfl) rfl ?_
 refine pu 2 67 (.int .u64 by_) 5 rfl rfl (by kernel_rfl) (fun _ _ _ h => h) (by rfl) (fun _ => by kernel_rfl) rfl ?_
 refine pu 3 68 (.pointer (some ⟨g0, 0, none⟩)) 13 rfl rfl (by kernel_rfl) (fun _ _ _ h => h) (by rfl) (fun _ => by kernel_rfl) rfl ?_
 refine norm_ (a' := ?_) ?_ ?_
 rotate_left
 ·simp only [Act.put, zA_, z0_, z1_, i64_w, i32_w]
  rfl
 refine take_ (i := 1) (N := some 66) (v := ?_) (a' := ?_) (bs 9 15) rfl rfl (by kernel_rfl) (fun _ _ _ h => h) (Or.inl ⟨by rfl, ?_⟩) hHeld ?_ ?_
 rotate_left
 ·rintro w' ⟨s0, s1⟩
  go_simp
  with_reducible rfl
 rotate_left
 ·simp only [Act.put, zA_, z0_, z1_, i64_w, i32_w]
  rfl
 refine take_ (i := 4) (N := some 69) (v := ?_) (a' := ?_) (bs 9 31) rfl rfl (by kernel_rfl) (fun _ _ _ h => h) (Or.inl ⟨by rfl, ?_⟩) hHeld ?_ ?_
 rotate_left
 ·rintro w' ⟨s0, s1⟩
  go_simp
  with_reducible rfl
 rotate_left
 ·simp only [Act.put, zA_, z0_, z1_, i64_w, i32_w]
  rfl
 refine one_ (i := 5) (N := some 70) (bs 9 63) rfl rfl (by kernel_rfl) (by decide) (fun K hK => ?_)
 refine goes_ Try.func20 (by kernel_rfl) rfl #[.int .u64 by_, .int .u64 635, .int .u64 r0] (by rfl) rfl rfl (by simp only [List.map_toArray, List.map_cons, List.map_nil]; rfl) ?_
 with_reducible refine (fix_MulDivT.C by_ 635 r0 Wby_ (by decide) Wr0 _).mono ?_
 rintro e w4 ⟨rfl, hd⟩
 refine ⟨_, rfl, ?_⟩
 have hl := hd.below
 clear hd
 replace Bg0 := Bg0.below hl; replace Bg1 := Bg1.below hl; replace HS := HS.below hl; clear hl; replace kg0_0 := Bg0.at 0 rfl; replace kg0_1 := Bg0.at 1 rfl; replace kg0_2 := Bg0.at 2 rfl; replace kg0_3 := Bg0.at 3 rfl; replace kg0_7 := Bg0.at 7 rfl; replace zg0_7 := Bg0.frozen 7
 refine hK.out _ _ ⟨((Bg0.cell 7).trans rfl), ((Bg0.cell 0).trans rfl)⟩ (fun hHeld => ?_)
 clear hK K
 refine norm_ (a' := ?_) ?_ ?_
 rotate_left
 ·show Act.put _ (some 70) _ = _
  simp only [Act.put, zA_, z0_, z1_, i64_w, i32_w]
  rfl
 refine one_ (i := 6) (N := some 71) (bs 9 127) rfl rfl (by kernel_rfl) (by decide) (fun K hK => ?_)
 refine goes_ Try.func25 (by kernel_rfl) rfl #[.int .u64 r7, .int .u64 (uMulDiv by_ 635 r0)] (by rfl) rfl rfl (by simp only [List.map_toArray, List.map_cons, List.map_nil]; rfl) ?_
 with_reducible refine (fix_Add.C r7 (uMulDiv by_ 635 r0) Wr7 (uMulDiv_w Wby_ (by decide) Wr0) _).mono ?_
 rintro e w5 ⟨rfl, hd⟩
 refine ⟨_, rfl, ?_⟩
 have hl := hd.below
 clear hd
 replace Bg0 := Bg0.below hl; replace Bg1 := Bg1.below hl; replace HS := HS.below hl; clear hl; replace kg0_0 := Bg0.at 0 rfl; replace kg0_1 := Bg0.at 1 rfl; replace kg0_2 := Bg0.at 2 rfl; replace kg0_3 := Bg0.at 3 rfl; replace kg0_7 := Bg0.at 7 rfl; replace zg0_7 := Bg0.frozen 7
 refine hK.out _ _ ⟨((Bg0.cell 7).trans rfl), ((Bg0.cell 0).trans rfl)⟩ (fun hHeld => ?_)
 clear hK K
 refine norm_ (a' := ?_) ?_ ?_
 rotate_left
 ·show Act.put _ (some 71) _ = _
  simp only [Act.put, zA_, z0_, z1_, i64_w, i32_w]
  rfl
 refine pu 7 72 (.pointer (some ⟨g0, 7, none⟩)) 255 rfl rfl (by kernel_rfl) (fun _ _ _ h => h) (by rfl) (fun _ => by kernel_rfl) rfl ?_
 refine norm_ (a' := ?_) ?_ ?_
 rotate_left
 ·simp only [Act.put, zA_, z0_, z1_, i64_w, i32_w]
  rfl
 refine last_ (i := 8) (N := none) (bs 9 511) rfl rfl (by kernel_rfl) (by decide) (fun K hK => ?_)
 refine skip_ (w1 := ?_) (by rfl) rfl ?_ ?_
 rotate_left
 ·go_simp
  rfl
 refine hK.out _ _ ?_
 clear hK K
 refine done_ (by kernel_rfl) ?_
 refine letter ?_
 intro w6 hW
 have Bn_ : Blk w6 g0 29 [.int .u64 r0, .int .u64 r1, .int .u64 r2, .bool true, .int .u64 r4, .int .u64 r5, .int .u64 r6, .int .u64 (uAdd r7 (uMulDiv by_ 635 r0))] := (by rw [hW]; (repeat (first | (with_reducible refine Blk.drewN ?_ _) | (with_reducible refine Blk.drew ?_))); refine Blk.set (l := [.int .u64 r0, .int .u64 r1, .int .u64 r2, .bool true, .int .u64 r4, .int .u64 r5, .int .u64 r6, .int .u64 r7]) ?_ 7 _ rfl; (repeat (first | (with_reducible refine Blk.drewN ?_ _) | (with_reducible refine Blk.drew ?_))); exact Bg0)
 replace Bg0 := Bn_
 clear Bn_
 have Bn_ : Blk w6 g1 29 [.int .u64 0, .int .u64 0, .int .u64 0, .bool false, .int .u64 0, .int .u64 0, .int .u64 0, .int .u64 0] := (by rw [hW]; (repeat (first | (with_reducible refine Blk.drewN ?_ _) | (with_reducible refine Blk.drew ?_))); refine Blk.setFar ?_ Ng1_g0; (repeat (first | (with_reducible refine Blk.drewN ?_ _) | (with_reducible refine Blk.drew ?_))); exact Bg1)
 replace Bg1 := Bn_
 clear Bn_
 have HS_ : Since w w6 := (by rw [hW]; repeat (first | (with_reducible exact HS) | (with_reducible refine Since.drewN ?_ _) | (with_reducible refine Since.drew ?_) | (with_reducible refine Since.set ?_ GEg0)))
 replace HS := HS_
 clear HS_ hW
 clear kg0_1 kg0_2 kg0_3 kg0_7 zg0_7; replace kg0_0 := Bg0.at 0 rfl; have kg0_4 := Bg0.at 4 rfl
 go_wp2
 refine start_ (n := 12) (S := fun w' => Blk w' g0 29 [.int .u64 r0, .int .u64 r1, .int .u64 r2, .bool true, .int .u64 r4, .int .u64 r5, .int .u64 r6, .int .u64 (uAdd r7 (uMulDiv by_ 635 r0))] ∧ w'.cell? ⟨g0, 4, none⟩ = some (.int .u64 r4) ∧ w'.cell? ⟨g0, 0, none⟩ = some (.int .u64 r0)) (ds := []) (bs 12 0) (by kernel_rfl) rfl rfl ⟨Bg0.drew, ((Bg0.drew.cell 4).trans rfl), ((Bg0.drew.cell 0).trans rfl)⟩ (fun hHeld => ?_)
 generalize hWd : World.drew w6 = w7 at hHeld ⊢
 have hl : Below w6.heap.size w6 w7 := (by rw [← hWd]; exact below_drew1 (Below.refl _ _))
 clear hWd
 replace Bg0 := Bg0.below hl; replace Bg1 := Bg1.below hl; replace HS := HS.below hl; clear hl; replace kg0_0 := Bg0.at 0 rfl; replace kg0_4 := Bg0.at 4 rfl
 refine pu 1 74 (.int .u64 now) 2 rfl rfl (by kernel_rfl) (fun _ _ _ h => h) (by rfl) (fun _ => by kernel_rfl) rfl ?_
 refine pu 2 75 (.pointer (some ⟨g0, 4, none⟩)) 6 rfl rfl (by kernel_rfl) (fun _ _ _ h => h) (by rfl) (fun _ => by kernel_rfl) rfl ?_
 refine pu 5 78 (.int .u64 took) 38 rfl rfl (by kernel_rfl) (fun _ _ _ h => h) (by rfl) (fun _ => by kernel_rfl) rfl ?_
 refine pu 8 81 (.pointer (some ⟨g0, 0, none⟩)) 294 rfl rfl (by kernel_rfl) (fun _ _ _ h => h) (by rfl) (fun _ => by kernel_rfl) rfl ?_
 refine norm_ (a' := ?_) ?_ ?_
 rotate_left
 ·simp only [Act.put, zA_, z0_, z1_, i64_w, i32_w]
  rfl
 refine take_ (i := 0) (N := some 73) (v := .agg #[.int .u64 r0, .int .u64 r1, .int .u64 r2, .bool true, .int .u64 r4, .int .u64 r5, .int .u64 r6, .int .u64 (uAdd r7 (uMulDiv by_ 635 r0))]) (a' := ?_) (bs 12 295) rfl rfl (by kernel_rfl) (fun _ _ _ h => h) (Or.inl ⟨by rfl, ?_⟩) hHeld ?_ ?_
 ·rintro w' ⟨s0, s1, s2⟩
  exact exec_seg_load 29 (.tmp 6) (by rfl) g0 0 [.int .u64 r0, .int .u64 r1, .int .u64 r2, .bool true, .int .u64 r4, .int .u64 r5, .int .u64 r6, .int .u64 (uAdd r7 (uMulDiv by_ 635 r0))] (by rfl) s0 (by rfl) Try.underlying29 (by rfl) (by kernel_rfl)
 rotate_left
 ·simp only [Act.put, zA_, z0_, z1_, i64_w, i32_w]
  rfl
 refine take_ (i := 3) (N := some 76) (v := ?_) (a' := ?_) (bs 12 303) rfl rfl (by kernel_rfl) (fun _ _ _ h => h) (Or.inl ⟨by rfl, ?_⟩) hHeld ?_ ?_
 rotate_left
 ·rintro w' ⟨s0, s1, s2⟩
  go_simp
  with_reducible rfl
 rotate_left
 ·simp only [Act.put, zA_, z0_, z1_, i64_w, i32_w]
  rfl
 refine take_ (i := 9) (N := some 82) (v := ?_) (a' := ?_) (bs 12 815) rfl rfl (by kernel_rfl) (fun _ _ _ h => h) (Or.inl ⟨by rfl, ?_⟩) hHeld ?_ ?_
 rotate_left
 ·rintro w' ⟨s0, s1, s2⟩
  go_simp
  with_reducible rfl
 rotate_left
 ·simp only [Act.put, zA_, z0_, z1_, i64_w, i32_w]
  rfl
 refine one_ (i := 4) (N := some 77) (bs 12 831) rfl rfl (by kernel_rfl) (by decide) (fun K hK => ?_)
 refine goes_ Try.func29 (by kernel_rfl) rfl #[.int .u64 now, .int .u64 r4] (by rfl) rfl rfl (by simp only [List.map_toArray, List.map_cons, List.map_nil]; rfl) ?_
 with_reducible refine (fix_Sub.C now r4 Wnow Wr4 _).mono ?_
 rintro e w8 ⟨rfl, hd⟩
 refine ⟨_, rfl, ?_⟩
 have hl := hd.below
 clear hd
 replace Bg0 := Bg0.below hl; replace Bg1 := Bg1.below hl; replace HS := HS.below hl; clear hl; replace kg0_0 := Bg0.at 0 rfl; replace kg0_4 := Bg0.at 4 rfl
 refine hK.out _ _ ⟨Bg0, ((Bg0.cell 4).trans rfl), ((Bg0.cell 0).trans rfl)⟩ (fun hHeld => ?_)
 clear hK K
 refine norm_ (a' := ?_) ?_ ?_
 rotate_left
 ·show Act.put _ (some 77) _ = _
  simp only [Act.put, zA_, z0_, z1_, i64_w, i32_w]
  rfl
 refine one_ (i := 6) (N := some 79) (bs 12 895) rfl rfl (by kernel_rfl) (by decide) (fun K hK => ?_)
 refine goes_ Try.func25 (by kernel_rfl) rfl #[.int .u64 (uSub now r4), .int .u64 took] (by rfl) rfl rfl (by simp only [List.map_toArray, List.map_cons, List.map_nil]; rfl) ?_
 with_reducible refine (fix_Add.C (uSub now r4) took (uSub_w Wnow Wr4) Wtook _).mono ?_
 rintro e w9 ⟨rfl, hd⟩
 refine ⟨_, rfl, ?_⟩
 have hl := hd.below
 clear hd
 replace Bg0 := Bg0.below hl; replace Bg1 := Bg1.below hl; replace HS := HS.below hl; clear hl; replace kg0_0 := Bg0.at 0 rfl; replace kg0_4 := Bg0.at 4 rfl
 refine hK.out _ _ ⟨Bg0, ((Bg0.cell 4).trans rfl), ((Bg0.cell 0).trans rfl)⟩ (fun hHeld => ?_)
 clear hK K
 refine norm_ (a' := ?_) ?_ ?_
 rotate_left
 ·show Act.put _ (some 79) _ = _
  simp only [Act.put, zA_, z0_, z1_, i64_w, i32_w]
  rfl
 refine one_ (i := 7) (N := some 80) (bs 12 1023) rfl rfl (by kernel_rfl) (by decide) (fun K hK => ?_)
 refine goes_ Try.func28 (by kernel_rfl) rfl #[.agg #[.int .u64 r0, .int .u64 r1, .int .u64 r2, .bool true, .int .u64 r4, .int .u64 r5, .int .u64 r6, .int .u64 (uAdd r7 (uMulDiv by_ 635 r0))], .int .u64 (uAdd (uSub now r4) took)] (by rfl) rfl rfl (by simp only [List.map_toArray, List.map_cons, List.map_nil]; rfl) ?_
 with_reducible refine (targetC r0 r1 r2 true r4 r5 r6 (uAdd r7 (uMulDiv by_ 635 r0)) (uAdd (uSub now r4) took) Wr0 Wr5 Wr6 (uAdd_w (uSub_w Wnow Wr4) Wtook) _).mono ?_
 rintro e w10 ⟨rfl, hl⟩
 refine ⟨_, rfl, ?_⟩
 replace Bg0 := Bg0.below hl; replace Bg1 := Bg1.below hl; replace HS := HS.below hl; clear hl; replace kg0_0 := Bg0.at 0 rfl; replace kg0_4 := Bg0.at 4 rfl
 refine hK.out _ _ ⟨Bg0, ((Bg0.cell 4).trans rfl), ((Bg0.cell 0).trans rfl)⟩ (fun hHeld => ?_)
 clear hK K
 refine norm_ (a' := ?_) ?_ ?_
 rotate_left
 ·show Act.put _ (some 80) _ = _
  simp only [Act.put, zA_, z0_, z1_, i64_w, i32_w]
  rfl
 refine pure_ (i := 10) (N := some 83) (v := ?_) (a' := ?_) (bs 12 2047) rfl rfl (by kernel_rfl) (fun _ _ _ h => h) (Or.inl ⟨by rfl, ?_⟩) ?_ ?_
 rotate_left
 ·intro w'
  go_simp
  with_reducible rfl
 rotate_left
 ·simp only [Act.put, zA_, z0_, z1_, i64_w, i32_w]
  rfl
 refine pure_ (i := 11) (N := some 13) (v := ?_) (a' := ?_) (bs 12 4095) rfl rfl (by kernel_rfl) (fun _ _ _ h => h) (Or.inl ⟨by rfl, ?_⟩) ?_ ?_
 rotate_left
 ·intro w'
  go_simp
  with_reducible rfl
 rotate_left
 ·simp only [Act.put, zA_, z0_, z1_, i64_w, i32_w]
  rfl
 refine done_ (by kernel_rfl) ?_
 clear kg0_4; replace kg0_0 := Bg0.at 0 rfl; have zg0_0 := Bg0.frozen 0; have kg0_7 := Bg0.at 7 rfl
 go_wp2
 refine start_ (n := 14) (S := fun w' => w'.cell? ⟨g0, 7, none⟩ = some (.int .u64 (uAdd r7 (uMulDiv by_ 635 r0))) ∧ w'.cell? ⟨g0, 0, none⟩ = some (.int .u64 r0)) (ds := [13]) (bs 14 0) (by kernel_rfl) rfl rfl ⟨((Bg0.drew.cell 7).trans rfl), ((Bg0.drew.cell 0).trans rfl)⟩ (fun hHeld => ?_)
 generalize hWd : World.drew w10 = w11 at hHeld ⊢
 have hl : Below w10.heap.size w10 w11 := (by rw [← hWd]; exact below_drew1 (Below.refl _ _))
 clear hWd
 replace Bg0 := Bg0.below hl; replace Bg1 := Bg1.below hl; replace HS := HS.below hl; clear hl; replace kg0_0 := Bg0.at 0 rfl; replace zg0_0 := Bg0.frozen 0; replace kg0_7 := Bg0.at 7 rfl
 refine pu 0 84 (.pointer (some ⟨g0, 7, none⟩)) 1 rfl rfl (by kernel_rfl) (fun _ _ _ h => h) (by rfl) (fun _ => by kernel_rfl) rfl ?_
 refine pu 2 86 (.pointer (some ⟨g0, 0, none⟩)) 5 rfl rfl (by kernel_rfl) (fun _ _ _ h => h) (by rfl) (fun _ => by kernel_rfl) rfl ?_
 refine pu 4 88 (.int .u64 (IntKind.u64.wrap ((uTarget r0 r5 r6 (uAdd (uSub now r4) took)) - r0))) 21 rfl rfl (by kernel_rfl) (fun _ _ _ h => h) (by rfl) (fun _ => by kernel_rfl) rfl ?_
 refine pu 5 89 (.int .u64 by_) 53 rfl rfl (by kernel_rfl) (fun _ _ _ h => h) (by rfl) (fun _ => by kernel_rfl) rfl ?_
 refine pu 6 90 (.pointer (some ⟨g0, 0, none⟩)) 117 rfl rfl (by kernel_rfl) (fun _ _ _ h => h) (by rfl) (fun _ => by kernel_rfl) rfl ?_
 refine norm_ (a' := ?_) ?_ ?_
 rotate_left
 ·simp only [Act.put, zA_, z0_, z1_, i64_w, i32_w]
  rfl
 refine take_ (i := 1) (N := some 85) (v := ?_) (a' := ?_) (bs 14 119) rfl rfl (by kernel_rfl) (fun _ _ _ h => h) (Or.inl ⟨by rfl, ?_⟩) hHeld ?_ ?_
 rotate_left
 ·rintro w' ⟨s0, s1⟩
  go_simp
  with_reducible rfl
 rotate_left
 ·simp only [Act.put, zA_, z0_, z1_, i64_w, i32_w]
  rfl
 refine take_ (i := 3) (N := some 87) (v := ?_) (a' := ?_) (bs 14 127) rfl rfl (by kernel_rfl) (fun _ _ _ h => h) (Or.inl ⟨by rfl, ?_⟩) hHeld ?_ ?_
 rotate_left
 ·rintro w' ⟨s0, s1⟩
  go_simp
  with_reducible rfl
 rotate_left
 ·simp only [Act.put, zA_, z0_, z1_, i64_w, i32_w]
  rfl
 refine take_ (i := 7) (N := some 91) (v := ?_) (a' := ?_) (bs 14 255) rfl rfl (by kernel_rfl) (fun _ _ _ h => h) (Or.inl ⟨by rfl, ?_⟩) hHeld ?_ ?_
 rotate_left
 ·rintro w' ⟨s0, s1⟩
  go_simp
  with_reducible rfl
 rotate_left
 ·simp only [Act.put, zA_, z0_, z1_, i64_w, i32_w]
  rfl
 refine one_ (i := 8) (N := some 92) (bs 14 511) rfl rfl (by kernel_rfl) (by decide) (fun K hK => ?_)
 refine goes_ Try.func20 (by kernel_rfl) rfl #[.int .u64 (IntKind.u64.wrap ((uTarget r0 r5 r6 (uAdd (uSub now r4) took)) - r0)), .int .u64 by_, .int .u64 r0] (by rfl) rfl rfl (by simp only [List.map_toArray, List.map_cons, List.map_nil]; rfl) ?_
 with_reducible refine (fix_MulDivT.C (IntKind.u64.wrap ((uTarget r0 r5 r6 (uAdd (uSub now r4) took)) - r0)) by_ r0 (w64_wrap _) Wby_ Wr0 _).mono ?_
 rintro e w12 ⟨rfl, hd⟩
 refine ⟨_, rfl, ?_⟩
 have hl := hd.below
 clear hd
 replace Bg0 := Bg0.below hl; replace Bg1 := Bg1.below hl; replace HS := HS.below hl; clear hl; replace kg0_0 := Bg0.at 0 rfl; replace zg0_0 := Bg0.frozen 0; replace kg0_7 := Bg0.at 7 rfl
 refine hK.out _ _ ⟨((Bg0.cell 7).trans rfl), ((Bg0.cell 0).trans rfl)⟩ (fun hHeld => ?_)
 clear hK K
 refine norm_ (a' := ?_) ?_ ?_
 rotate_left
 ·show Act.put _ (some 92) _ = _
  simp only [Act.put, zA_, z0_, z1_, i64_w, i32_w]
  rfl
 refine one_ (i := 9) (N := some 93) (bs 14 1023) rfl rfl (by kernel_rfl) (by decide) (fun K hK => ?_)
 refine goes_ Try.func25 (by kernel_rfl) rfl #[.int .u64 r0, .int .u64 (uMulDiv (IntKind.u64.wrap ((uTarget r0 r5 r6 (uAdd (uSub now r4) took)) - r0)) by_ r0)] (by rfl) rfl rfl (by simp only [List.map_toArray, List.map_cons, List.map_nil]; rfl) ?_
 with_reducible refine (fix_Add.C r0 (uMulDiv (IntKind.u64.wrap ((uTarget r0 r5 r6 (uAdd (uSub now r4) took)) - r0)) by_ r0) Wr0 (uMulDiv_w (w64_wrap _) Wby_ Wr0) _).mono ?_
 rintro e w13 ⟨rfl, hd⟩
 refine ⟨_, rfl, ?_⟩
 have hl := hd.below
 clear hd
 replace Bg0 := Bg0.below hl; replace Bg1 := Bg1.below hl; replace HS := HS.below hl; clear hl; replace kg0_0 := Bg0.at 0 rfl; replace zg0_0 := Bg0.frozen 0; replace kg0_7 := Bg0.at 7 rfl
 refine hK.out _ _ ⟨((Bg0.cell 7).trans rfl), ((Bg0.cell 0).trans rfl)⟩ (fun hHeld => ?_)
 clear hK K
 refine norm_ (a' := ?_) ?_ ?_
 rotate_left
 ·show Act.put _ (some 93) _ = _
  simp only [Act.put, zA_, z0_, z1_, i64_w, i32_w]
  rfl
 refine pure_ (i := 10) (N := some 94) (v := ?_) (a' := ?_) (bs 14 2047) rfl rfl (by kernel_rfl) (fun _ _ _ h => h) (Or.inl ⟨by rfl, ?_⟩) ?_ ?_
 rotate_left
 ·intro w'
  go_simp
  with_reducible rfl
 rotate_left
 ·simp only [Act.put, zA_, z0_, z1_, i64_w, i32_w]
  rfl
 refine one_ (i := 11) (N := some 95) (bs 14 4095) rfl rfl (by kernel_rfl) (by decide) (fun K hK => ?_)
 refine goes_ Try.func24 (by kernel_rfl) rfl #[.int .u64 (max (uAdd r7 (uMulDiv by_ 635 r0)) (uAdd r0 (uMulDiv (IntKind.u64.wrap ((uTarget r0 r5 r6 (uAdd (uSub now r4) took)) - r0)) by_ r0)))] (by rfl) rfl rfl (by simp only [List.map_toArray, List.map_cons, List.map_nil]; rfl) ?_
 with_reducible refine (reno_Held.C (max (uAdd r7 (uMulDiv by_ 635 r0)) (uAdd r0 (uMulDiv (IntKind.u64.wrap ((uTarget r0 r5 r6 (uAdd (uSub now r4) took)) - r0)) by_ r0))) _).mono ?_
 rintro e w14 ⟨rfl, hd⟩
 refine ⟨_, rfl, ?_⟩
 have hl := hd.below
 clear hd
 replace Bg0 := Bg0.below hl; replace Bg1 := Bg1.below hl; replace HS := HS.below hl; clear hl; replace kg0_0 := Bg0.at 0 rfl; replace zg0_0 := Bg0.frozen 0; replace kg0_7 := Bg0.at 7 rfl
 refine hK.out _ _ ⟨((Bg0.cell 7).trans rfl), ((Bg0.cell 0).trans rfl)⟩ (fun hHeld => ?_)
 clear hK K
 refine norm_ (a' := ?_) ?_ ?_
 rotate_left
 ·show Act.put _ (some 95) _ = _
  simp only [Act.put, zA_, z0_, z1_, i64_w, i32_w]
  rfl
 refine pu 12 96 (.pointer (some ⟨g0, 0, none⟩)) 8191 rfl rfl (by kernel_rfl) (fun _ _ _ h => h) (by rfl) (fun _ => by kernel_rfl) rfl ?_
 refine norm_ (a' := ?_) ?_ ?_
 rotate_left
 ·simp only [Act.put, zA_, z0_, z1_, i64_w, i32_w]
  rfl
 refine last_ (i := 13) (N := none) (bs 14 16383) rfl rfl (by kernel_rfl) (by decide) (fun K hK => ?_)
 refine skip_ (w1 := ?_) (by rfl) rfl ?_ ?_
 rotate_left
 ·go_simp
  rfl
 refine hK.out _ _ ?_
 clear hK K
 refine done_ (by kernel_rfl) ?_
 refine letter ?_
 intro w15 hW
 have Bn_ : Blk w15 g0 29 [.int .u64 (uHeld (max (uAdd r7 (uMulDiv by_ 635 r0)) (uAdd r0 (uMulDiv (IntKind.u64.wrap ((uTarget r0 r5 r6 (uAdd (uSub now r4) took)) - r0)) by_ r0)))), .int .u64 r1, .int .u64 r2, .bool true, .int .u64 r4, .int .u64 r5, .int .u64 r6, .int .u64 (uAdd r7 (uMulDiv by_ 635 r0))] := (by rw [hW]; (repeat (first | (with_reducible refine Blk.drewN ?_ _) | (with_reducible refine Blk.drew ?_))); refine Blk.set (l := [.int .u64 r0, .int .u64 r1, .int .u64 r2, .bool true, .int .u64 r4, .int .u64 r5, .int .u64 r6, .int .u64 (uAdd r7 (uMulDiv by_ 635 r0))]) ?_ 0 _ rfl; (repeat (first | (with_reducible refine Blk.drewN ?_ _) | (with_reducible refine Blk.drew ?_))); exact Bg0)
 replace Bg0 := Bn_
 clear Bn_
 have Bn_ : Blk w15 g1 29 [.int .u64 0, .int .u64 0, .int .u64 0, .bool false, .int .u64 0, .int .u64 0, .int .u64 0, .int .u64 0] := (by rw [hW]; (repeat (first | (with_reducible refine Blk.drewN ?_ _) | (with_reducible refine Blk.drew ?_))); refine Blk.setFar ?_ Ng1_g0; (repeat (first | (with_reducible refine Blk.drewN ?_ _) | (with_reducible refine Blk.drew ?_))); exact Bg1)
 replace Bg1 := Bn_
 clear Bn_
 have HS_ : Since w w15 := (by rw [hW]; repeat (first | (with_reducible exact HS) | (with_reducible refine Since.drewN ?_ _) | (with_reducible refine Since.drew ?_) | (with_reducible refine Since.set ?_ GEg0)))
 replace HS := HS_
 clear HS_ hW
 clear kg0_0 zg0_0 kg0_7
 go_wp2_with (first | (refine seg_load rfl (N := 97) rfl 29 (.tmp 6) rfl g0 0 [.int .u64 (uHeld (max (uAdd r7 (uMulDiv by_ 635 r0)) (uAdd r0 (uMulDiv (IntKind.u64.wrap ((uTarget r0 r5 r6 (uAdd (uSub now r4) took)) - r0)) by_ r0)))), .int .u64 r1, .int .u64 r2, .bool true, .int .u64 r4, .int .u64 r5, .int .u64 r6, .int .u64 (uAdd r7 (uMulDiv by_ 635 r0))] rfl Bg0 rfl Try.underlying29 rfl (by kernel_rfl) ?_) | (refine seg_store rfl rfl 29 (.tmp 12) (.tmp 97) rfl g1 0 [.int .u64 (uHeld (max (uAdd r7 (uMulDiv by_ 635 r0)) (uAdd r0 (uMulDiv (IntKind.u64.wrap ((uTarget r0 r5 r6 (uAdd (uSub now r4) took)) - r0)) by_ r0)))), .int .u64 r1, .int .u64 r2, .bool true, .int .u64 r4, .int .u64 r5, .int .u64 r6, .int .u64 (uAdd r7 (uMulDiv by_ 635 r0))] [.int .u64 (uHeld (max (uAdd r7 (uMulDiv by_ 635 r0)) (uAdd r0 (uMulDiv (IntKind.u64.wrap ((uTarget r0 r5 r6 (uAdd (uSub now r4) took)) - r0)) by_ r0)))), .int .u64 r1, .int .u64 r2, .bool true, .int .u64 r4, .int .u64 r5, .int .u64 r6, .int .u64 (uAdd r7 (uMulDiv by_ 635 r0))] (.agg #[.int .u64 (uHeld (max (uAdd r7 (uMulDiv by_ 635 r0)) (uAdd r0 (uMulDiv (IntKind.u64.wrap ((uTarget r0 r5 r6 (uAdd (uSub now r4) took)) - r0)) by_ r0)))), .int .u64 r1, .int .u64 r2, .bool true, .int .u64 r4, .int .u64 r5, .int .u64 r6, .int .u64 (uAdd r7 (uMulDiv by_ 635 r0))]) rfl rfl rfl Bg1 (by kernel_rfl) (nle rfl) rfl rfl ?_; intro w16 hn hw; replace Bg0 := Bg0.grown hw Ng1_g0.symm; replace HS := HS.grown hw GEg1; replace Bg1 := hn; clear hw; clear hn))
 all_goals exact bodyPost_ret (results_cell1 rfl _ _ g1 29 [.int .u64 (uHeld (max (uAdd r7 (uMulDiv by_ 635 r0)) (uAdd r0 (uMulDiv (IntKind.u64.wrap ((uTarget r0 r5 r6 (uAdd (uSub now r4) took)) - r0)) by_ r0)))), .int .u64 r1, .int .u64 r2, .bool true, .int .u64 r4, .int .u64 r5, .int .u64 r6, .int .u64 (uAdd r7 (uMulDiv by_ 635 r0))] _ rfl Bg1 Try.underlying29 rfl (by kernel_rfl)) rfl ⟨rfl, HS.out⟩
theorem cubic_ack_4 (r0 r1 r2 r4 r5 r6 r7 by_ at_ now took : Int) (Wr0 : W64 r0) (Wr5 : W64 r5) (Wby_ : W64 by_) (Wnow : W64 now) (Wtook : W64 took) (w : World) (h0 : (decide (at_ < r2)) = false) (h1 : (decide (r0 < r1)) = false) (h2 : (decide (r0 < r5)) = true) :
  Calls Try.prog 12 #[.agg #[.int .u64 r0, .int .u64 r1, .int .u64 r2, .bool false, .int .u64 r4, .int .u64 r5, .int .u64 r6, .int .u64 r7], .int .u64 by_, .int .u64 at_, .int .u64 now, .int .u64 took, .bool false] w fun e w' => e = .returned (.agg #[.int .u64 (uHeld (max (uAdd r0 (uMulDiv by_ 635 r0)) (uAdd r0 (uMulDiv (IntKind.u64.wrap ((uTarget r0 (max r5 r0) (uCbrt (uMulDiv (IntKind.u64.wrap (r5 - r0)) 1000000000 480)) (uAdd (uSub now now) took)) - r0)) by_ r0)))), .int .u64 r1, .int .u64 r2, .bool true, .int .u64 now, .int .u64 (max r5 r0), .int .u64 (uCbrt (uMulDiv (IntKind.u64.wrap (r5 - r0)) 1000000000 480)), .int .u64 (uAdd r0 (uMulDiv by_ 635 r0))]) ∧ Below w.heap.size w w' := by
 have hu29 := Try.underlying29
 have HS := Since.refl w
 go_enter Try.func12, Try.ntmps12
 go_wp2_with (first | (refine seg_new rfl (N := 6) rfl [.int .u64 r0, .int .u64 r1, .int .u64 r2, .bool false, .int .u64 r4, .int .u64 r5, .int .u64 r6, .int .u64 r7] 29 ?hr ?_; (case hr => rfl); intro g0 hg w1 hn hl; have GEg0 := ge_new HS hg; clear hg; replace HS := HS.below hl; have Bg0 := hn; clear hl hn) | (refine seg_new rfl (N := 12) rfl [.int .u64 0, .int .u64 0, .int .u64 0, .bool false, .int .u64 0, .int .u64 0, .int .u64 0, .int .u64 0] 29 ?hr ?_; (case hr => rfl); intro g1 hg w2 hn hl; have Ng1_g0 := ne_new Bg0 hg; have GEg1 := ge_new HS hg; clear hg; replace Bg0 := Bg0.below hl; replace HS := HS.below hl; have Bg1 := hn; clear hl hn; have kg0_0 := Bg0.at 0 rfl; have kg0_1 := Bg0.at 1 rfl; have kg0_2 := Bg0.at 2 rfl; have kg0_3 := Bg0.at 3 rfl) | (refine seg_store rfl rfl 4 (.tmp 42) (.const (.bool true)) rfl g0 3 [.bool true] [.int .u64 r0, .int .u64 r1, .int .u64 r2, .bool true, .int .u64 r4, .int .u64 r5, .int .u64 r6, .int .u64 r7] (.bool true) rfl rfl rfl Bg0 (by kernel_rfl) (nle rfl) rfl rfl ?_; intro w3 hn hw; replace Bg1 := Bg1.grown hw Ng1_g0; replace HS := HS.grown hw GEg0; replace Bg0 := hn; clear hw; clear kg0_0 kg0_1 kg0_2 kg0_3; clear hn) | (refine seg_store rfl rfl 23 (.tmp 43) (.tmp 39) rfl g0 4 [.int .u64 now] [.int .u64 r0, .int .u64 r1, .int .u64 r2, .bool true, .int .u64 now, .int .u64 r5, .int .u64 r6, .int .u64 r7] (.int .u64 now) rfl rfl rfl Bg0 (by kernel_rfl) (nle rfl) rfl rfl ?_; intro w4 hn hw; replace Bg1 := Bg1.grown hw Ng1_g0; replace HS := HS.grown hw GEg0; replace Bg0 := hn; clear hw; clear hn) | (refine seg_store rfl rfl 23 (.tmp 44) (.tmp 41) rfl g0 7 [.int .u64 r0] [.int .u64 r0, .int .u64 r1, .int .u64 r2, .bool true, .int .u64 now, .int .u64 r5, .int .u64 r6, .int .u64 r0] (.int .u64 r0) rfl rfl rfl Bg0 (by kernel_rfl) (nle rfl) rfl rfl ?_; intro w5 hn hw; replace Bg1 := Bg1.grown hw Ng1_g0; replace HS := HS.grown hw GEg0; replace Bg0 := hn; clear hw; clear hn) | (refine seg_store rfl rfl 23 (.tmp 45) (.const (.int .u64 0)) rfl g0 6 [.int .u64 0] [.int .u64 r0, .int .u64 r1, .int .u64 r2, .bool true, .int .u64 now, .int .u64 r5, .int .u64 0, .int .u64 r0] (.int .u64 0) rfl rfl rfl Bg0 (by kernel_rfl) (nle rfl) rfl rfl ?_; intro w6 hn hw; replace Bg1 := Bg1.grown hw Ng1_g0; replace HS := HS.grown hw GEg0; replace Bg0 := hn; clear hw; have kg0_0 := Bg0.at 0 rfl; have kg0_5 := Bg0.at 5 rfl; clear hn) | ((go_at_call 20); (with_reducible refine (fix_MulDivT.C (IntKind.u64.wrap (r5 - r0)) 1000000000 480 (w64_wrap _) (by decide) (by decide) _).mono ?_); rintro e w7 ⟨rfl, hd⟩; have hl := hd.below; clear hd; replace Bg0 := Bg0.below hl; replace Bg1 := Bg1.below hl; replace HS := HS.below hl; clear hl; clear kg0_0 kg0_5) | ((go_at_call 27); (with_reducible refine (cbrtC (uMulDiv (IntKind.u64.wrap (r5 - r0)) 1000000000 480) (uMulDiv_w (w64_wrap _) (by decide) (by decide)) _).mono ?_); rintro e w8 ⟨rfl, hl⟩; replace Bg0 := Bg0.below hl; replace Bg1 := Bg1.below hl; replace HS := HS.below hl; clear hl) | (refine seg_store rfl rfl 23 (.tmp 58) (.tmp 57) rfl g0 6 [.int .u64 (uCbrt (uMulDiv (IntKind.u64.wrap (r5 - r0)) 1000000000 480))] [.int .u64 r0, .int .u64 r1, .int .u64 r2, .bool true, .int .u64 now, .int .u64 r5, .int .u64 (uCbrt (uMulDiv (IntKind.u64.wrap (r5 - r0)) 1000000000 480)), .int .u64 r0] (.int .u64 (uCbrt (uMulDiv (IntKind.u64.wrap (r5 - r0)) 1000000000 480))) rfl rfl rfl Bg0 (by kernel_rfl) (nle rfl) rfl rfl ?_; intro w9 hn hw; replace Bg1 := Bg1.grown hw Ng1_g0; replace HS := HS.grown hw GEg0; replace Bg0 := hn; clear hw; have kg0_0 := Bg0.at 0 rfl; have kg0_5 := Bg0.at 5 rfl; clear hn) | (refine seg_store rfl rfl 23 (.tmp 64) (.tmp 63) rfl g0 5 [.int .u64 (max r5 r0)] [.int .u64 r0, .int .u64 r1, .int .u64 r2, .bool true, .int .u64 now, .int .u64 (max r5 r0), .int .u64 (uCbrt (uMulDiv (IntKind.u64.wrap (r5 - r0)) 1000000000 480)), .int .u64 r0] (.int .u64 (max r5 r0)) rfl rfl rfl Bg0 (by kernel_rfl) (nle rfl) rfl rfl ?_; intro w10 hn hw; replace Bg1 := Bg1.grown hw Ng1_g0; replace HS := HS.grown hw GEg0; replace Bg0 := hn; clear hw; clear kg0_5; replace kg0_0 := Bg0.at 0 rfl; have kg0_7 := Bg0.at 7 rfl; have zg0_7 := Bg0.frozen 7; clear hn))
 refine start_ (n := 9) (S := fun w' => w'.cell? ⟨g0, 7, none⟩ = some (.int .u64 r0) ∧ w'.cell? ⟨g0, 0, none⟩ = some (.int .u64 r0)) (ds := [8]) (bs 9 0) (by kernel_rfl) rfl rfl ⟨((Bg0.drew.cell 7).trans rfl), ((Bg0.drew.cell 0).trans rfl)⟩ (fun hHeld => ?_)
 generalize hWd : World.drew w10 = w11 at hHeld ⊢
 have hl : Below w10.heap.size w10 w11 := (by rw [← hWd]; exact below_drew1 (Below.refl _ _))
 clear hWd
 replace Bg0 := Bg0.below hl; replace Bg1 := Bg1.below hl; replace HS := HS.below hl; clear hl; replace kg0_0 := Bg0.at 0 rfl; replace kg0_7 := Bg0.at 7 rfl; replace zg0_7 := Bg0.frozen 7
 refine pu 0 65 (.pointer (some ⟨g0, 7, none⟩)) 1 rfl rfl (by kernel_rfl) (fun _ _ _ h => h) (by rfl) (fun _ => by kernel_rfl) rfl ?_
 refine pu 2 67 (.int .u64 by_) 5 rfl rfl (by kernel_rfl) (fun _ _ _ h => h) (by rfl) (fun _ => by kernel_rfl) rfl ?_
 refine pu 3 68 (.pointer (some ⟨g0, 0, none⟩)) 13 rfl rfl (by kernel_rfl) (fun _ _ _ h => h) (by rfl) (fun _ => by kernel_rfl) rfl ?_
 refine norm_ (a' := ?_) ?_ ?_
 rotate_left
 ·simp only [Act.put, zA_, z0_, z1_, i64_w, i32_w]
  rfl
 refine take_ (i := 1) (N := some 66) (v := ?_) (a' := ?_) (bs 9 15) rfl rfl (by kernel_rfl) (fun _ _ _ h => h) (Or.inl ⟨by rfl, ?_⟩) hHeld ?_ ?_
 rotate_left
 ·rintro w' ⟨s0, s1⟩
  go_simp
  with_reducible rfl
 rotate_left
 ·simp only [Act.put, zA_, z0_, z1_, i64_w, i32_w]
  rfl
 refine take_ (i := 4) (N := some 69) (v := ?_) (a' := ?_) (bs 9 31) rfl rfl (by kernel_rfl) (fun _ _ _ h => h) (Or.inl ⟨by rfl, ?_⟩) hHeld ?_ ?_
 rotate_left
 ·rintro w' ⟨s0, s1⟩
  go_simp
  with_reducible rfl
 rotate_left
 ·simp only [Act.put, zA_, z0_, z1_, i64_w, i32_w]
  rfl
 refine one_ (i := 5) (N := some 70) (bs 9 63) rfl rfl (by kernel_rfl) (by decide) (fun K hK => ?_)
 refine goes_ Try.func20 (by kernel_rfl) rfl #[.int .u64 by_, .int .u64 635, .int .u64 r0] (by rfl) rfl rfl (by simp only [List.map_toArray, List.map_cons, List.map_nil]; rfl) ?_
 with_reducible refine (fix_MulDivT.C by_ 635 r0 Wby_ (by decide) Wr0 _).mono ?_
 rintro e w12 ⟨rfl, hd⟩
 refine ⟨_, rfl, ?_⟩
 have hl := hd.below
 clear hd
 replace Bg0 := Bg0.below hl; replace Bg1 := Bg1.below hl; replace HS := HS.below hl; clear hl; replace kg0_0 := Bg0.at 0 rfl; replace kg0_7 := Bg0.at 7 rfl; replace zg0_7 := Bg0.frozen 7
 refine hK.out _ _ ⟨((Bg0.cell 7).trans rfl), ((Bg0.cell 0).trans rfl)⟩ (fun hHeld => ?_)
 clear hK K
 refine norm_ (a' := ?_) ?_ ?_
 rotate_left
 ·show Act.put _ (some 70) _ = _
  simp only [Act.put, zA_, z0_, z1_, i64_w, i32_w]
  rfl
 refine one_ (i := 6) (N := some 71) (bs 9 127) rfl rfl (by kernel_rfl) (by decide) (fun K hK => ?_)
 refine goes_ Try.func25 (by kernel_rfl) rfl #[.int .u64 r0, .int .u64 (uMulDiv by_ 635 r0)] (by rfl) rfl rfl (by simp only [List.map_toArray, List.map_cons, List.map_nil]; rfl) ?_
 with_reducible refine (fix_Add.C r0 (uMulDiv by_ 635 r0) Wr0 (uMulDiv_w Wby_ (by decide) Wr0) _).mono ?_
 rintro e w13 ⟨rfl, hd⟩
 refine ⟨_, rfl, ?_⟩
 have hl := hd.below
 clear hd
 replace Bg0 := Bg0.below hl; replace Bg1 := Bg1.below hl; replace HS := HS.below hl; clear hl; replace kg0_0 := Bg0.at 0 rfl; replace kg0_7 := Bg0.at 7 rfl; replace zg0_7 := Bg0.frozen 7
 refine hK.out _ _ ⟨((Bg0.cell 7).trans rfl), ((Bg0.cell 0).trans rfl)⟩ (fun hHeld => ?_)
 clear hK K
 refine norm_ (a' := ?_) ?_ ?_
 rotate_left
 ·show Act.put _ (some 71) _ = _
  simp only [Act.put, zA_, z0_, z1_, i64_w, i32_w]
  rfl
 refine pu 7 72 (.pointer (some ⟨g0, 7, none⟩)) 255 rfl rfl (by kernel_rfl) (fun _ _ _ h => h) (by rfl) (fun _ => by kernel_rfl) rfl ?_
 refine norm_ (a' := ?_) ?_ ?_
 rotate_left
 ·simp only [Act.put, zA_, z0_, z1_, i64_w, i32_w]
  rfl
 refine last_ (i := 8) (N := none) (bs 9 511) rfl rfl (by kernel_rfl) (by decide) (fun K hK => ?_)
 refine skip_ (w1 := ?_) (by rfl) rfl ?_ ?_
 rotate_left
 ·go_simp
  rfl
 refine hK.out _ _ ?_
 clear hK K
 refine done_ (by kernel_rfl) ?_
 refine letter ?_
 intro w14 hW
 have Bn_ : Blk w14 g0 29 [.int .u64 r0, .int .u64 r1, .int .u64 r2, .bool true, .int .u64 now, .int .u64 (max r5 r0), .int .u64 (uCbrt (uMulDiv (IntKind.u64.wrap (r5 - r0)) 1000000000 480)), .int .u64 (uAdd r0 (uMulDiv by_ 635 r0))] := (by rw [hW]; (repeat (first | (with_reducible refine Blk.drewN ?_ _) | (with_reducible refine Blk.drew ?_))); refine Blk.set (l := [.int .u64 r0, .int .u64 r1, .int .u64 r2, .bool true, .int .u64 now, .int .u64 (max r5 r0), .int .u64 (uCbrt (uMulDiv (IntKind.u64.wrap (r5 - r0)) 1000000000 480)), .int .u64 r0]) ?_ 7 _ rfl; (repeat (first | (with_reducible refine Blk.drewN ?_ _) | (with_reducible refine Blk.drew ?_))); exact Bg0)
 replace Bg0 := Bn_
 clear Bn_
 have Bn_ : Blk w14 g1 29 [.int .u64 0, .int .u64 0, .int .u64 0, .bool false, .int .u64 0, .int .u64 0, .int .u64 0, .int .u64 0] := (by rw [hW]; (repeat (first | (with_reducible refine Blk.drewN ?_ _) | (with_reducible refine Blk.drew ?_))); refine Blk.setFar ?_ Ng1_g0; (repeat (first | (with_reducible refine Blk.drewN ?_ _) | (with_reducible refine Blk.drew ?_))); exact Bg1)
 replace Bg1 := Bn_
 clear Bn_
 have HS_ : Since w w14 := (by rw [hW]; repeat (first | (with_reducible exact HS) | (with_reducible refine Since.drewN ?_ _) | (with_reducible refine Since.drew ?_) | (with_reducible refine Since.set ?_ GEg0)))
 replace HS := HS_
 clear HS_ hW
 clear kg0_7 zg0_7; replace kg0_0 := Bg0.at 0 rfl; have kg0_4 := Bg0.at 4 rfl
 go_wp2
 refine start_ (n := 12) (S := fun w' => Blk w' g0 29 [.int .u64 r0, .int .u64 r1, .int .u64 r2, .bool true, .int .u64 now, .int .u64 (max r5 r0), .int .u64 (uCbrt (uMulDiv (IntKind.u64.wrap (r5 - r0)) 1000000000 480)), .int .u64 (uAdd r0 (uMulDiv by_ 635 r0))] ∧ w'.cell? ⟨g0, 4, none⟩ = some (.int .u64 now) ∧ w'.cell? ⟨g0, 0, none⟩ = some (.int .u64 r0)) (ds := []) (bs 12 0) (by kernel_rfl) rfl rfl ⟨Bg0.drew, ((Bg0.drew.cell 4).trans rfl), ((Bg0.drew.cell 0).trans rfl)⟩ (fun hHeld => ?_)
 generalize hWd : World.drew w14 = w15 at hHeld ⊢
 have hl : Below w14.heap.size w14 w15 := (by rw [← hWd]; exact below_drew1 (Below.refl _ _))
 clear hWd
 replace Bg0 := Bg0.below hl; replace Bg1 := Bg1.below hl; replace HS := HS.below hl; clear hl; replace kg0_0 := Bg0.at 0 rfl; replace kg0_4 := Bg0.at 4 rfl
 refine pu 1 74 (.int .u64 now) 2 rfl rfl (by kernel_rfl) (fun _ _ _ h => h) (by rfl) (fun _ => by kernel_rfl) rfl ?_
 refine pu 2 75 (.pointer (some ⟨g0, 4, none⟩)) 6 rfl rfl (by kernel_rfl) (fun _ _ _ h => h) (by rfl) (fun _ => by kernel_rfl) rfl ?_
 refine pu 5 78 (.int .u64 took) 38 rfl rfl (by kernel_rfl) (fun _ _ _ h => h) (by rfl) (fun _ => by kernel_rfl) rfl ?_
 refine pu 8 81 (.pointer (some ⟨g0, 0, none⟩)) 294 rfl rfl (by kernel_rfl) (fun _ _ _ h => h) (by rfl) (fun _ => by kernel_rfl) rfl ?_
 refine norm_ (a' := ?_) ?_ ?_
 rotate_left
 ·simp only [Act.put, zA_, z0_, z1_, i64_w, i32_w]
  rfl
 refine take_ (i := 0) (N := some 73) (v := .agg #[.int .u64 r0, .int .u64 r1, .int .u64 r2, .bool true, .int .u64 now, .int .u64 (max r5 r0), .int .u64 (uCbrt (uMulDiv (IntKind.u64.wrap (r5 - r0)) 1000000000 480)), .int .u64 (uAdd r0 (uMulDiv by_ 635 r0))]) (a' := ?_) (bs 12 295) rfl rfl (by kernel_rfl) (fun _ _ _ h => h) (Or.inl ⟨by rfl, ?_⟩) hHeld ?_ ?_
 ·rintro w' ⟨s0, s1, s2⟩
  exact exec_seg_load 29 (.tmp 6) (by rfl) g0 0 [.int .u64 r0, .int .u64 r1, .int .u64 r2, .bool true, .int .u64 now, .int .u64 (max r5 r0), .int .u64 (uCbrt (uMulDiv (IntKind.u64.wrap (r5 - r0)) 1000000000 480)), .int .u64 (uAdd r0 (uMulDiv by_ 635 r0))] (by rfl) s0 (by rfl) Try.underlying29 (by rfl) (by kernel_rfl)
 rotate_left
 ·simp only [Act.put, zA_, z0_, z1_, i64_w, i32_w]
  rfl
 refine take_ (i := 3) (N := some 76) (v := ?_) (a' := ?_) (bs 12 303) rfl rfl (by kernel_rfl) (fun _ _ _ h => h) (Or.inl ⟨by rfl, ?_⟩) hHeld ?_ ?_
 rotate_left
 ·rintro w' ⟨s0, s1, s2⟩
  go_simp
  with_reducible rfl
 rotate_left
 ·simp only [Act.put, zA_, z0_, z1_, i64_w, i32_w]
  rfl
 refine take_ (i := 9) (N := some 82) (v := ?_) (a' := ?_) (bs 12 815) rfl rfl (by kernel_rfl) (fun _ _ _ h => h) (Or.inl ⟨by rfl, ?_⟩) hHeld ?_ ?_
 rotate_left
 ·rintro w' ⟨s0, s1, s2⟩
  go_simp
  with_reducible rfl
 rotate_left
 ·simp only [Act.put, zA_, z0_, z1_, i64_w, i32_w]
  rfl
 refine one_ (i := 4) (N := some 77) (bs 12 831) rfl rfl (by kernel_rfl) (by decide) (fun K hK => ?_)
 refine goes_ Try.func29 (by kernel_rfl) rfl #[.int .u64 now, .int .u64 now] (by rfl) rfl rfl (by simp only [List.map_toArray, List.map_cons, List.map_nil]; rfl) ?_
 with_reducible refine (fix_Sub.C now now Wnow Wnow _).mono ?_
 rintro e w16 ⟨rfl, hd⟩
 refine ⟨_, rfl, ?_⟩
 have hl := hd.below
 clear hd
 replace Bg0 := Bg0.below hl; replace Bg1 := Bg1.below hl; replace HS := HS.below hl; clear hl; replace kg0_0 := Bg0.at 0 rfl; replace kg0_4 := Bg0.at 4 rfl
 refine hK.out _ _ ⟨Bg0, ((Bg0.cell 4).trans rfl), ((Bg0.cell 0).trans rfl)⟩ (fun hHeld => ?_)
 clear hK K
 refine norm_ (a' := ?_) ?_ ?_
 rotate_left
 ·show Act.put _ (some 77) _ = _
  simp only [Act.put, zA_, z0_, z1_, i64_w, i32_w]
  rfl
 refine one_ (i := 6) (N := some 79) (bs 12 895) rfl rfl (by kernel_rfl) (by decide) (fun K hK => ?_)
 refine goes_ Try.func25 (by kernel_rfl) rfl #[.int .u64 (uSub now now), .int .u64 took] (by rfl) rfl rfl (by simp only [List.map_toArray, List.map_cons, List.map_nil]; rfl) ?_
 with_reducible refine (fix_Add.C (uSub now now) took (uSub_w Wnow Wnow) Wtook _).mono ?_
 rintro e w17 ⟨rfl, hd⟩
 refine ⟨_, rfl, ?_⟩
 have hl := hd.below
 clear hd
 replace Bg0 := Bg0.below hl; replace Bg1 := Bg1.below hl; replace HS := HS.below hl; clear hl; replace kg0_0 := Bg0.at 0 rfl; replace kg0_4 := Bg0.at 4 rfl
 refine hK.out _ _ ⟨Bg0, ((Bg0.cell 4).trans rfl), ((Bg0.cell 0).trans rfl)⟩ (fun hHeld => ?_)
 clear hK K
 refine norm_ (a' := ?_) ?_ ?_
 rotate_left
 ·show Act.put _ (some 79) _ = _
  simp only [Act.put, zA_, z0_, z1_, i64_w, i32_w]
  rfl
 refine one_ (i := 7) (N := some 80) (bs 12 1023) rfl rfl (by kernel_rfl) (by decide) (fun K hK => ?_)
 refine goes_ Try.func28 (by kernel_rfl) rfl #[.agg #[.int .u64 r0, .int .u64 r1, .int .u64 r2, .bool true, .int .u64 now, .int .u64 (max r5 r0), .int .u64 (uCbrt (uMulDiv (IntKind.u64.wrap (r5 - r0)) 1000000000 480)), .int .u64 (uAdd r0 (uMulDiv by_ 635 r0))], .int .u64 (uAdd (uSub now now) took)] (by rfl) rfl rfl (by simp only [List.map_toArray, List.map_cons, List.map_nil]; rfl) ?_
 with_reducible refine (targetC r0 r1 r2 true now (max r5 r0) (uCbrt (uMulDiv (IntKind.u64.wrap (r5 - r0)) 1000000000 480)) (uAdd r0 (uMulDiv by_ 635 r0)) (uAdd (uSub now now) took) Wr0 (max_w Wr5 Wr0) (uCbrt_w (uMulDiv_w (w64_wrap _) (by decide) (by decide))) (uAdd_w (uSub_w Wnow Wnow) Wtook) _).mono ?_
 rintro e w18 ⟨rfl, hl⟩
 refine ⟨_, rfl, ?_⟩
 replace Bg0 := Bg0.below hl; replace Bg1 := Bg1.below hl; replace HS := HS.below hl; clear hl; replace kg0_0 := Bg0.at 0 rfl; replace kg0_4 := Bg0.at 4 rfl
 refine hK.out _ _ ⟨Bg0, ((Bg0.cell 4).trans rfl), ((Bg0.cell 0).trans rfl)⟩ (fun hHeld => ?_)
 clear hK K
 refine norm_ (a' := ?_) ?_ ?_
 rotate_left
 ·show Act.put _ (some 80) _ = _
  simp only [Act.put, zA_, z0_, z1_, i64_w, i32_w]
  rfl
 refine pure_ (i := 10) (N := some 83) (v := ?_) (a' := ?_) (bs 12 2047) rfl rfl (by kernel_rfl) (fun _ _ _ h => h) (Or.inl ⟨by rfl, ?_⟩) ?_ ?_
 rotate_left
 ·intro w'
  go_simp
  with_reducible rfl
 rotate_left
 ·simp only [Act.put, zA_, z0_, z1_, i64_w, i32_w]
  rfl
 refine pure_ (i := 11) (N := some 13) (v := ?_) (a' := ?_) (bs 12 4095) rfl rfl (by kernel_rfl) (fun _ _ _ h => h) (Or.inl ⟨by rfl, ?_⟩) ?_ ?_
 rotate_left
 ·intro w'
  go_simp
  with_reducible rfl
 rotate_left
 ·simp only [Act.put, zA_, z0_, z1_, i64_w, i32_w]
  rfl
 refine done_ (by kernel_rfl) ?_
 clear kg0_4; replace kg0_0 := Bg0.at 0 rfl; have zg0_0 := Bg0.frozen 0; have kg0_7 := Bg0.at 7 rfl
 go_wp2
 refine start_ (n := 14) (S := fun w' => w'.cell? ⟨g0, 7, none⟩ = some (.int .u64 (uAdd r0 (uMulDiv by_ 635 r0))) ∧ w'.cell? ⟨g0, 0, none⟩ = some (.int .u64 r0)) (ds := [13]) (bs 14 0) (by kernel_rfl) rfl rfl ⟨((Bg0.drew.cell 7).trans rfl), ((Bg0.drew.cell 0).trans rfl)⟩ (fun hHeld => ?_)
 generalize hWd : World.drew w18 = w19 at hHeld ⊢
 have hl : Below w18.heap.size w18 w19 := (by rw [← hWd]; exact below_drew1 (Below.refl _ _))
 clear hWd
 replace Bg0 := Bg0.below hl; replace Bg1 := Bg1.below hl; replace HS := HS.below hl; clear hl; replace kg0_0 := Bg0.at 0 rfl; replace zg0_0 := Bg0.frozen 0; replace kg0_7 := Bg0.at 7 rfl
 refine pu 0 84 (.pointer (some ⟨g0, 7, none⟩)) 1 rfl rfl (by kernel_rfl) (fun _ _ _ h => h) (by rfl) (fun _ => by kernel_rfl) rfl ?_
 refine pu 2 86 (.pointer (some ⟨g0, 0, none⟩)) 5 rfl rfl (by kernel_rfl) (fun _ _ _ h => h) (by rfl) (fun _ => by kernel_rfl) rfl ?_
 refine pu 4 88 (.int .u64 (IntKind.u64.wrap ((uTarget r0 (max r5 r0) (uCbrt (uMulDiv (IntKind.u64.wrap (r5 - r0)) 1000000000 480)) (uAdd (uSub now now) took)) - r0))) 21 rfl rfl (by kernel_rfl) (fun _ _ _ h => h) (by rfl) (fun _ => by kernel_rfl) rfl ?_
 refine pu 5 89 (.int .u64 by_) 53 rfl rfl (by kernel_rfl) (fun _ _ _ h => h) (by rfl) (fun _ => by kernel_rfl) rfl ?_
 refine pu 6 90 (.pointer (some ⟨g0, 0, none⟩)) 117 rfl rfl (by kernel_rfl) (fun _ _ _ h => h) (by rfl) (fun _ => by kernel_rfl) rfl ?_
 refine norm_ (a' := ?_) ?_ ?_
 rotate_left
 ·simp only [Act.put, zA_, z0_, z1_, i64_w, i32_w]
  rfl
 refine take_ (i := 1) (N := some 85) (v := ?_) (a' := ?_) (bs 14 119) rfl rfl (by kernel_rfl) (fun _ _ _ h => h) (Or.inl ⟨by rfl, ?_⟩) hHeld ?_ ?_
 rotate_left
 ·rintro w' ⟨s0, s1⟩
  go_simp
  with_reducible rfl
 rotate_left
 ·simp only [Act.put, zA_, z0_, z1_, i64_w, i32_w]
  rfl
 refine take_ (i := 3) (N := some 87) (v := ?_) (a' := ?_) (bs 14 127) rfl rfl (by kernel_rfl) (fun _ _ _ h => h) (Or.inl ⟨by rfl, ?_⟩) hHeld ?_ ?_
 rotate_left
 ·rintro w' ⟨s0, s1⟩
  go_simp
  with_reducible rfl
 rotate_left
 ·simp only [Act.put, zA_, z0_, z1_, i64_w, i32_w]
  rfl
 refine take_ (i := 7) (N := some 91) (v := ?_) (a' := ?_) (bs 14 255) rfl rfl (by kernel_rfl) (fun _ _ _ h => h) (Or.inl ⟨by rfl, ?_⟩) hHeld ?_ ?_
 rotate_left
 ·rintro w' ⟨s0, s1⟩
  go_simp
  with_reducible rfl
 rotate_left
 ·simp only [Act.put, zA_, z0_, z1_, i64_w, i32_w]
  rfl
 refine one_ (i := 8) (N := some 92) (bs 14 511) rfl rfl (by kernel_rfl) (by decide) (fun K hK => ?_)
 refine goes_ Try.func20 (by kernel_rfl) rfl #[.int .u64 (IntKind.u64.wrap ((uTarget r0 (max r5 r0) (uCbrt (uMulDiv (IntKind.u64.wrap (r5 - r0)) 1000000000 480)) (uAdd (uSub now now) took)) - r0)), .int .u64 by_, .int .u64 r0] (by rfl) rfl rfl (by simp only [List.map_toArray, List.map_cons, List.map_nil]; rfl) ?_
 with_reducible refine (fix_MulDivT.C (IntKind.u64.wrap ((uTarget r0 (max r5 r0) (uCbrt (uMulDiv (IntKind.u64.wrap (r5 - r0)) 1000000000 480)) (uAdd (uSub now now) took)) - r0)) by_ r0 (w64_wrap _) Wby_ Wr0 _).mono ?_
 rintro e w20 ⟨rfl, hd⟩
 refine ⟨_, rfl, ?_⟩
 have hl := hd.below
 clear hd
 replace Bg0 := Bg0.below hl; replace Bg1 := Bg1.below hl; replace HS := HS.below hl; clear hl; replace kg0_0 := Bg0.at 0 rfl; replace zg0_0 := Bg0.frozen 0; replace kg0_7 := Bg0.at 7 rfl
 refine hK.out _ _ ⟨((Bg0.cell 7).trans rfl), ((Bg0.cell 0).trans rfl)⟩ (fun hHeld => ?_)
 clear hK K
 refine norm_ (a' := ?_) ?_ ?_
 rotate_left
 ·show Act.put _ (some 92) _ = _
  simp only [Act.put, zA_, z0_, z1_, i64_w, i32_w]
  rfl
 refine one_ (i := 9) (N := some 93) (bs 14 1023) rfl rfl (by kernel_rfl) (by decide) (fun K hK => ?_)
 refine goes_ Try.func25 (by kernel_rfl) rfl #[.int .u64 r0, .int .u64 (uMulDiv (IntKind.u64.wrap ((uTarget r0 (max r5 r0) (uCbrt (uMulDiv (IntKind.u64.wrap (r5 - r0)) 1000000000 480)) (uAdd (uSub now now) took)) - r0)) by_ r0)] (by rfl) rfl rfl (by simp only [List.map_toArray, List.map_cons, List.map_nil]; rfl) ?_
 with_reducible refine (fix_Add.C r0 (uMulDiv (IntKind.u64.wrap ((uTarget r0 (max r5 r0) (uCbrt (uMulDiv (IntKind.u64.wrap (r5 - r0)) 1000000000 480)) (uAdd (uSub now now) took)) - r0)) by_ r0) Wr0 (uMulDiv_w (w64_wrap _) Wby_ Wr0) _).mono ?_
 rintro e w21 ⟨rfl, hd⟩
 refine ⟨_, rfl, ?_⟩
 have hl := hd.below
 clear hd
 replace Bg0 := Bg0.below hl; replace Bg1 := Bg1.below hl; replace HS := HS.below hl; clear hl; replace kg0_0 := Bg0.at 0 rfl; replace zg0_0 := Bg0.frozen 0; replace kg0_7 := Bg0.at 7 rfl
 refine hK.out _ _ ⟨((Bg0.cell 7).trans rfl), ((Bg0.cell 0).trans rfl)⟩ (fun hHeld => ?_)
 clear hK K
 refine norm_ (a' := ?_) ?_ ?_
 rotate_left
 ·show Act.put _ (some 93) _ = _
  simp only [Act.put, zA_, z0_, z1_, i64_w, i32_w]
  rfl
 refine pure_ (i := 10) (N := some 94) (v := ?_) (a' := ?_) (bs 14 2047) rfl rfl (by kernel_rfl) (fun _ _ _ h => h) (Or.inl ⟨by rfl, ?_⟩) ?_ ?_
 rotate_left
 ·intro w'
  go_simp
  with_reducible rfl
 rotate_left
 ·simp only [Act.put, zA_, z0_, z1_, i64_w, i32_w]
  rfl
 refine one_ (i := 11) (N := some 95) (bs 14 4095) rfl rfl (by kernel_rfl) (by decide) (fun K hK => ?_)
 refine goes_ Try.func24 (by kernel_rfl) rfl #[.int .u64 (max (uAdd r0 (uMulDiv by_ 635 r0)) (uAdd r0 (uMulDiv (IntKind.u64.wrap ((uTarget r0 (max r5 r0) (uCbrt (uMulDiv (IntKind.u64.wrap (r5 - r0)) 1000000000 480)) (uAdd (uSub now now) took)) - r0)) by_ r0)))] (by rfl) rfl rfl (by simp only [List.map_toArray, List.map_cons, List.map_nil]; rfl) ?_
 with_reducible refine (reno_Held.C (max (uAdd r0 (uMulDiv by_ 635 r0)) (uAdd r0 (uMulDiv (IntKind.u64.wrap ((uTarget r0 (max r5 r0) (uCbrt (uMulDiv (IntKind.u64.wrap (r5 - r0)) 1000000000 480)) (uAdd (uSub now now) took)) - r0)) by_ r0))) _).mono ?_
 rintro e w22 ⟨rfl, hd⟩
 refine ⟨_, rfl, ?_⟩
 have hl := hd.below
 clear hd
 replace Bg0 := Bg0.below hl; replace Bg1 := Bg1.below hl; replace HS := HS.below hl; clear hl; replace kg0_0 := Bg0.at 0 rfl; replace zg0_0 := Bg0.frozen 0; replace kg0_7 := Bg0.at 7 rfl
 refine hK.out _ _ ⟨((Bg0.cell 7).trans rfl), ((Bg0.cell 0).trans rfl)⟩ (fun hHeld => ?_)
 clear hK K
 refine norm_ (a' := ?_) ?_ ?_
 rotate_left
 ·show Act.put _ (some 95) _ = _
  simp only [Act.put, zA_, z0_, z1_, i64_w, i32_w]
  rfl
 refine pu 12 96 (.pointer (some ⟨g0, 0, none⟩)) 8191 rfl rfl (by kernel_rfl) (fun _ _ _ h => h) (by rfl) (fun _ => by kernel_rfl) rfl ?_
 refine norm_ (a' := ?_) ?_ ?_
 rotate_left
 ·simp only [Act.put, zA_, z0_, z1_, i64_w, i32_w]
  rfl
 refine last_ (i := 13) (N := none) (bs 14 16383) rfl rfl (by kernel_rfl) (by decide) (fun K hK => ?_)
 refine skip_ (w1 := ?_) (by rfl) rfl ?_ ?_
 rotate_left
 ·go_simp
  rfl
 refine hK.out _ _ ?_
 clear hK K
 refine done_ (by kernel_rfl) ?_
 refine letter ?_
 intro w23 hW
 have Bn_ : Blk w23 g0 29 [.int .u64 (uHeld (max (uAdd r0 (uMulDiv by_ 635 r0)) (uAdd r0 (uMulDiv (IntKind.u64.wrap ((uTarget r0 (max r5 r0) (uCbrt (uMulDiv (IntKind.u64.wrap (r5 - r0)) 1000000000 480)) (uAdd (uSub now now) took)) - r0)) by_ r0)))), .int .u64 r1, .int .u64 r2, .bool true, .int .u64 now, .int .u64 (max r5 r0), .int .u64 (uCbrt (uMulDiv (IntKind.u64.wrap (r5 - r0)) 1000000000 480)), .int .u64 (uAdd r0 (uMulDiv by_ 635 r0))] := (by rw [hW]; (repeat (first | (with_reducible refine Blk.drewN ?_ _) | (with_reducible refine Blk.drew ?_))); refine Blk.set (l := [.int .u64 r0, .int .u64 r1, .int .u64 r2, .bool true, .int .u64 now, .int .u64 (max r5 r0), .int .u64 (uCbrt (uMulDiv (IntKind.u64.wrap (r5 - r0)) 1000000000 480)), .int .u64 (uAdd r0 (uMulDiv by_ 635 r0))]) ?_ 0 _ rfl; (repeat (first | (with_reducible refine Blk.drewN ?_ _) | (with_reducible refine Blk.drew ?_))); exact Bg0)
 replace Bg0 := Bn_
 clear Bn_
 have Bn_ : Blk w23 g1 29 [.int .u64 0, .int .u64 0, .int .u64 0, .bool false, .int .u64 0, .int .u64 0, .int .u64 0, .int .u64 0] := (by rw [hW]; (repeat (first | (with_reducible refine Blk.drewN ?_ _) | (with_reducible refine Blk.drew ?_))); refine Blk.setFar ?_ Ng1_g0; (repeat (first | (with_reducible refine Blk.drewN ?_ _) | (with_reducible refine Blk.drew ?_))); exact Bg1)
 replace Bg1 := Bn_
 clear Bn_
 have HS_ : Since w w23 := (by rw [hW]; repeat (first | (with_reducible exact HS) | (with_reducible refine Since.drewN ?_ _) | (with_reducible refine Since.drew ?_) | (with_reducible refine Since.set ?_ GEg0)))
 replace HS := HS_
 clear HS_ hW
 clear kg0_0 zg0_0 kg0_7
 go_wp2_with (first | (refine seg_load rfl (N := 97) rfl 29 (.tmp 6) rfl g0 0 [.int .u64 (uHeld (max (uAdd r0 (uMulDiv by_ 635 r0)) (uAdd r0 (uMulDiv (IntKind.u64.wrap ((uTarget r0 (max r5 r0) (uCbrt (uMulDiv (IntKind.u64.wrap (r5 - r0)) 1000000000 480)) (uAdd (uSub now now) took)) - r0)) by_ r0)))), .int .u64 r1, .int .u64 r2, .bool true, .int .u64 now, .int .u64 (max r5 r0), .int .u64 (uCbrt (uMulDiv (IntKind.u64.wrap (r5 - r0)) 1000000000 480)), .int .u64 (uAdd r0 (uMulDiv by_ 635 r0))] rfl Bg0 rfl Try.underlying29 rfl (by kernel_rfl) ?_) | (refine seg_store rfl rfl 29 (.tmp 12) (.tmp 97) rfl g1 0 [.int .u64 (uHeld (max (uAdd r0 (uMulDiv by_ 635 r0)) (uAdd r0 (uMulDiv (IntKind.u64.wrap ((uTarget r0 (max r5 r0) (uCbrt (uMulDiv (IntKind.u64.wrap (r5 - r0)) 1000000000 480)) (uAdd (uSub now now) took)) - r0)) by_ r0)))), .int .u64 r1, .int .u64 r2, .bool true, .int .u64 now, .int .u64 (max r5 r0), .int .u64 (uCbrt (uMulDiv (IntKind.u64.wrap (r5 - r0)) 1000000000 480)), .int .u64 (uAdd r0 (uMulDiv by_ 635 r0))] [.int .u64 (uHeld (max (uAdd r0 (uMulDiv by_ 635 r0)) (uAdd r0 (uMulDiv (IntKind.u64.wrap ((uTarget r0 (max r5 r0) (uCbrt (uMulDiv (IntKind.u64.wrap (r5 - r0)) 1000000000 480)) (uAdd (uSub now now) took)) - r0)) by_ r0)))), .int .u64 r1, .int .u64 r2, .bool true, .int .u64 now, .int .u64 (max r5 r0), .int .u64 (uCbrt (uMulDiv (IntKind.u64.wrap (r5 - r0)) 1000000000 480)), .int .u64 (uAdd r0 (uMulDiv by_ 635 r0))] (.agg #[.int .u64 (uHeld (max (uAdd r0 (uMulDiv by_ 635 r0)) (uAdd r0 (uMulDiv (IntKind.u64.wrap ((uTarget r0 (max r5 r0) (uCbrt (uMulDiv (IntKind.u64.wrap (r5 - r0)) 1000000000 480)) (uAdd (uSub now now) took)) - r0)) by_ r0)))), .int .u64 r1, .int .u64 r2, .bool true, .int .u64 now, .int .u64 (max r5 r0), .int .u64 (uCbrt (uMulDiv (IntKind.u64.wrap (r5 - r0)) 1000000000 480)), .int .u64 (uAdd r0 (uMulDiv by_ 635 r0))]) rfl rfl rfl Bg1 (by kernel_rfl) (nle rfl) rfl rfl ?_; intro w24 hn hw; replace Bg0 := Bg0.grown hw Ng1_g0.symm; replace HS := HS.grown hw GEg1; replace Bg1 := hn; clear hw; clear hn))
 all_goals exact bodyPost_ret (results_cell1 rfl _ _ g1 29 [.int .u64 (uHeld (max (uAdd r0 (uMulDiv by_ 635 r0)) (uAdd r0 (uMulDiv (IntKind.u64.wrap ((uTarget r0 (max r5 r0) (uCbrt (uMulDiv (IntKind.u64.wrap (r5 - r0)) 1000000000 480)) (uAdd (uSub now now) took)) - r0)) by_ r0)))), .int .u64 r1, .int .u64 r2, .bool true, .int .u64 now, .int .u64 (max r5 r0), .int .u64 (uCbrt (uMulDiv (IntKind.u64.wrap (r5 - r0)) 1000000000 480)), .int .u64 (uAdd r0 (uMulDiv by_ 635 r0))] _ rfl Bg1 Try.underlying29 rfl (by kernel_rfl)) rfl ⟨rfl, HS.out⟩
theorem cubic_ack_5 (r0 r1 r2 r4 r5 r6 r7 by_ at_ now took : Int) (Wr0 : W64 r0) (Wr5 : W64 r5) (Wby_ : W64 by_) (Wnow : W64 now) (Wtook : W64 took) (w : World) (h0 : (decide (at_ < r2)) = false) (h1 : (decide (r0 < r1)) = false) (h2 : (decide (r0 < r5)) = false) :
  Calls Try.prog 12 #[.agg #[.int .u64 r0, .int .u64 r1, .int .u64 r2, .bool false, .int .u64 r4, .int .u64 r5, .int .u64 r6, .int .u64 r7], .int .u64 by_, .int .u64 at_, .int .u64 now, .int .u64 took, .bool false] w fun e w' => e = .returned (.agg #[.int .u64 (uHeld (max (uAdd r0 (uMulDiv by_ 635 r0)) (uAdd r0 (uMulDiv (IntKind.u64.wrap ((uTarget r0 (max r5 r0) 0 (uAdd (uSub now now) took)) - r0)) by_ r0)))), .int .u64 r1, .int .u64 r2, .bool true, .int .u64 now, .int .u64 (max r5 r0), .int .u64 0, .int .u64 (uAdd r0 (uMulDiv by_ 635 r0))]) ∧ Below w.heap.size w w' := by
 have hu29 := Try.underlying29
 have HS := Since.refl w
 go_enter Try.func12, Try.ntmps12
 go_wp2_with (first | (refine seg_new rfl (N := 6) rfl [.int .u64 r0, .int .u64 r1, .int .u64 r2, .bool false, .int .u64 r4, .int .u64 r5, .int .u64 r6, .int .u64 r7] 29 ?hr ?_; (case hr => rfl); intro g0 hg w1 hn hl; have GEg0 := ge_new HS hg; clear hg; replace HS := HS.below hl; have Bg0 := hn; clear hl hn) | (refine seg_new rfl (N := 12) rfl [.int .u64 0, .int .u64 0, .int .u64 0, .bool false, .int .u64 0, .int .u64 0, .int .u64 0, .int .u64 0] 29 ?hr ?_; (case hr => rfl); intro g1 hg w2 hn hl; have Ng1_g0 := ne_new Bg0 hg; have GEg1 := ge_new HS hg; clear hg; replace Bg0 := Bg0.below hl; replace HS := HS.below hl; have Bg1 := hn; clear hl hn; have kg0_0 := Bg0.at 0 rfl; have kg0_1 := Bg0.at 1 rfl; have kg0_2 := Bg0.at 2 rfl; have kg0_3 := Bg0.at 3 rfl) | (refine seg_store rfl rfl 4 (.tmp 42) (.const (.bool true)) rfl g0 3 [.bool true] [.int .u64 r0, .int .u64 r1, .int .u64 r2, .bool true, .int .u64 r4, .int .u64 r5, .int .u64 r6, .int .u64 r7] (.bool true) rfl rfl rfl Bg0 (by kernel_rfl) (nle rfl) rfl rfl ?_; intro w3 hn hw; replace Bg1 := Bg1.grown hw Ng1_g0; replace HS := HS.grown hw GEg0; replace Bg0 := hn; clear hw; clear kg0_0 kg0_1 kg0_2 kg0_3; clear hn) | (refine seg_store rfl rfl 23 (.tmp 43) (.tmp 39) rfl g0 4 [.int .u64 now] [.int .u64 r0, .int .u64 r1, .int .u64 r2, .bool true, .int .u64 now, .int .u64 r5, .int .u64 r6, .int .u64 r7] (.int .u64 now) rfl rfl rfl Bg0 (by kernel_rfl) (nle rfl) rfl rfl ?_; intro w4 hn hw; replace Bg1 := Bg1.grown hw Ng1_g0; replace HS := HS.grown hw GEg0; replace Bg0 := hn; clear hw; clear hn) | (refine seg_store rfl rfl 23 (.tmp 44) (.tmp 41) rfl g0 7 [.int .u64 r0] [.int .u64 r0, .int .u64 r1, .int .u64 r2, .bool true, .int .u64 now, .int .u64 r5, .int .u64 r6, .int .u64 r0] (.int .u64 r0) rfl rfl rfl Bg0 (by kernel_rfl) (nle rfl) rfl rfl ?_; intro w5 hn hw; replace Bg1 := Bg1.grown hw Ng1_g0; replace HS := HS.grown hw GEg0; replace Bg0 := hn; clear hw; clear hn) | (refine seg_store rfl rfl 23 (.tmp 45) (.const (.int .u64 0)) rfl g0 6 [.int .u64 0] [.int .u64 r0, .int .u64 r1, .int .u64 r2, .bool true, .int .u64 now, .int .u64 r5, .int .u64 0, .int .u64 r0] (.int .u64 0) rfl rfl rfl Bg0 (by kernel_rfl) (nle rfl) rfl rfl ?_; intro w6 hn hw; replace Bg1 := Bg1.grown hw Ng1_g0; replace HS := HS.grown hw GEg0; replace Bg0 := hn; clear hw; have kg0_0 := Bg0.at 0 rfl; have kg0_5 := Bg0.at 5 rfl; clear hn) | (refine seg_store rfl rfl 23 (.tmp 64) (.tmp 63) rfl g0 5 [.int .u64 (max r5 r0)] [.int .u64 r0, .int .u64 r1, .int .u64 r2, .bool true, .int .u64 now, .int .u64 (max r5 r0), .int .u64 0, .int .u64 r0] (.int .u64 (max r5 r0)) rfl rfl rfl Bg0 (by kernel_rfl) (nle rfl) rfl rfl ?_; intro w7 hn hw; replace Bg1 := Bg1.grown hw Ng1_g0; replace HS := HS.grown hw GEg0; replace Bg0 := hn; clear hw; clear kg0_5; replace kg0_0 := Bg0.at 0 rfl; have kg0_7 := Bg0.at 7 rfl; have zg0_7 := Bg0.frozen 7; clear hn))
 refine start_ (n := 9) (S := fun w' => w'.cell? ⟨g0, 7, none⟩ = some (.int .u64 r0) ∧ w'.cell? ⟨g0, 0, none⟩ = some (.int .u64 r0)) (ds := [8]) (bs 9 0) (by kernel_rfl) rfl rfl ⟨((Bg0.drew.cell 7).trans rfl), ((Bg0.drew.cell 0).trans rfl)⟩ (fun hHeld => ?_)
 generalize hWd : World.drew w7 = w8 at hHeld ⊢
 have hl : Below w7.heap.size w7 w8 := (by rw [← hWd]; exact below_drew1 (Below.refl _ _))
 clear hWd
 replace Bg0 := Bg0.below hl; replace Bg1 := Bg1.below hl; replace HS := HS.below hl; clear hl; replace kg0_0 := Bg0.at 0 rfl; replace kg0_7 := Bg0.at 7 rfl; replace zg0_7 := Bg0.frozen 7
 refine pu 0 65 (.pointer (some ⟨g0, 7, none⟩)) 1 rfl rfl (by kernel_rfl) (fun _ _ _ h => h) (by rfl) (fun _ => by kernel_rfl) rfl ?_
 refine pu 2 67 (.int .u64 by_) 5 rfl rfl (by kernel_rfl) (fun _ _ _ h => h) (by rfl) (fun _ => by kernel_rfl) rfl ?_
 refine pu 3 68 (.pointer (some ⟨g0, 0, none⟩)) 13 rfl rfl (by kernel_rfl) (fun _ _ _ h => h) (by rfl) (fun _ => by kernel_rfl) rfl ?_
 refine norm_ (a' := ?_) ?_ ?_
 rotate_left
 ·simp only [Act.put, zA_, z0_, z1_, i64_w, i32_w]
  rfl
 refine take_ (i := 1) (N := some 66) (v := ?_) (a' := ?_) (bs 9 15) rfl rfl (by kernel_rfl) (fun _ _ _ h => h) (Or.inl ⟨by rfl, ?_⟩) hHeld ?_ ?_
 rotate_left
 ·rintro w' ⟨s0, s1⟩
  go_simp
  with_reducible rfl
 rotate_left
 ·simp only [Act.put, zA_, z0_, z1_, i64_w, i32_w]
  rfl
 refine take_ (i := 4) (N := some 69) (v := ?_) (a' := ?_) (bs 9 31) rfl rfl (by kernel_rfl) (fun _ _ _ h => h) (Or.inl ⟨by rfl, ?_⟩) hHeld ?_ ?_
 rotate_left
 ·rintro w' ⟨s0, s1⟩
  go_simp
  with_reducible rfl
 rotate_left
 ·simp only [Act.put, zA_, z0_, z1_, i64_w, i32_w]
  rfl
 refine one_ (i := 5) (N := some 70) (bs 9 63) rfl rfl (by kernel_rfl) (by decide) (fun K hK => ?_)
 refine goes_ Try.func20 (by kernel_rfl) rfl #[.int .u64 by_, .int .u64 635, .int .u64 r0] (by rfl) rfl rfl (by simp only [List.map_toArray, List.map_cons, List.map_nil]; rfl) ?_
 with_reducible refine (fix_MulDivT.C by_ 635 r0 Wby_ (by decide) Wr0 _).mono ?_
 rintro e w9 ⟨rfl, hd⟩
 refine ⟨_, rfl, ?_⟩
 have hl := hd.below
 clear hd
 replace Bg0 := Bg0.below hl; replace Bg1 := Bg1.below hl; replace HS := HS.below hl; clear hl; replace kg0_0 := Bg0.at 0 rfl; replace kg0_7 := Bg0.at 7 rfl; replace zg0_7 := Bg0.frozen 7
 refine hK.out _ _ ⟨((Bg0.cell 7).trans rfl), ((Bg0.cell 0).trans rfl)⟩ (fun hHeld => ?_)
 clear hK K
 refine norm_ (a' := ?_) ?_ ?_
 rotate_left
 ·show Act.put _ (some 70) _ = _
  simp only [Act.put, zA_, z0_, z1_, i64_w, i32_w]
  rfl
 refine one_ (i := 6) (N := some 71) (bs 9 127) rfl rfl (by kernel_rfl) (by decide) (fun K hK => ?_)
 refine goes_ Try.func25 (by kernel_rfl) rfl #[.int .u64 r0, .int .u64 (uMulDiv by_ 635 r0)] (by rfl) rfl rfl (by simp only [List.map_toArray, List.map_cons, List.map_nil]; rfl) ?_
 with_reducible refine (fix_Add.C r0 (uMulDiv by_ 635 r0) Wr0 (uMulDiv_w Wby_ (by decide) Wr0) _).mono ?_
 rintro e w10 ⟨rfl, hd⟩
 refine ⟨_, rfl, ?_⟩
 have hl := hd.below
 clear hd
 replace Bg0 := Bg0.below hl; replace Bg1 := Bg1.below hl; replace HS := HS.below hl; clear hl; replace kg0_0 := Bg0.at 0 rfl; replace kg0_7 := Bg0.at 7 rfl; replace zg0_7 := Bg0.frozen 7
 refine hK.out _ _ ⟨((Bg0.cell 7).trans rfl), ((Bg0.cell 0).trans rfl)⟩ (fun hHeld => ?_)
 clear hK K
 refine norm_ (a' := ?_) ?_ ?_
 rotate_left
 ·show Act.put _ (some 71) _ = _
  simp only [Act.put, zA_, z0_, z1_, i64_w, i32_w]
  rfl
 refine pu 7 72 (.pointer (some ⟨g0, 7, none⟩)) 255 rfl rfl (by kernel_rfl) (fun _ _ _ h => h) (by rfl) (fun _ => by kernel_rfl) rfl ?_
 refine norm_ (a' := ?_) ?_ ?_
 rotate_left
 ·simp only [Act.put, zA_, z0_, z1_, i64_w, i32_w]
  rfl
 refine last_ (i := 8) (N := none) (bs 9 511) rfl rfl (by kernel_rfl) (by decide) (fun K hK => ?_)
 refine skip_ (w1 := ?_) (by rfl) rfl ?_ ?_
 rotate_left
 ·go_simp
  rfl
 refine hK.out _ _ ?_
 clear hK K
 refine done_ (by kernel_rfl) ?_
 refine letter ?_
 intro w11 hW
 have Bn_ : Blk w11 g0 29 [.int .u64 r0, .int .u64 r1, .int .u64 r2, .bool true, .int .u64 now, .int .u64 (max r5 r0), .int .u64 0, .int .u64 (uAdd r0 (uMulDiv by_ 635 r0))] := (by rw [hW]; (repeat (first | (with_reducible refine Blk.drewN ?_ _) | (with_reducible refine Blk.drew ?_))); refine Blk.set (l := [.int .u64 r0, .int .u64 r1, .int .u64 r2, .bool true, .int .u64 now, .int .u64 (max r5 r0), .int .u64 0, .int .u64 r0]) ?_ 7 _ rfl; (repeat (first | (with_reducible refine Blk.drewN ?_ _) | (with_reducible refine Blk.drew ?_))); exact Bg0)
 replace Bg0 := Bn_
 clear Bn_
 have Bn_ : Blk w11 g1 29 [.int .u64 0, .int .u64 0, .int .u64 0, .bool false, .int .u64 0, .int .u64 0, .int .u64 0, .int .u64 0] := (by rw [hW]; (repeat (first | (with_reducible refine Blk.drewN ?_ _) | (with_reducible refine Blk.drew ?_))); refine Blk.setFar ?_ Ng1_g0; (repeat (first | (with_reducible refine Blk.drewN ?_ _) | (with_reducible refine Blk.drew ?_))); exact Bg1)
 replace Bg1 := Bn_
 clear Bn_
 have HS_ : Since w w11 := (by rw [hW]; repeat (first | (with_reducible exact HS) | (with_reducible refine Since.drewN ?_ _) | (with_reducible refine Since.drew ?_) | (with_reducible refine Since.set ?_ GEg0)))
 replace HS := HS_
 clear HS_ hW
 clear kg0_7 zg0_7; replace kg0_0 := Bg0.at 0 rfl; have kg0_4 := Bg0.at 4 rfl
 go_wp2
 refine start_ (n := 12) (S := fun w' => Blk w' g0 29 [.int .u64 r0, .int .u64 r1, .int .u64 r2, .bool true, .int .u64 now, .int .u64 (max r5 r0), .int .u64 0, .int .u64 (uAdd r0 (uMulDiv by_ 635 r0))] ∧ w'.cell? ⟨g0, 4, none⟩ = some (.int .u64 now) ∧ w'.cell? ⟨g0, 0, none⟩ = some (.int .u64 r0)) (ds := []) (bs 12 0) (by kernel_rfl) rfl rfl ⟨Bg0.drew, ((Bg0.drew.cell 4).trans rfl), ((Bg0.drew.cell 0).trans rfl)⟩ (fun hHeld => ?_)
 generalize hWd : World.drew w11 = w12 at hHeld ⊢
 have hl : Below w11.heap.size w11 w12 := (by rw [← hWd]; exact below_drew1 (Below.refl _ _))
 clear hWd
 replace Bg0 := Bg0.below hl; replace Bg1 := Bg1.below hl; replace HS := HS.below hl; clear hl; replace kg0_0 := Bg0.at 0 rfl; replace kg0_4 := Bg0.at 4 rfl
 refine pu 1 74 (.int .u64 now) 2 rfl rfl (by kernel_rfl) (fun _ _ _ h => h) (by rfl) (fun _ => by kernel_rfl) rfl ?_
 refine pu 2 75 (.pointer (some ⟨g0, 4, none⟩)) 6 rfl rfl (by kernel_rfl) (fun _ _ _ h => h) (by rfl) (fun _ => by kernel_rfl) rfl ?_
 refine pu 5 78 (.int .u64 took) 38 rfl rfl (by kernel_rfl) (fun _ _ _ h => h) (by rfl) (fun _ => by kernel_rfl) rfl ?_
 refine pu 8 81 (.pointer (some ⟨g0, 0, none⟩)) 294 rfl rfl (by kernel_rfl) (fun _ _ _ h => h) (by rfl) (fun _ => by kernel_rfl) rfl ?_
 refine norm_ (a' := ?_) ?_ ?_
 rotate_left
 ·simp only [Act.put, zA_, z0_, z1_, i64_w, i32_w]
  rfl
 refine take_ (i := 0) (N := some 73) (v := .agg #[.int .u64 r0, .int .u64 r1, .int .u64 r2, .bool true, .int .u64 now, .int .u64 (max r5 r0), .int .u64 0, .int .u64 (uAdd r0 (uMulDiv by_ 635 r0))]) (a' := ?_) (bs 12 295) rfl rfl (by kernel_rfl) (fun _ _ _ h => h) (Or.inl ⟨by rfl, ?_⟩) hHeld ?_ ?_
 ·rintro w' ⟨s0, s1, s2⟩
  exact exec_seg_load 29 (.tmp 6) (by rfl) g0 0 [.int .u64 r0, .int .u64 r1, .int .u64 r2, .bool true, .int .u64 now, .int .u64 (max r5 r0), .int .u64 0, .int .u64 (uAdd r0 (uMulDiv by_ 635 r0))] (by rfl) s0 (by rfl) Try.underlying29 (by rfl) (by kernel_rfl)
 rotate_left
 ·simp only [Act.put, zA_, z0_, z1_, i64_w, i32_w]
  rfl
 refine take_ (i := 3) (N := some 76) (v := ?_) (a' := ?_) (bs 12 303) rfl rfl (by kernel_rfl) (fun _ _ _ h => h) (Or.inl ⟨by rfl, ?_⟩) hHeld ?_ ?_
 rotate_left
 ·rintro w' ⟨s0, s1, s2⟩
  go_simp
  with_reducible rfl
 rotate_left
 ·simp only [Act.put, zA_, z0_, z1_, i64_w, i32_w]
  rfl
 refine take_ (i := 9) (N := some 82) (v := ?_) (a' := ?_) (bs 12 815) rfl rfl (by kernel_rfl) (fun _ _ _ h => h) (Or.inl ⟨by rfl, ?_⟩) hHeld ?_ ?_
 rotate_left
 ·rintro w' ⟨s0, s1, s2⟩
  go_simp
  with_reducible rfl
 rotate_left
 ·simp only [Act.put, zA_, z0_, z1_, i64_w, i32_w]
  rfl
 refine one_ (i := 4) (N := some 77) (bs 12 831) rfl rfl (by kernel_rfl) (by decide) (fun K hK => ?_)
 refine goes_ Try.func29 (by kernel_rfl) rfl #[.int .u64 now, .int .u64 now] (by rfl) rfl rfl (by simp only [List.map_toArray, List.map_cons, List.map_nil]; rfl) ?_
 with_reducible refine (fix_Sub.C now now Wnow Wnow _).mono ?_
 rintro e w13 ⟨rfl, hd⟩
 refine ⟨_, rfl, ?_⟩
 have hl := hd.below
 clear hd
 replace Bg0 := Bg0.below hl; replace Bg1 := Bg1.below hl; replace HS := HS.below hl; clear hl; replace kg0_0 := Bg0.at 0 rfl; replace kg0_4 := Bg0.at 4 rfl
 refine hK.out _ _ ⟨Bg0, ((Bg0.cell 4).trans rfl), ((Bg0.cell 0).trans rfl)⟩ (fun hHeld => ?_)
 clear hK K
 refine norm_ (a' := ?_) ?_ ?_
 rotate_left
 ·show Act.put _ (some 77) _ = _
  simp only [Act.put, zA_, z0_, z1_, i64_w, i32_w]
  rfl
 refine one_ (i := 6) (N := some 79) (bs 12 895) rfl rfl (by kernel_rfl) (by decide) (fun K hK => ?_)
 refine goes_ Try.func25 (by kernel_rfl) rfl #[.int .u64 (uSub now now), .int .u64 took] (by rfl) rfl rfl (by simp only [List.map_toArray, List.map_cons, List.map_nil]; rfl) ?_
 with_reducible refine (fix_Add.C (uSub now now) took (uSub_w Wnow Wnow) Wtook _).mono ?_
 rintro e w14 ⟨rfl, hd⟩
 refine ⟨_, rfl, ?_⟩
 have hl := hd.below
 clear hd
 replace Bg0 := Bg0.below hl; replace Bg1 := Bg1.below hl; replace HS := HS.below hl; clear hl; replace kg0_0 := Bg0.at 0 rfl; replace kg0_4 := Bg0.at 4 rfl
 refine hK.out _ _ ⟨Bg0, ((Bg0.cell 4).trans rfl), ((Bg0.cell 0).trans rfl)⟩ (fun hHeld => ?_)
 clear hK K
 refine norm_ (a' := ?_) ?_ ?_
 rotate_left
 ·show Act.put _ (some 79) _ = _
  simp only [Act.put, zA_, z0_, z1_, i64_w, i32_w]
  rfl
 refine one_ (i := 7) (N := some 80) (bs 12 1023) rfl rfl (by kernel_rfl) (by decide) (fun K hK => ?_)
 refine goes_ Try.func28 (by kernel_rfl) rfl #[.agg #[.int .u64 r0, .int .u64 r1, .int .u64 r2, .bool true, .int .u64 now, .int .u64 (max r5 r0), .int .u64 0, .int .u64 (uAdd r0 (uMulDiv by_ 635 r0))], .int .u64 (uAdd (uSub now now) took)] (by rfl) rfl rfl (by simp only [List.map_toArray, List.map_cons, List.map_nil]; rfl) ?_
 with_reducible refine (targetC r0 r1 r2 true now (max r5 r0) 0 (uAdd r0 (uMulDiv by_ 635 r0)) (uAdd (uSub now now) took) Wr0 (max_w Wr5 Wr0) (by decide) (uAdd_w (uSub_w Wnow Wnow) Wtook) _).mono ?_
 rintro e w15 ⟨rfl, hl⟩
 refine ⟨_, rfl, ?_⟩
 replace Bg0 := Bg0.below hl; replace Bg1 := Bg1.below hl; replace HS := HS.below hl; clear hl; replace kg0_0 := Bg0.at 0 rfl; replace kg0_4 := Bg0.at 4 rfl
 refine hK.out _ _ ⟨Bg0, ((Bg0.cell 4).trans rfl), ((Bg0.cell 0).trans rfl)⟩ (fun hHeld => ?_)
 clear hK K
 refine norm_ (a' := ?_) ?_ ?_
 rotate_left
 ·show Act.put _ (some 80) _ = _
  simp only [Act.put, zA_, z0_, z1_, i64_w, i32_w]
  rfl
 refine pure_ (i := 10) (N := some 83) (v := ?_) (a' := ?_) (bs 12 2047) rfl rfl (by kernel_rfl) (fun _ _ _ h => h) (Or.inl ⟨by rfl, ?_⟩) ?_ ?_
 rotate_left
 ·intro w'
  go_simp
  with_reducible rfl
 rotate_left
 ·simp only [Act.put, zA_, z0_, z1_, i64_w, i32_w]
  rfl
 refine pure_ (i := 11) (N := some 13) (v := ?_) (a' := ?_) (bs 12 4095) rfl rfl (by kernel_rfl) (fun _ _ _ h => h) (Or.inl ⟨by rfl, ?_⟩) ?_ ?_
 rotate_left
 ·intro w'
  go_simp
  with_reducible rfl
 rotate_left
 ·simp only [Act.put, zA_, z0_, z1_, i64_w, i32_w]
  rfl
 refine done_ (by kernel_rfl) ?_
 clear kg0_4; replace kg0_0 := Bg0.at 0 rfl; have zg0_0 := Bg0.frozen 0; have kg0_7 := Bg0.at 7 rfl
 go_wp2
 refine start_ (n := 14) (S := fun w' => w'.cell? ⟨g0, 7, none⟩ = some (.int .u64 (uAdd r0 (uMulDiv by_ 635 r0))) ∧ w'.cell? ⟨g0, 0, none⟩ = some (.int .u64 r0)) (ds := [13]) (bs 14 0) (by kernel_rfl) rfl rfl ⟨((Bg0.drew.cell 7).trans rfl), ((Bg0.drew.cell 0).trans rfl)⟩ (fun hHeld => ?_)
 generalize hWd : World.drew w15 = w16 at hHeld ⊢
 have hl : Below w15.heap.size w15 w16 := (by rw [← hWd]; exact below_drew1 (Below.refl _ _))
 clear hWd
 replace Bg0 := Bg0.below hl; replace Bg1 := Bg1.below hl; replace HS := HS.below hl; clear hl; replace kg0_0 := Bg0.at 0 rfl; replace zg0_0 := Bg0.frozen 0; replace kg0_7 := Bg0.at 7 rfl
 refine pu 0 84 (.pointer (some ⟨g0, 7, none⟩)) 1 rfl rfl (by kernel_rfl) (fun _ _ _ h => h) (by rfl) (fun _ => by kernel_rfl) rfl ?_
 refine pu 2 86 (.pointer (some ⟨g0, 0, none⟩)) 5 rfl rfl (by kernel_rfl) (fun _ _ _ h => h) (by rfl) (fun _ => by kernel_rfl) rfl ?_
 refine pu 4 88 (.int .u64 (IntKind.u64.wrap ((uTarget r0 (max r5 r0) 0 (uAdd (uSub now now) took)) - r0))) 21 rfl rfl (by kernel_rfl) (fun _ _ _ h => h) (by rfl) (fun _ => by kernel_rfl) rfl ?_
 refine pu 5 89 (.int .u64 by_) 53 rfl rfl (by kernel_rfl) (fun _ _ _ h => h) (by rfl) (fun _ => by kernel_rfl) rfl ?_
 refine pu 6 90 (.pointer (some ⟨g0, 0, none⟩)) 117 rfl rfl (by kernel_rfl) (fun _ _ _ h => h) (by rfl) (fun _ => by kernel_rfl) rfl ?_
 refine norm_ (a' := ?_) ?_ ?_
 rotate_left
 ·simp only [Act.put, zA_, z0_, z1_, i64_w, i32_w]
  rfl
 refine take_ (i := 1) (N := some 85) (v := ?_) (a' := ?_) (bs 14 119) rfl rfl (by kernel_rfl) (fun _ _ _ h => h) (Or.inl ⟨by rfl, ?_⟩) hHeld ?_ ?_
 rotate_left
 ·rintro w' ⟨s0, s1⟩
  go_simp
  with_reducible rfl
 rotate_left
 ·simp only [Act.put, zA_, z0_, z1_, i64_w, i32_w]
  rfl
 refine take_ (i := 3) (N := some 87) (v := ?_) (a' := ?_) (bs 14 127) rfl rfl (by kernel_rfl) (fun _ _ _ h => h) (Or.inl ⟨by rfl, ?_⟩) hHeld ?_ ?_
 rotate_left
 ·rintro w' ⟨s0, s1⟩
  go_simp
  with_reducible rfl
 rotate_left
 ·simp only [Act.put, zA_, z0_, z1_, i64_w, i32_w]
  rfl
 refine take_ (i := 7) (N := some 91) (v := ?_) (a' := ?_) (bs 14 255) rfl rfl (by kernel_rfl) (fun _ _ _ h => h) (Or.inl ⟨by rfl, ?_⟩) hHeld ?_ ?_
 rotate_left
 ·rintro w' ⟨s0, s1⟩
  go_simp
  with_reducible rfl
 rotate_left
 ·simp only [Act.put, zA_, z0_, z1_, i64_w, i32_w]
  rfl
 refine one_ (i := 8) (N := some 92) (bs 14 511) rfl rfl (by kernel_rfl) (by decide) (fun K hK => ?_)
 refine goes_ Try.func20 (by kernel_rfl) rfl #[.int .u64 (IntKind.u64.wrap ((uTarget r0 (max r5 r0) 0 (uAdd (uSub now now) took)) - r0)), .int .u64 by_, .int .u64 r0] (by rfl) rfl rfl (by simp only [List.map_toArray, List.map_cons, List.map_nil]; rfl) ?_
 with_reducible refine (fix_MulDivT.C (IntKind.u64.wrap ((uTarget r0 (max r5 r0) 0 (uAdd (uSub now now) took)) - r0)) by_ r0 (w64_wrap _) Wby_ Wr0 _).mono ?_
 rintro e w17 ⟨rfl, hd⟩
 refine ⟨_, rfl, ?_⟩
 have hl := hd.below
 clear hd
 replace Bg0 := Bg0.below hl; replace Bg1 := Bg1.below hl; replace HS := HS.below hl; clear hl; replace kg0_0 := Bg0.at 0 rfl; replace zg0_0 := Bg0.frozen 0; replace kg0_7 := Bg0.at 7 rfl
 refine hK.out _ _ ⟨((Bg0.cell 7).trans rfl), ((Bg0.cell 0).trans rfl)⟩ (fun hHeld => ?_)
 clear hK K
 refine norm_ (a' := ?_) ?_ ?_
 rotate_left
 ·show Act.put _ (some 92) _ = _
  simp only [Act.put, zA_, z0_, z1_, i64_w, i32_w]
  rfl
 refine one_ (i := 9) (N := some 93) (bs 14 1023) rfl rfl (by kernel_rfl) (by decide) (fun K hK => ?_)
 refine goes_ Try.func25 (by kernel_rfl) rfl #[.int .u64 r0, .int .u64 (uMulDiv (IntKind.u64.wrap ((uTarget r0 (max r5 r0) 0 (uAdd (uSub now now) took)) - r0)) by_ r0)] (by rfl) rfl rfl (by simp only [List.map_toArray, List.map_cons, List.map_nil]; rfl) ?_
 with_reducible refine (fix_Add.C r0 (uMulDiv (IntKind.u64.wrap ((uTarget r0 (max r5 r0) 0 (uAdd (uSub now now) took)) - r0)) by_ r0) Wr0 (uMulDiv_w (w64_wrap _) Wby_ Wr0) _).mono ?_
 rintro e w18 ⟨rfl, hd⟩
 refine ⟨_, rfl, ?_⟩
 have hl := hd.below
 clear hd
 replace Bg0 := Bg0.below hl; replace Bg1 := Bg1.below hl; replace HS := HS.below hl; clear hl; replace kg0_0 := Bg0.at 0 rfl; replace zg0_0 := Bg0.frozen 0; replace kg0_7 := Bg0.at 7 rfl
 refine hK.out _ _ ⟨((Bg0.cell 7).trans rfl), ((Bg0.cell 0).trans rfl)⟩ (fun hHeld => ?_)
 clear hK K
 refine norm_ (a' := ?_) ?_ ?_
 rotate_left
 ·show Act.put _ (some 93) _ = _
  simp only [Act.put, zA_, z0_, z1_, i64_w, i32_w]
  rfl
 refine pure_ (i := 10) (N := some 94) (v := ?_) (a' := ?_) (bs 14 2047) rfl rfl (by kernel_rfl) (fun _ _ _ h => h) (Or.inl ⟨by rfl, ?_⟩) ?_ ?_
 rotate_left
 ·intro w'
  go_simp
  with_reducible rfl
 rotate_left
 ·simp only [Act.put, zA_, z0_, z1_, i64_w, i32_w]
  rfl
 refine one_ (i := 11) (N := some 95) (bs 14 4095) rfl rfl (by kernel_rfl) (by decide) (fun K hK => ?_)
 refine goes_ Try.func24 (by kernel_rfl) rfl #[.int .u64 (max (uAdd r0 (uMulDiv by_ 635 r0)) (uAdd r0 (uMulDiv (IntKind.u64.wrap ((uTarget r0 (max r5 r0) 0 (uAdd (uSub now now) took)) - r0)) by_ r0)))] (by rfl) rfl rfl (by simp only [List.map_toArray, List.map_cons, List.map_nil]; rfl) ?_
 with_reducible refine (reno_Held.C (max (uAdd r0 (uMulDiv by_ 635 r0)) (uAdd r0 (uMulDiv (IntKind.u64.wrap ((uTarget r0 (max r5 r0) 0 (uAdd (uSub now now) took)) - r0)) by_ r0))) _).mono ?_
 rintro e w19 ⟨rfl, hd⟩
 refine ⟨_, rfl, ?_⟩
 have hl := hd.below
 clear hd
 replace Bg0 := Bg0.below hl; replace Bg1 := Bg1.below hl; replace HS := HS.below hl; clear hl; replace kg0_0 := Bg0.at 0 rfl; replace zg0_0 := Bg0.frozen 0; replace kg0_7 := Bg0.at 7 rfl
 refine hK.out _ _ ⟨((Bg0.cell 7).trans rfl), ((Bg0.cell 0).trans rfl)⟩ (fun hHeld => ?_)
 clear hK K
 refine norm_ (a' := ?_) ?_ ?_
 rotate_left
 ·show Act.put _ (some 95) _ = _
  simp only [Act.put, zA_, z0_, z1_, i64_w, i32_w]
  rfl
 refine pu 12 96 (.pointer (some ⟨g0, 0, none⟩)) 8191 rfl rfl (by kernel_rfl) (fun _ _ _ h => h) (by rfl) (fun _ => by kernel_rfl) rfl ?_
 refine norm_ (a' := ?_) ?_ ?_
 rotate_left
 ·simp only [Act.put, zA_, z0_, z1_, i64_w, i32_w]
  rfl
 refine last_ (i := 13) (N := none) (bs 14 16383) rfl rfl (by kernel_rfl) (by decide) (fun K hK => ?_)
 refine skip_ (w1 := ?_) (by rfl) rfl ?_ ?_
 rotate_left
 ·go_simp
  rfl
 refine hK.out _ _ ?_
 clear hK K
 refine done_ (by kernel_rfl) ?_
 refine letter ?_
 intro w20 hW
 have Bn_ : Blk w20 g0 29 [.int .u64 (uHeld (max (uAdd r0 (uMulDiv by_ 635 r0)) (uAdd r0 (uMulDiv (IntKind.u64.wrap ((uTarget r0 (max r5 r0) 0 (uAdd (uSub now now) took)) - r0)) by_ r0)))), .int .u64 r1, .int .u64 r2, .bool true, .int .u64 now, .int .u64 (max r5 r0), .int .u64 0, .int .u64 (uAdd r0 (uMulDiv by_ 635 r0))] := (by rw [hW]; (repeat (first | (with_reducible refine Blk.drewN ?_ _) | (with_reducible refine Blk.drew ?_))); refine Blk.set (l := [.int .u64 r0, .int .u64 r1, .int .u64 r2, .bool true, .int .u64 now, .int .u64 (max r5 r0), .int .u64 0, .int .u64 (uAdd r0 (uMulDiv by_ 635 r0))]) ?_ 0 _ rfl; (repeat (first | (with_reducible refine Blk.drewN ?_ _) | (with_reducible refine Blk.drew ?_))); exact Bg0)
 replace Bg0 := Bn_
 clear Bn_
 have Bn_ : Blk w20 g1 29 [.int .u64 0, .int .u64 0, .int .u64 0, .bool false, .int .u64 0, .int .u64 0, .int .u64 0, .int .u64 0] := (by rw [hW]; (repeat (first | (with_reducible refine Blk.drewN ?_ _) | (with_reducible refine Blk.drew ?_))); refine Blk.setFar ?_ Ng1_g0; (repeat (first | (with_reducible refine Blk.drewN ?_ _) | (with_reducible refine Blk.drew ?_))); exact Bg1)
 replace Bg1 := Bn_
 clear Bn_
 have HS_ : Since w w20 := (by rw [hW]; repeat (first | (with_reducible exact HS) | (with_reducible refine Since.drewN ?_ _) | (with_reducible refine Since.drew ?_) | (with_reducible refine Since.set ?_ GEg0)))
 replace HS := HS_
 clear HS_ hW
 clear kg0_0 zg0_0 kg0_7
 go_wp2_with (first | (refine seg_load rfl (N := 97) rfl 29 (.tmp 6) rfl g0 0 [.int .u64 (uHeld (max (uAdd r0 (uMulDiv by_ 635 r0)) (uAdd r0 (uMulDiv (IntKind.u64.wrap ((uTarget r0 (max r5 r0) 0 (uAdd (uSub now now) took)) - r0)) by_ r0)))), .int .u64 r1, .int .u64 r2, .bool true, .int .u64 now, .int .u64 (max r5 r0), .int .u64 0, .int .u64 (uAdd r0 (uMulDiv by_ 635 r0))] rfl Bg0 rfl Try.underlying29 rfl (by kernel_rfl) ?_) | (refine seg_store rfl rfl 29 (.tmp 12) (.tmp 97) rfl g1 0 [.int .u64 (uHeld (max (uAdd r0 (uMulDiv by_ 635 r0)) (uAdd r0 (uMulDiv (IntKind.u64.wrap ((uTarget r0 (max r5 r0) 0 (uAdd (uSub now now) took)) - r0)) by_ r0)))), .int .u64 r1, .int .u64 r2, .bool true, .int .u64 now, .int .u64 (max r5 r0), .int .u64 0, .int .u64 (uAdd r0 (uMulDiv by_ 635 r0))] [.int .u64 (uHeld (max (uAdd r0 (uMulDiv by_ 635 r0)) (uAdd r0 (uMulDiv (IntKind.u64.wrap ((uTarget r0 (max r5 r0) 0 (uAdd (uSub now now) took)) - r0)) by_ r0)))), .int .u64 r1, .int .u64 r2, .bool true, .int .u64 now, .int .u64 (max r5 r0), .int .u64 0, .int .u64 (uAdd r0 (uMulDiv by_ 635 r0))] (.agg #[.int .u64 (uHeld (max (uAdd r0 (uMulDiv by_ 635 r0)) (uAdd r0 (uMulDiv (IntKind.u64.wrap ((uTarget r0 (max r5 r0) 0 (uAdd (uSub now now) took)) - r0)) by_ r0)))), .int .u64 r1, .int .u64 r2, .bool true, .int .u64 now, .int .u64 (max r5 r0), .int .u64 0, .int .u64 (uAdd r0 (uMulDiv by_ 635 r0))]) rfl rfl rfl Bg1 (by kernel_rfl) (nle rfl) rfl rfl ?_; intro w21 hn hw; replace Bg0 := Bg0.grown hw Ng1_g0.symm; replace HS := HS.grown hw GEg1; replace Bg1 := hn; clear hw; clear hn))
 all_goals exact bodyPost_ret (results_cell1 rfl _ _ g1 29 [.int .u64 (uHeld (max (uAdd r0 (uMulDiv by_ 635 r0)) (uAdd r0 (uMulDiv (IntKind.u64.wrap ((uTarget r0 (max r5 r0) 0 (uAdd (uSub now now) took)) - r0)) by_ r0)))), .int .u64 r1, .int .u64 r2, .bool true, .int .u64 now, .int .u64 (max r5 r0), .int .u64 0, .int .u64 (uAdd r0 (uMulDiv by_ 635 r0))] _ rfl Bg1 Try.underlying29 rfl (by kernel_rfl)) rfl ⟨rfl, HS.out⟩
def uCA_0 (r0 r1 r2 r4 r5 r6 r7 by_ at_ now took : Int) (b3 lim : Bool) : Int := (if lim = true then r0 else (if b3 = true then (if at_ < r2 then r0 else (if r0 < r1 then (uHeld (uAdd r0 by_)) else (uHeld (max (uAdd r7 (uMulDiv by_ 635 r0)) (uAdd r0 (uMulDiv (IntKind.u64.wrap ((uTarget r0 r5 r6 (uAdd (uSub now r4) took)) - r0)) by_ r0)))))) else (if at_ < r2 then r0 else (if r0 < r1 then (uHeld (uAdd r0 by_)) else (if r0 < r5 then (uHeld (max (uAdd r0 (uMulDiv by_ 635 r0)) (uAdd r0 (uMulDiv (IntKind.u64.wrap ((uTarget r0 (max r5 r0) (uCbrt (uMulDiv (IntKind.u64.wrap (r5 - r0)) 1000000000 480)) (uAdd (uSub now now) took)) - r0)) by_ r0)))) else (uHeld (max (uAdd r0 (uMulDiv by_ 635 r0)) (uAdd r0 (uMulDiv (IntKind.u64.wrap ((uTarget r0 (max r5 r0) 0 (uAdd (uSub now now) took)) - r0)) by_ r0)))))))))
theorem uCA_0_w {r0 r1 r2 r4 r5 r6 r7 by_ at_ now took : Int} {b3 lim : Bool} (Wr0 : W64 r0) (Wr1 : W64 r1) (Wr2 : W64 r2) (Wr4 : W64 r4) (Wr5 : W64 r5) (Wr6 : W64 r6) (Wr7 : W64 r7) (Wby_ : W64 by_) (Wnow : W64 now) (Wtook : W64 took) : W64 (uCA_0 r0 r1 r2 r4 r5 r6 r7 by_ at_ now took b3 lim) := by
 unfold uCA_0
 repeat' split
 all_goals (first | exact Wr0 | exact (uHeld_w _))
def uCA_3 (r0 r1 r2 r4 r5 r6 r7 by_ at_ now took : Int) (b3 lim : Bool) : Bool := (if lim = true then b3 else (if b3 = true then (if at_ < r2 then b3 else (if r0 < r1 then b3 else true)) else (if at_ < r2 then b3 else (if r0 < r1 then b3 else (if r0 < r5 then true else true)))))
def uCA_4 (r0 r1 r2 r4 r5 r6 r7 by_ at_ now took : Int) (b3 lim : Bool) : Int := (if lim = true then r4 else (if b3 = true then (if at_ < r2 then r4 else (if r0 < r1 then r4 else r4)) else (if at_ < r2 then r4 else (if r0 < r1 then r4 else (if r0 < r5 then now else now)))))
theorem uCA_4_w {r0 r1 r2 r4 r5 r6 r7 by_ at_ now took : Int} {b3 lim : Bool} (Wr0 : W64 r0) (Wr1 : W64 r1) (Wr2 : W64 r2) (Wr4 : W64 r4) (Wr5 : W64 r5) (Wr6 : W64 r6) (Wr7 : W64 r7) (Wby_ : W64 by_) (Wnow : W64 now) (Wtook : W64 took) : W64 (uCA_4 r0 r1 r2 r4 r5 r6 r7 by_ at_ now took b3 lim) := by
 unfold uCA_4
 repeat' split
 all_goals (first | exact Wr4 | exact Wnow)
def uCA_5 (r0 r1 r2 r4 r5 r6 r7 by_ at_ now took : Int) (b3 lim : Bool) : Int := (if lim = true then r5 else (if b3 = true then (if at_ < r2 then r5 else (if r0 < r1 then r5 else r5)) else (if at_ < r2 then r5 else (if r0 < r1 then r5 else (if r0 < r5 then (max r5 r0) else (max r5 r0))))))
theorem uCA_5_w {r0 r1 r2 r4 r5 r6 r7 by_ at_ now took : Int} {b3 lim : Bool} (Wr0 : W64 r0) (Wr1 : W64 r1) (Wr2 : W64 r2) (Wr4 : W64 r4) (Wr5 : W64 r5) (Wr6 : W64 r6) (Wr7 : W64 r7) (Wby_ : W64 by_) (Wnow : W64 now) (Wtook : W64 took) : W64 (uCA_5 r0 r1 r2 r4 r5 r6 r7 by_ at_ now took b3 lim) := by
 unfold uCA_5
 repeat' split
 all_goals (first | exact Wr5 | exact (max_w Wr5 Wr0))
def uCA_6 (r0 r1 r2 r4 r5 r6 r7 by_ at_ now took : Int) (b3 lim : Bool) : Int := (if lim = true then r6 else (if b3 = true then (if at_ < r2 then r6 else (if r0 < r1 then r6 else r6)) else (if at_ < r2 then r6 else (if r0 < r1 then r6 else (if r0 < r5 then (uCbrt (uMulDiv (IntKind.u64.wrap (r5 - r0)) 1000000000 480)) else 0)))))
theorem uCA_6_w {r0 r1 r2 r4 r5 r6 r7 by_ at_ now took : Int} {b3 lim : Bool} (Wr0 : W64 r0) (Wr1 : W64 r1) (Wr2 : W64 r2) (Wr4 : W64 r4) (Wr5 : W64 r5) (Wr6 : W64 r6) (Wr7 : W64 r7) (Wby_ : W64 by_) (Wnow : W64 now) (Wtook : W64 took) : W64 (uCA_6 r0 r1 r2 r4 r5 r6 r7 by_ at_ now took b3 lim) := by
 unfold uCA_6
 repeat' split
 all_goals (first | exact Wr6 | exact (uCbrt_w (uMulDiv_w (w64_wrap _) (by decide) (by decide))) | exact (by decide))
def uCA_7 (r0 r1 r2 r4 r5 r6 r7 by_ at_ now took : Int) (b3 lim : Bool) : Int := (if lim = true then r7 else (if b3 = true then (if at_ < r2 then r7 else (if r0 < r1 then r7 else (uAdd r7 (uMulDiv by_ 635 r0)))) else (if at_ < r2 then r7 else (if r0 < r1 then r7 else (if r0 < r5 then (uAdd r0 (uMulDiv by_ 635 r0)) else (uAdd r0 (uMulDiv by_ 635 r0)))))))
theorem uCA_7_w {r0 r1 r2 r4 r5 r6 r7 by_ at_ now took : Int} {b3 lim : Bool} (Wr0 : W64 r0) (Wr1 : W64 r1) (Wr2 : W64 r2) (Wr4 : W64 r4) (Wr5 : W64 r5) (Wr6 : W64 r6) (Wr7 : W64 r7) (Wby_ : W64 by_) (Wnow : W64 now) (Wtook : W64 took) : W64 (uCA_7 r0 r1 r2 r4 r5 r6 r7 by_ at_ now took b3 lim) := by
 unfold uCA_7
 repeat' split
 all_goals (first | exact Wr7 | exact (uAdd_w Wr7 (uMulDiv_w Wby_ (by decide) Wr0)) | exact (uAdd_w Wr0 (uMulDiv_w Wby_ (by decide) Wr0)))
theorem uCA_all (r0 r1 r2 r4 r5 r6 r7 by_ at_ now took : Int) (b3 lim : Bool) (Wr0 : W64 r0) (Wr1 : W64 r1) (Wr2 : W64 r2) (Wr4 : W64 r4) (Wr5 : W64 r5) (Wr6 : W64 r6) (Wr7 : W64 r7) (Wby_ : W64 by_) (Wnow : W64 now) (Wtook : W64 took) (w : World) :
  Calls Try.prog 12 #[.agg #[.int .u64 r0, .int .u64 r1, .int .u64 r2, .bool b3, .int .u64 r4, .int .u64 r5, .int .u64 r6, .int .u64 r7], .int .u64 by_, .int .u64 at_, .int .u64 now, .int .u64 took, .bool lim] w fun e w' => e = .returned (.agg #[.int .u64 (uCA_0 r0 r1 r2 r4 r5 r6 r7 by_ at_ now took b3 lim), .int .u64 r1, .int .u64 r2, .bool (uCA_3 r0 r1 r2 r4 r5 r6 r7 by_ at_ now took b3 lim), .int .u64 (uCA_4 r0 r1 r2 r4 r5 r6 r7 by_ at_ now took b3 lim), .int .u64 (uCA_5 r0 r1 r2 r4 r5 r6 r7 by_ at_ now took b3 lim), .int .u64 (uCA_6 r0 r1 r2 r4 r5 r6 r7 by_ at_ now took b3 lim), .int .u64 (uCA_7 r0 r1 r2 r4 r5 r6 r7 by_ at_ now took b3 lim)]) ∧ Below w.heap.size w w' := by
 cases lim with
 | false =>
  cases b3 with
  | false =>
   by_cases e1 : at_ < r2
   ·have f1 : (decide (at_ < r2)) = true := decide_eq_true e1
    refine (cubic_ack_1 r0 r1 r2 r4 r5 r6 r7 by_ at_ now took false w f1).mono ?_
    rintro e w' ⟨rfl, hb⟩
    refine ⟨?_, hb⟩
    simp only [uCA_0, uCA_3, uCA_4, uCA_5, uCA_6, uCA_7, e1, if_true, if_false, Bool.false_eq_true, reduceIte]
   ·have f1 : (decide (at_ < r2)) = false := decide_eq_false e1
    by_cases e2 : r0 < r1
    ·have f2 : (decide (r0 < r1)) = true := decide_eq_true e2
     refine (cubic_ack_2 r0 r1 r2 r4 r5 r6 r7 by_ at_ now took false Wr0 Wby_ w f1 f2).mono ?_
     rintro e w' ⟨rfl, hb⟩
     refine ⟨?_, hb⟩
     simp only [uCA_0, uCA_3, uCA_4, uCA_5, uCA_6, uCA_7, e1, e2, if_true, if_false, Bool.false_eq_true, reduceIte]
    ·have f2 : (decide (r0 < r1)) = false := decide_eq_false e2
     by_cases e3 : r0 < r5
     ·have f3 : (decide (r0 < r5)) = true := decide_eq_true e3
      refine (cubic_ack_4 r0 r1 r2 r4 r5 r6 r7 by_ at_ now took Wr0 Wr5 Wby_ Wnow Wtook w f1 f2 f3).mono ?_
      rintro e w' ⟨rfl, hb⟩
      refine ⟨?_, hb⟩
      simp only [uCA_0, uCA_3, uCA_4, uCA_5, uCA_6, uCA_7, e1, e2, e3, if_true, if_false, Bool.false_eq_true, reduceIte]
     ·have f3 : (decide (r0 < r5)) = false := decide_eq_false e3
      refine (cubic_ack_5 r0 r1 r2 r4 r5 r6 r7 by_ at_ now took Wr0 Wr5 Wby_ Wnow Wtook w f1 f2 f3).mono ?_
      rintro e w' ⟨rfl, hb⟩
      refine ⟨?_, hb⟩
      simp only [uCA_0, uCA_3, uCA_4, uCA_5, uCA_6, uCA_7, e1, e2, e3, if_true, if_false, Bool.false_eq_true, reduceIte]
  | true =>
   by_cases e4 : at_ < r2
   ·have f4 : (decide (at_ < r2)) = true := decide_eq_true e4
    refine (cubic_ack_1 r0 r1 r2 r4 r5 r6 r7 by_ at_ now took true w f4).mono ?_
    rintro e w' ⟨rfl, hb⟩
    refine ⟨?_, hb⟩
    simp only [uCA_0, uCA_3, uCA_4, uCA_5, uCA_6, uCA_7, e4, if_true, if_false, Bool.false_eq_true, reduceIte]
   ·have f4 : (decide (at_ < r2)) = false := decide_eq_false e4
    by_cases e5 : r0 < r1
    ·have f5 : (decide (r0 < r1)) = true := decide_eq_true e5
     refine (cubic_ack_2 r0 r1 r2 r4 r5 r6 r7 by_ at_ now took true Wr0 Wby_ w f4 f5).mono ?_
     rintro e w' ⟨rfl, hb⟩
     refine ⟨?_, hb⟩
     simp only [uCA_0, uCA_3, uCA_4, uCA_5, uCA_6, uCA_7, e4, e5, if_true, if_false, Bool.false_eq_true, reduceIte]
    ·have f5 : (decide (r0 < r1)) = false := decide_eq_false e5
     refine (cubic_ack_3 r0 r1 r2 r4 r5 r6 r7 by_ at_ now took Wr0 Wr4 Wr5 Wr6 Wr7 Wby_ Wnow Wtook w f4 f5).mono ?_
     rintro e w' ⟨rfl, hb⟩
     refine ⟨?_, hb⟩
     simp only [uCA_0, uCA_3, uCA_4, uCA_5, uCA_6, uCA_7, e4, e5, if_true, if_false, Bool.false_eq_true, reduceIte]
 | true =>
  refine (cubic_ack_0 r0 r1 r2 r4 r5 r6 r7 by_ at_ now took b3 w ).mono ?_
  rintro e w' ⟨rfl, hb⟩
  refine ⟨?_, hb⟩
  simp only [uCA_0, uCA_3, uCA_4, uCA_5, uCA_6, uCA_7, if_true, if_false, Bool.false_eq_true, reduceIte]
theorem uR0_in {c0 c1 c2 c3 by_ at_ : Int} {lim : Bool} (h : 2400 ≤ c0 ∧ c0 ≤ 16777216) : 2400 ≤ uR0 c0 c1 c2 c3 by_ at_ lim ∧ uR0 c0 c1 c2 c3 by_ at_ lim ≤ 16777216 := by
 unfold uR0 uRenoAck
 split
 ·exact h
 ·split <;> exact uHeld_in _
theorem uCA_0_in {r0 r1 r2 r4 r5 r6 r7 by_ at_ now took : Int} {b3 lim : Bool} (h : 2400 ≤ r0 ∧ r0 ≤ 16777216) : 2400 ≤ uCA_0 r0 r1 r2 r4 r5 r6 r7 by_ at_ now took b3 lim ∧ uCA_0 r0 r1 r2 r4 r5 r6 r7 by_ at_ now took b3 lim ≤ 16777216 := by
 unfold uCA_0
 repeat' split
 all_goals (first | exact h | exact uHeld_in _)
theorem held_le {x c : Int} (h : x ≤ c) (hb : 2400 ≤ c ∧ c ≤ 16777216) : uHeld x ≤ c := by unfold uHeld; split <;> (try split) <;> omega
theorem half_le {c : Int} (hb : 2400 ≤ c ∧ c ≤ 16777216) : uHeld (c / 2) ≤ c := held_le (by omega) hb
theorem cub_le {c : Int} (hb : 2400 ≤ c ∧ c ≤ 16777216) : uHeld (uMulDiv c 7 10) ≤ c := held_le (by unfold uMulDiv; split <;> (try split) <;> omega) hb
theorem sub_le {c x : Int} (hx : W64 x) (hb : 2400 ≤ c ∧ c ≤ 16777216) : uHeld (uSub c x) ≤ c := held_le (by unfold uSub; split <;> omega) hb
theorem undo_ge {c o : Int} (hb : 2400 ≤ c ∧ c ≤ 16777216) : c ≤ uHeld (max c o) := by unfold uHeld; split <;> (try split) <;> omega
@[reducible] def G1 (a1 a2 a3 a4 a5 a6 a7 a8 a9 a10 a11 a39 a40 : Int) : Prop := (2400 ≤ a1 ∧ a1 ≤ 16777216) ∧ (a5 = 0 ∨ a5 = 1 ∨ a5 = 2) ∧ W64 a1 ∧ W64 a2 ∧ W64 a3 ∧ W64 a4 ∧ W64 a6 ∧ W64 a7 ∧ W64 a8 ∧ W64 a9 ∧ W64 a10 ∧ W64 a11 ∧ W64 a39 ∧ W64 a40
@[reducible] def S1 (R : Int → Int → Prop) (w : World) (e : Ending) (w' : World) : Prop := ∃ (a1 a2 a3 a4 a5 a6 a7 a8 a9 a10 a11 a39 a40 : Int), e = .returned (.agg (K1 a1 a2 a3 a4 a5 a6 a7 a8 a9 a10 a11 a39 a40).toArray) ∧ G1 a1 a2 a3 a4 a5 a6 a7 a8 a9 a10 a11 a39 a40 ∧ R a1 a39 ∧ Below w.heap.size w w'
@[reducible] def G2 (a5 a6 a7 a8 a9 a10 a11 a12 a13 a14 a16 a17 a18 a19 a39 a40 : Int) : Prop := (2400 ≤ a12 ∧ a12 ≤ 16777216) ∧ (a5 = 0 ∨ a5 = 1 ∨ a5 = 2) ∧ W64 a6 ∧ W64 a7 ∧ W64 a8 ∧ W64 a9 ∧ W64 a10 ∧ W64 a11 ∧ W64 a12 ∧ W64 a13 ∧ W64 a14 ∧ W64 a16 ∧ W64 a17 ∧ W64 a18 ∧ W64 a19 ∧ W64 a39 ∧ W64 a40
@[reducible] def S2 (R : Int → Int → Prop) (w : World) (e : Ending) (w' : World) : Prop := ∃ (a5 a6 a7 a8 a9 a10 a11 a12 a13 a14 a16 a17 a18 a19 a39 a40 : Int) (a15 : Bool), e = .returned (.agg (K2 a5 a6 a7 a8 a9 a10 a11 a12 a13 a14 a15 a16 a17 a18 a19 a39 a40).toArray) ∧ G2 a5 a6 a7 a8 a9 a10 a11 a12 a13 a14 a16 a17 a18 a19 a39 a40 ∧ R a12 a39 ∧ Below w.heap.size w w'
@[reducible] def G4 (a5 a6 a7 a8 a9 a10 a11 a30 a31 a32 a33 a34 a35 a36 a37 a39 a40 : Int) : Prop := (2400 ≤ a30 ∧ a30 ≤ 16777216) ∧ (a5 = 0 ∨ a5 = 1 ∨ a5 = 2) ∧ W64 a6 ∧ W64 a7 ∧ W64 a8 ∧ W64 a9 ∧ W64 a10 ∧ W64 a11 ∧ W64 a30 ∧ W64 a31 ∧ W64 a32 ∧ W64 a33 ∧ W64 a34 ∧ W64 a35 ∧ W64 a36 ∧ W64 a37 ∧ W64 a39 ∧ W64 a40
@[reducible] def S4 (R : Int → Int → Prop) (w : World) (e : Ending) (w' : World) : Prop := ∃ (a5 a6 a7 a8 a9 a10 a11 a30 a31 a32 a33 a34 a35 a36 a37 a39 a40 : Int) (a38 : Bool), e = .returned (.agg (K4 a5 a6 a7 a8 a9 a10 a11 a30 a31 a32 a33 a34 a35 a36 a37 a38 a39 a40).toArray) ∧ G4 a5 a6 a7 a8 a9 a10 a11 a30 a31 a32 a33 a34 a35 a36 a37 a39 a40 ∧ R a30 a39 ∧ Below w.heap.size w w'
theorem prague_ack_0 (r0 r1 r2 r3 r4 r5 r6 r7 g_0 g_1 g_2 g_3 g_4 g_5 g_6 g_7 : Int) (b8 g_8 g_9 : Bool) (Wr0 : W64 r0) (Wr3 : W64 r3) (Wr4 : W64 r4) (Wr5 : W64 r5) (Wr6 : W64 r6) (Wg_1 : W64 g_1) (w : World) (h0 : (decide (r7 ≤ g_3)) = true) (h1 : (decide (0 < uAdd r5 g_1)) = true) :
  Calls Try.prog 13 #[.agg #[.int .u64 r0, .int .u64 r1, .int .u64 r2, .int .u64 r3, .int .u64 r4, .int .u64 r5, .int .u64 r6, .int .u64 r7, .bool b8], .agg #[.int .u64 g_0, .int .u64 g_1, .int .u64 g_2, .int .u64 g_3, .int .u64 g_4, .int .u64 g_5, .int .u64 g_6, .int .u64 g_7, .bool g_8, .bool g_9]] w fun e w' => e = .returned (.agg #[.int .u64 (uR0 r0 r1 r2 r3 g_1 g_2 g_8), .int .u64 r1, .int .u64 r2, .int .u64 (uR3 r0 r1 r2 r3 g_1 g_2 g_8), .int .u64 (uAdd (r4 - r4 / 16) ((uMulDiv (min r6 (uAdd r5 g_1)) 1048576 (uAdd r5 g_1)) / 16)), .int .u64 0, .int .u64 0, .int .u64 g_4, .bool false]) ∧ Below w.heap.size w w' := by
 have hu25 := Try.underlying25
 have hu34 := Try.underlying34
 have hu40 := Try.underlying40
 have q0 : IntKind.u64.wrap (Int.tdiv r4 16) = r4 / 16 := wdiv Wr4 16 (by decide)
 have q1 : IntKind.u64.wrap (Int.tdiv (uMulDiv (min r6 (uAdd r5 g_1)) 1048576 (uAdd r5 g_1)) 16) = (uMulDiv (min r6 (uAdd r5 g_1)) 1048576 (uAdd r5 g_1)) / 16 := wdiv (uMulDiv_w (min_w Wr6 (uAdd_w Wr5 Wg_1)) (by decide) (uAdd_w Wr5 Wg_1)) 16 (by decide)
 have HS := Since.refl w
 go_enter Try.func13, Try.ntmps13
 go_wp2_with (first | (refine seg_new rfl (N := 2) rfl [.int .u64 r0, .int .u64 r1, .int .u64 r2, .int .u64 r3, .int .u64 r4, .int .u64 r5, .int .u64 r6, .int .u64 r7, .bool b8] 34 ?hr ?_; (case hr => rfl); intro g0 hg w1 hn hl; have GEg0 := ge_new HS hg; clear hg; replace HS := HS.below hl; have Bg0 := hn; clear hl hn) | (refine seg_new rfl (N := 3) rfl [.int .u64 g_0, .int .u64 g_1, .int .u64 g_2, .int .u64 g_3, .int .u64 g_4, .int .u64 g_5, .int .u64 g_6, .int .u64 g_7, .bool g_8, .bool g_9] 40 ?hr ?_; (case hr => rfl); intro g1 hg w2 hn hl; have Ng1_g0 := ne_new Bg0 hg; have GEg1 := ge_new HS hg; clear hg; replace Bg0 := Bg0.below hl; replace HS := HS.below hl; have Bg1 := hn; clear hl hn) | (refine seg_new rfl (N := 4) rfl [.int .u64 0, .int .u64 0, .int .u64 0, .int .u64 0, .int .u64 0, .int .u64 0, .int .u64 0, .int .u64 0, .bool false] 34 ?hr ?_; (case hr => rfl); intro g2 hg w3 hn hl; have Ng2_g0 := ne_new Bg0 hg; have Ng2_g1 := ne_new Bg1 hg; have GEg2 := ge_new HS hg; clear hg; replace Bg0 := Bg0.below hl; replace Bg1 := Bg1.below hl; replace HS := HS.below hl; have Bg2 := hn; clear hl hn; have kg0_5 := Bg0.at 5 rfl; have kg1_1 := Bg1.at 1 rfl) | ((go_at_call 25); (with_reducible refine (fix_Add.C r5 g_1 Wr5 Wg_1 _).mono ?_); rintro e w4 ⟨rfl, hd⟩; have hl := hd.below; clear hd; replace Bg0 := Bg0.below hl; replace Bg1 := Bg1.below hl; replace Bg2 := Bg2.below hl; replace HS := HS.below hl; clear hl; clear kg0_5 kg1_1) | (refine seg_store rfl rfl 23 (.tmp 11) (.tmp 10) rfl g0 5 [.int .u64 (uAdd r5 g_1)] [.int .u64 r0, .int .u64 r1, .int .u64 r2, .int .u64 r3, .int .u64 r4, .int .u64 (uAdd r5 g_1), .int .u64 r6, .int .u64 r7, .bool b8] (.int .u64 (uAdd r5 g_1)) rfl rfl rfl Bg0 (by kernel_rfl) (nle rfl) rfl rfl ?_; intro w5 hn hw; replace Bg1 := Bg1.grown hw Ng1_g0; replace Bg2 := Bg2.grown hw Ng2_g0; replace HS := HS.grown hw GEg0; replace Bg0 := hn; clear hw; have kg0_5 := Bg0.at 5 rfl; have kg0_6 := Bg0.at 6 rfl; have kg0_7 := Bg0.at 7 rfl; have kg1_3 := Bg1.at 3 rfl; clear hn) | ((go_at_call 20); (with_reducible refine (fix_MulDivT.C (min r6 (uAdd r5 g_1)) 1048576 (uAdd r5 g_1) (min_w Wr6 (uAdd_w Wr5 Wg_1)) (by decide) (uAdd_w Wr5 Wg_1) _).mono ?_); rintro e w6 ⟨rfl, hd⟩; have hl := hd.below; clear hd; replace Bg0 := Bg0.below hl; replace Bg1 := Bg1.below hl; replace Bg2 := Bg2.below hl; replace HS := HS.below hl; clear hl; clear kg0_5 kg0_6 kg0_7 kg1_3; have kg0_4 := Bg0.at 4 rfl) | ((go_at_call 25); (with_reducible refine (fix_Add.C (r4 - r4 / 16) ((uMulDiv (min r6 (uAdd r5 g_1)) 1048576 (uAdd r5 g_1)) / 16) (subdiv_w Wr4 16 (by decide)) (div_w (uMulDiv_w (min_w Wr6 (uAdd_w Wr5 Wg_1)) (by decide) (uAdd_w Wr5 Wg_1)) 16 (by decide)) _).mono ?_); rintro e w7 ⟨rfl, hd⟩; have hl := hd.below; clear hd; replace Bg0 := Bg0.below hl; replace Bg1 := Bg1.below hl; replace Bg2 := Bg2.below hl; replace HS := HS.below hl; clear hl; clear kg0_4) | (refine seg_store rfl rfl 23 (.tmp 37) (.tmp 36) rfl g0 4 [.int .u64 (uAdd (r4 - r4 / 16) ((uMulDiv (min r6 (uAdd r5 g_1)) 1048576 (uAdd r5 g_1)) / 16))] [.int .u64 r0, .int .u64 r1, .int .u64 r2, .int .u64 r3, .int .u64 (uAdd (r4 - r4 / 16) ((uMulDiv (min r6 (uAdd r5 g_1)) 1048576 (uAdd r5 g_1)) / 16)), .int .u64 (uAdd r5 g_1), .int .u64 r6, .int .u64 r7, .bool b8] (.int .u64 (uAdd (r4 - r4 / 16) ((uMulDiv (min r6 (uAdd r5 g_1)) 1048576 (uAdd r5 g_1)) / 16))) rfl rfl rfl Bg0 (by kernel_rfl) (nle rfl) rfl rfl ?_; intro w8 hn hw; replace Bg1 := Bg1.grown hw Ng1_g0; replace Bg2 := Bg2.grown hw Ng2_g0; replace HS := HS.grown hw GEg0; replace Bg0 := hn; clear hw; have kg0_5 := Bg0.at 5 rfl; have zg0_5 := Bg0.frozen 5; have kg0_6 := Bg0.at 6 rfl; have zg0_6 := Bg0.frozen 6; have kg0_7 := Bg0.at 7 rfl; have zg0_7 := Bg0.frozen 7; have kg0_8 := Bg0.at 8 rfl; have zg0_8 := Bg0.frozen 8; have kg1_4 := Bg1.at 4 rfl; clear hn))
 go_region_with (fail)
 all_goals (refine letter ?_; intro w9 hW)
 all_goals (have Bn_ : Blk w9 g0 34 [.int .u64 r0, .int .u64 r1, .int .u64 r2, .int .u64 r3, .int .u64 (uAdd (r4 - r4 / 16) ((uMulDiv (min r6 (uAdd r5 g_1)) 1048576 (uAdd r5 g_1)) / 16)), .int .u64 0, .int .u64 0, .int .u64 g_4, .bool false] := (by rw [hW]; (repeat (first | (with_reducible refine Blk.drewN ?_ _) | (with_reducible refine Blk.drew ?_))); refine Blk.set (l := [.int .u64 r0, .int .u64 r1, .int .u64 r2, .int .u64 r3, .int .u64 (uAdd (r4 - r4 / 16) ((uMulDiv (min r6 (uAdd r5 g_1)) 1048576 (uAdd r5 g_1)) / 16)), .int .u64 0, .int .u64 0, .int .u64 g_4, .bool b8]) ?_ 8 _ rfl; (repeat (first | (with_reducible refine Blk.drewN ?_ _) | (with_reducible refine Blk.drew ?_))); refine Blk.set (l := [.int .u64 r0, .int .u64 r1, .int .u64 r2, .int .u64 r3, .int .u64 (uAdd (r4 - r4 / 16) ((uMulDiv (min r6 (uAdd r5 g_1)) 1048576 (uAdd r5 g_1)) / 16)), .int .u64 0, .int .u64 0, .int .u64 r7, .bool b8]) ?_ 7 _ rfl; (repeat (first | (with_reducible refine Blk.drewN ?_ _) | (with_reducible refine Blk.drew ?_))); refine Blk.set (l := [.int .u64 r0, .int .u64 r1, .int .u64 r2, .int .u64 r3, .int .u64 (uAdd (r4 - r4 / 16) ((uMulDiv (min r6 (uAdd r5 g_1)) 1048576 (uAdd r5 g_1)) / 16)), .int .u64 0, .int .u64 r6, .int .u64 r7, .bool b8]) ?_ 6 _ rfl; (repeat (first | (with_reducible refine Blk.drewN ?_ _) | (with_reducible refine Blk.drew ?_))); refine Blk.set (l := [.int .u64 r0, .int .u64 r1, .int .u64 r2, .int .u64 r3, .int .u64 (uAdd (r4 - r4 / 16) ((uMulDiv (min r6 (uAdd r5 g_1)) 1048576 (uAdd r5 g_1)) / 16)), .int .u64 (uAdd r5 g_1), .int .u64 r6, .int .u64 r7, .bool b8]) ?_ 5 _ rfl; (repeat (first | (with_reducible refine Blk.drewN ?_ _) | (with_reducible refine Blk.drew ?_))); exact Bg0); replace Bg0 := Bn_; clear Bn_)
 all_goals (have Bn_ : Blk w9 g1 40 [.int .u64 g_0, .int .u64 g_1, .int .u64 g_2, .int .u64 g_3, .int .u64 g_4, .int .u64 g_5, .int .u64 g_6, .int .u64 g_7, .bool g_8, .bool g_9] := (by rw [hW]; (repeat (first | (with_reducible refine Blk.drewN ?_ _) | (with_reducible refine Blk.drew ?_))); refine Blk.setFar ?_ Ng1_g0; (repeat (first | (with_reducible refine Blk.drewN ?_ _) | (with_reducible refine Blk.drew ?_))); refine Blk.setFar ?_ Ng1_g0; (repeat (first | (with_reducible refine Blk.drewN ?_ _) | (with_reducible refine Blk.drew ?_))); refine Blk.setFar ?_ Ng1_g0; (repeat (first | (with_reducible refine Blk.drewN ?_ _) | (with_reducible refine Blk.drew ?_))); refine Blk.setFar ?_ Ng1_g0; (repeat (first | (with_reducible refine Blk.drewN ?_ _) | (with_reducible refine Blk.drew ?_))); exact Bg1); replace Bg1 := Bn_; clear Bn_)
 all_goals (have Bn_ : Blk w9 g2 34 [.int .u64 0, .int .u64 0, .int .u64 0, .int .u64 0, .int .u64 0, .int .u64 0, .int .u64 0, .int .u64 0, .bool false] := (by rw [hW]; (repeat (first | (with_reducible refine Blk.drewN ?_ _) | (with_reducible refine Blk.drew ?_))); refine Blk.setFar ?_ Ng2_g0; (repeat (first | (with_reducible refine Blk.drewN ?_ _) | (with_reducible refine Blk.drew ?_))); refine Blk.setFar ?_ Ng2_g0; (repeat (first | (with_reducible refine Blk.drewN ?_ _) | (with_reducible refine Blk.drew ?_))); refine Blk.setFar ?_ Ng2_g0; (repeat (first | (with_reducible refine Blk.drewN ?_ _) | (with_reducible refine Blk.drew ?_))); refine Blk.setFar ?_ Ng2_g0; (repeat (first | (with_reducible refine Blk.drewN ?_ _) | (with_reducible refine Blk.drew ?_))); exact Bg2); replace Bg2 := Bn_; clear Bn_)
 all_goals (have HS_ : Since w w9 := (by rw [hW]; repeat (first | (with_reducible exact HS) | (with_reducible refine Since.drewN ?_ _) | (with_reducible refine Since.drew ?_) | (with_reducible refine Since.set ?_ GEg0))); replace HS := HS_; clear HS_ hW)
 all_goals (clear kg0_5 zg0_5 kg0_6 zg0_6 kg0_7 zg0_7 kg0_8 zg0_8 kg1_4; have kg1_1 := Bg1.at 1 rfl; have kg1_2 := Bg1.at 2 rfl; have kg1_8 := Bg1.at 8 rfl)
 go_wp2_with (first | (refine seg_load rfl (N := 45) rfl 25 (.tmp 44) rfl g0 0 [.int .u64 r0, .int .u64 r1, .int .u64 r2, .int .u64 r3] rfl Bg0 rfl Try.underlying25 rfl (by kernel_rfl) ?_) | ((go_at_call 11); (with_reducible refine (renoC r0 r1 r2 r3 g_1 g_2 g_8 Wr0 Wr3 Wg_1 _).mono ?_); rintro e w10 ⟨rfl, hl⟩; replace Bg0 := Bg0.below hl; replace Bg1 := Bg1.below hl; replace Bg2 := Bg2.below hl; replace HS := HS.below hl; clear hl; clear kg1_1 kg1_2 kg1_8) | (refine seg_store rfl rfl 25 (.tmp 53) (.tmp 52) rfl g0 0 [.int .u64 (uR0 r0 r1 r2 r3 g_1 g_2 g_8), .int .u64 r1, .int .u64 r2, .int .u64 (uR3 r0 r1 r2 r3 g_1 g_2 g_8)] [.int .u64 (uR0 r0 r1 r2 r3 g_1 g_2 g_8), .int .u64 r1, .int .u64 r2, .int .u64 (uR3 r0 r1 r2 r3 g_1 g_2 g_8), .int .u64 (uAdd (r4 - r4 / 16) ((uMulDiv (min r6 (uAdd r5 g_1)) 1048576 (uAdd r5 g_1)) / 16)), .int .u64 0, .int .u64 0, .int .u64 g_4, .bool false] (.agg #[.int .u64 (uR0 r0 r1 r2 r3 g_1 g_2 g_8), .int .u64 r1, .int .u64 r2, .int .u64 (uR3 r0 r1 r2 r3 g_1 g_2 g_8)]) rfl rfl rfl Bg0 (by kernel_rfl) (nle rfl) rfl rfl ?_; intro w11 hn hw; replace Bg1 := Bg1.grown hw Ng1_g0; replace Bg2 := Bg2.grown hw Ng2_g0; replace HS := HS.grown hw GEg0; replace Bg0 := hn; clear hw; clear hn) | (refine seg_load rfl (N := 54) rfl 34 (.tmp 2) rfl g0 0 [.int .u64 (uR0 r0 r1 r2 r3 g_1 g_2 g_8), .int .u64 r1, .int .u64 r2, .int .u64 (uR3 r0 r1 r2 r3 g_1 g_2 g_8), .int .u64 (uAdd (r4 - r4 / 16) ((uMulDiv (min r6 (uAdd r5 g_1)) 1048576 (uAdd r5 g_1)) / 16)), .int .u64 0, .int .u64 0, .int .u64 g_4, .bool false] rfl Bg0 rfl Try.underlying34 rfl (by kernel_rfl) ?_) | (refine seg_store rfl rfl 34 (.tmp 4) (.tmp 54) rfl g2 0 [.int .u64 (uR0 r0 r1 r2 r3 g_1 g_2 g_8), .int .u64 r1, .int .u64 r2, .int .u64 (uR3 r0 r1 r2 r3 g_1 g_2 g_8), .int .u64 (uAdd (r4 - r4 / 16) ((uMulDiv (min r6 (uAdd r5 g_1)) 1048576 (uAdd r5 g_1)) / 16)), .int .u64 0, .int .u64 0, .int .u64 g_4, .bool false] [.int .u64 (uR0 r0 r1 r2 r3 g_1 g_2 g_8), .int .u64 r1, .int .u64 r2, .int .u64 (uR3 r0 r1 r2 r3 g_1 g_2 g_8), .int .u64 (uAdd (r4 - r4 / 16) ((uMulDiv (min r6 (uAdd r5 g_1)) 1048576 (uAdd r5 g_1)) / 16)), .int .u64 0, .int .u64 0, .int .u64 g_4, .bool false] (.agg #[.int .u64 (uR0 r0 r1 r2 r3 g_1 g_2 g_8), .int .u64 r1, .int .u64 r2, .int .u64 (uR3 r0 r1 r2 r3 g_1 g_2 g_8), .int .u64 (uAdd (r4 - r4 / 16) ((uMulDiv (min r6 (uAdd r5 g_1)) 1048576 (uAdd r5 g_1)) / 16)), .int .u64 0, .int .u64 0, .int .u64 g_4, .bool false]) rfl rfl rfl Bg2 (by kernel_rfl) (nle rfl) rfl rfl ?_; intro w12 hn hw; replace Bg0 := Bg0.grown hw Ng2_g0.symm; replace Bg1 := Bg1.grown hw Ng2_g1.symm; replace HS := HS.grown hw GEg2; replace Bg2 := hn; clear hw; clear hn))
 all_goals exact bodyPost_ret (results_cell1 rfl _ _ g2 34 [.int .u64 (uR0 r0 r1 r2 r3 g_1 g_2 g_8), .int .u64 r1, .int .u64 r2, .int .u64 (uR3 r0 r1 r2 r3 g_1 g_2 g_8), .int .u64 (uAdd (r4 - r4 / 16) ((uMulDiv (min r6 (uAdd r5 g_1)) 1048576 (uAdd r5 g_1)) / 16)), .int .u64 0, .int .u64 0, .int .u64 g_4, .bool false] _ rfl Bg2 Try.underlying34 rfl (by kernel_rfl)) rfl ⟨rfl, HS.out⟩
theorem prague_ack_1 (r0 r1 r2 r3 r4 r5 r6 r7 g_0 g_1 g_2 g_3 g_4 g_5 g_6 g_7 : Int) (b8 g_8 g_9 : Bool) (Wr0 : W64 r0) (Wr3 : W64 r3) (Wr4 : W64 r4) (Wr5 : W64 r5) (Wg_1 : W64 g_1) (w : World) (h0 : (decide (r7 ≤ g_3)) = true) (h1 : (decide (0 < uAdd r5 g_1)) = false) :
  Calls Try.prog 13 #[.agg #[.int .u64 r0, .int .u64 r1, .int .u64 r2, .int .u64 r3, .int .u64 r4, .int .u64 r5, .int .u64 r6, .int .u64 r7, .bool b8], .agg #[.int .u64 g_0, .int .u64 g_1, .int .u64 g_2, .int .u64 g_3, .int .u64 g_4, .int .u64 g_5, .int .u64 g_6, .int .u64 g_7, .bool g_8, .bool g_9]] w fun e w' => e = .returned (.agg #[.int .u64 (uR0 r0 r1 r2 r3 g_1 g_2 g_8), .int .u64 r1, .int .u64 r2, .int .u64 (uR3 r0 r1 r2 r3 g_1 g_2 g_8), .int .u64 (uAdd (r4 - r4 / 16) 0), .int .u64 0, .int .u64 0, .int .u64 g_4, .bool false]) ∧ Below w.heap.size w w' := by
 have hu25 := Try.underlying25
 have hu34 := Try.underlying34
 have hu40 := Try.underlying40
 have q0 : IntKind.u64.wrap (Int.tdiv r4 16) = r4 / 16 := wdiv Wr4 16 (by decide)
 have HS := Since.refl w
 go_enter Try.func13, Try.ntmps13
 go_wp2_with (first | (refine seg_new rfl (N := 2) rfl [.int .u64 r0, .int .u64 r1, .int .u64 r2, .int .u64 r3, .int .u64 r4, .int .u64 r5, .int .u64 r6, .int .u64 r7, .bool b8] 34 ?hr ?_; (case hr => rfl); intro g0 hg w1 hn hl; have GEg0 := ge_new HS hg; clear hg; replace HS := HS.below hl; have Bg0 := hn; clear hl hn) | (refine seg_new rfl (N := 3) rfl [.int .u64 g_0, .int .u64 g_1, .int .u64 g_2, .int .u64 g_3, .int .u64 g_4, .int .u64 g_5, .int .u64 g_6, .int .u64 g_7, .bool g_8, .bool g_9] 40 ?hr ?_; (case hr => rfl); intro g1 hg w2 hn hl; have Ng1_g0 := ne_new Bg0 hg; have GEg1 := ge_new HS hg; clear hg; replace Bg0 := Bg0.below hl; replace HS := HS.below hl; have Bg1 := hn; clear hl hn) | (refine seg_new rfl (N := 4) rfl [.int .u64 0, .int .u64 0, .int .u64 0, .int .u64 0, .int .u64 0, .int .u64 0, .int .u64 0, .int .u64 0, .bool false] 34 ?hr ?_; (case hr => rfl); intro g2 hg w3 hn hl; have Ng2_g0 := ne_new Bg0 hg; have Ng2_g1 := ne_new Bg1 hg; have GEg2 := ge_new HS hg; clear hg; replace Bg0 := Bg0.below hl; replace Bg1 := Bg1.below hl; replace HS := HS.below hl; have Bg2 := hn; clear hl hn; have kg0_5 := Bg0.at 5 rfl; have kg1_1 := Bg1.at 1 rfl) | ((go_at_call 25); (with_reducible refine (fix_Add.C r5 g_1 Wr5 Wg_1 _).mono ?_); rintro e w4 ⟨rfl, hd⟩; have hl := hd.below; clear hd; replace Bg0 := Bg0.below hl; replace Bg1 := Bg1.below hl; replace Bg2 := Bg2.below hl; replace HS := HS.below hl; clear hl; clear kg0_5 kg1_1) | (refine seg_store rfl rfl 23 (.tmp 11) (.tmp 10) rfl g0 5 [.int .u64 (uAdd r5 g_1)] [.int .u64 r0, .int .u64 r1, .int .u64 r2, .int .u64 r3, .int .u64 r4, .int .u64 (uAdd r5 g_1), .int .u64 r6, .int .u64 r7, .bool b8] (.int .u64 (uAdd r5 g_1)) rfl rfl rfl Bg0 (by kernel_rfl) (nle rfl) rfl rfl ?_; intro w5 hn hw; replace Bg1 := Bg1.grown hw Ng1_g0; replace Bg2 := Bg2.grown hw Ng2_g0; replace HS := HS.grown hw GEg0; replace Bg0 := hn; clear hw; have kg0_4 := Bg0.at 4 rfl; have kg0_5 := Bg0.at 5 rfl; have kg0_7 := Bg0.at 7 rfl; have kg1_3 := Bg1.at 3 rfl; clear hn) | ((go_at_call 25); (with_reducible refine (fix_Add.C (r4 - r4 / 16) 0 (subdiv_w Wr4 16 (by decide)) (by decide) _).mono ?_); rintro e w6 ⟨rfl, hd⟩; have hl := hd.below; clear hd; replace Bg0 := Bg0.below hl; replace Bg1 := Bg1.below hl; replace Bg2 := Bg2.below hl; replace HS := HS.below hl; clear hl; clear kg0_4 kg0_5 kg0_7 kg1_3) | (refine seg_store rfl rfl 23 (.tmp 37) (.tmp 36) rfl g0 4 [.int .u64 (uAdd (r4 - r4 / 16) 0)] [.int .u64 r0, .int .u64 r1, .int .u64 r2, .int .u64 r3, .int .u64 (uAdd (r4 - r4 / 16) 0), .int .u64 (uAdd r5 g_1), .int .u64 r6, .int .u64 r7, .bool b8] (.int .u64 (uAdd (r4 - r4 / 16) 0)) rfl rfl rfl Bg0 (by kernel_rfl) (nle rfl) rfl rfl ?_; intro w7 hn hw; replace Bg1 := Bg1.grown hw Ng1_g0; replace Bg2 := Bg2.grown hw Ng2_g0; replace HS := HS.grown hw GEg0; replace Bg0 := hn; clear hw; have kg0_5 := Bg0.at 5 rfl; have zg0_5 := Bg0.frozen 5; have kg0_6 := Bg0.at 6 rfl; have zg0_6 := Bg0.frozen 6; have kg0_7 := Bg0.at 7 rfl; have zg0_7 := Bg0.frozen 7; have kg0_8 := Bg0.at 8 rfl; have zg0_8 := Bg0.frozen 8; have kg1_4 := Bg1.at 4 rfl; clear hn))
 go_region_with (fail)
 all_goals (refine letter ?_; intro w8 hW)
 all_goals (have Bn_ : Blk w8 g0 34 [.int .u64 r0, .int .u64 r1, .int .u64 r2, .int .u64 r3, .int .u64 (uAdd (r4 - r4 / 16) 0), .int .u64 0, .int .u64 0, .int .u64 g_4, .bool false] := (by rw [hW]; (repeat (first | (with_reducible refine Blk.drewN ?_ _) | (with_reducible refine Blk.drew ?_))); refine Blk.set (l := [.int .u64 r0, .int .u64 r1, .int .u64 r2, .int .u64 r3, .int .u64 (uAdd (r4 - r4 / 16) 0), .int .u64 0, .int .u64 0, .int .u64 g_4, .bool b8]) ?_ 8 _ rfl; (repeat (first | (with_reducible refine Blk.drewN ?_ _) | (with_reducible refine Blk.drew ?_))); refine Blk.set (l := [.int .u64 r0, .int .u64 r1, .int .u64 r2, .int .u64 r3, .int .u64 (uAdd (r4 - r4 / 16) 0), .int .u64 0, .int .u64 0, .int .u64 r7, .bool b8]) ?_ 7 _ rfl; (repeat (first | (with_reducible refine Blk.drewN ?_ _) | (with_reducible refine Blk.drew ?_))); refine Blk.set (l := [.int .u64 r0, .int .u64 r1, .int .u64 r2, .int .u64 r3, .int .u64 (uAdd (r4 - r4 / 16) 0), .int .u64 0, .int .u64 r6, .int .u64 r7, .bool b8]) ?_ 6 _ rfl; (repeat (first | (with_reducible refine Blk.drewN ?_ _) | (with_reducible refine Blk.drew ?_))); refine Blk.set (l := [.int .u64 r0, .int .u64 r1, .int .u64 r2, .int .u64 r3, .int .u64 (uAdd (r4 - r4 / 16) 0), .int .u64 (uAdd r5 g_1), .int .u64 r6, .int .u64 r7, .bool b8]) ?_ 5 _ rfl; (repeat (first | (with_reducible refine Blk.drewN ?_ _) | (with_reducible refine Blk.drew ?_))); exact Bg0); replace Bg0 := Bn_; clear Bn_)
 all_goals (have Bn_ : Blk w8 g1 40 [.int .u64 g_0, .int .u64 g_1, .int .u64 g_2, .int .u64 g_3, .int .u64 g_4, .int .u64 g_5, .int .u64 g_6, .int .u64 g_7, .bool g_8, .bool g_9] := (by rw [hW]; (repeat (first | (with_reducible refine Blk.drewN ?_ _) | (with_reducible refine Blk.drew ?_))); refine Blk.setFar ?_ Ng1_g0; (repeat (first | (with_reducible refine Blk.drewN ?_ _) | (with_reducible refine Blk.drew ?_))); refine Blk.setFar ?_ Ng1_g0; (repeat (first | (with_reducible refine Blk.drewN ?_ _) | (with_reducible refine Blk.drew ?_))); refine Blk.setFar ?_ Ng1_g0; (repeat (first | (with_reducible refine Blk.drewN ?_ _) | (with_reducible refine Blk.drew ?_))); refine Blk.setFar ?_ Ng1_g0; (repeat (first | (with_reducible refine Blk.drewN ?_ _) | (with_reducible refine Blk.drew ?_))); exact Bg1); replace Bg1 := Bn_; clear Bn_)
 all_goals (have Bn_ : Blk w8 g2 34 [.int .u64 0, .int .u64 0, .int .u64 0, .int .u64 0, .int .u64 0, .int .u64 0, .int .u64 0, .int .u64 0, .bool false] := (by rw [hW]; (repeat (first | (with_reducible refine Blk.drewN ?_ _) | (with_reducible refine Blk.drew ?_))); refine Blk.setFar ?_ Ng2_g0; (repeat (first | (with_reducible refine Blk.drewN ?_ _) | (with_reducible refine Blk.drew ?_))); refine Blk.setFar ?_ Ng2_g0; (repeat (first | (with_reducible refine Blk.drewN ?_ _) | (with_reducible refine Blk.drew ?_))); refine Blk.setFar ?_ Ng2_g0; (repeat (first | (with_reducible refine Blk.drewN ?_ _) | (with_reducible refine Blk.drew ?_))); refine Blk.setFar ?_ Ng2_g0; (repeat (first | (with_reducible refine Blk.drewN ?_ _) | (with_reducible refine Blk.drew ?_))); exact Bg2); replace Bg2 := Bn_; clear Bn_)
 all_goals (have HS_ : Since w w8 := (by rw [hW]; repeat (first | (with_reducible exact HS) | (with_reducible refine Since.drewN ?_ _) | (with_reducible refine Since.drew ?_) | (with_reducible refine Since.set ?_ GEg0))); replace HS := HS_; clear HS_ hW)
 all_goals (clear kg0_5 zg0_5 kg0_6 zg0_6 kg0_7 zg0_7 kg0_8 zg0_8 kg1_4; have kg1_1 := Bg1.at 1 rfl; have kg1_2 := Bg1.at 2 rfl; have kg1_8 := Bg1.at 8 rfl)
 go_wp2_with (first | (refine seg_load rfl (N := 45) rfl 25 (.tmp 44) rfl g0 0 [.int .u64 r0, .int .u64 r1, .int .u64 r2, .int .u64 r3] rfl Bg0 rfl Try.underlying25 rfl (by kernel_rfl) ?_) | ((go_at_call 11); (with_reducible refine (renoC r0 r1 r2 r3 g_1 g_2 g_8 Wr0 Wr3 Wg_1 _).mono ?_); rintro e w9 ⟨rfl, hl⟩; replace Bg0 := Bg0.below hl; replace Bg1 := Bg1.below hl; replace Bg2 := Bg2.below hl; replace HS := HS.below hl; clear hl; clear kg1_1 kg1_2 kg1_8) | (refine seg_store rfl rfl 25 (.tmp 53) (.tmp 52) rfl g0 0 [.int .u64 (uR0 r0 r1 r2 r3 g_1 g_2 g_8), .int .u64 r1, .int .u64 r2, .int .u64 (uR3 r0 r1 r2 r3 g_1 g_2 g_8)] [.int .u64 (uR0 r0 r1 r2 r3 g_1 g_2 g_8), .int .u64 r1, .int .u64 r2, .int .u64 (uR3 r0 r1 r2 r3 g_1 g_2 g_8), .int .u64 (uAdd (r4 - r4 / 16) 0), .int .u64 0, .int .u64 0, .int .u64 g_4, .bool false] (.agg #[.int .u64 (uR0 r0 r1 r2 r3 g_1 g_2 g_8), .int .u64 r1, .int .u64 r2, .int .u64 (uR3 r0 r1 r2 r3 g_1 g_2 g_8)]) rfl rfl rfl Bg0 (by kernel_rfl) (nle rfl) rfl rfl ?_; intro w10 hn hw; replace Bg1 := Bg1.grown hw Ng1_g0; replace Bg2 := Bg2.grown hw Ng2_g0; replace HS := HS.grown hw GEg0; replace Bg0 := hn; clear hw; clear hn) | (refine seg_load rfl (N := 54) rfl 34 (.tmp 2) rfl g0 0 [.int .u64 (uR0 r0 r1 r2 r3 g_1 g_2 g_8), .int .u64 r1, .int .u64 r2, .int .u64 (uR3 r0 r1 r2 r3 g_1 g_2 g_8), .int .u64 (uAdd (r4 - r4 / 16) 0), .int .u64 0, .int .u64 0, .int .u64 g_4, .bool false] rfl Bg0 rfl Try.underlying34 rfl (by kernel_rfl) ?_) | (refine seg_store rfl rfl 34 (.tmp 4) (.tmp 54) rfl g2 0 [.int .u64 (uR0 r0 r1 r2 r3 g_1 g_2 g_8), .int .u64 r1, .int .u64 r2, .int .u64 (uR3 r0 r1 r2 r3 g_1 g_2 g_8), .int .u64 (uAdd (r4 - r4 / 16) 0), .int .u64 0, .int .u64 0, .int .u64 g_4, .bool false] [.int .u64 (uR0 r0 r1 r2 r3 g_1 g_2 g_8), .int .u64 r1, .int .u64 r2, .int .u64 (uR3 r0 r1 r2 r3 g_1 g_2 g_8), .int .u64 (uAdd (r4 - r4 / 16) 0), .int .u64 0, .int .u64 0, .int .u64 g_4, .bool false] (.agg #[.int .u64 (uR0 r0 r1 r2 r3 g_1 g_2 g_8), .int .u64 r1, .int .u64 r2, .int .u64 (uR3 r0 r1 r2 r3 g_1 g_2 g_8), .int .u64 (uAdd (r4 - r4 / 16) 0), .int .u64 0, .int .u64 0, .int .u64 g_4, .bool false]) rfl rfl rfl Bg2 (by kernel_rfl) (nle rfl) rfl rfl ?_; intro w11 hn hw; replace Bg0 := Bg0.grown hw Ng2_g0.symm; replace Bg1 := Bg1.grown hw Ng2_g1.symm; replace HS := HS.grown hw GEg2; replace Bg2 := hn; clear hw; clear hn))
 all_goals exact bodyPost_ret (results_cell1 rfl _ _ g2 34 [.int .u64 (uR0 r0 r1 r2 r3 g_1 g_2 g_8), .int .u64 r1, .int .u64 r2, .int .u64 (uR3 r0 r1 r2 r3 g_1 g_2 g_8), .int .u64 (uAdd (r4 - r4 / 16) 0), .int .u64 0, .int .u64 0, .int .u64 g_4, .bool false] _ rfl Bg2 Try.underlying34 rfl (by kernel_rfl)) rfl ⟨rfl, HS.out⟩
theorem prague_ack_2 (r0 r1 r2 r3 r4 r5 r6 r7 g_0 g_1 g_2 g_3 g_4 g_5 g_6 g_7 : Int) (b8 g_8 g_9 : Bool) (Wr0 : W64 r0) (Wr3 : W64 r3) (Wr5 : W64 r5) (Wg_1 : W64 g_1) (w : World) (h0 : (decide (r7 ≤ g_3)) = false) :
  Calls Try.prog 13 #[.agg #[.int .u64 r0, .int .u64 r1, .int .u64 r2, .int .u64 r3, .int .u64 r4, .int .u64 r5, .int .u64 r6, .int .u64 r7, .bool b8], .agg #[.int .u64 g_0, .int .u64 g_1, .int .u64 g_2, .int .u64 g_3, .int .u64 g_4, .int .u64 g_5, .int .u64 g_6, .int .u64 g_7, .bool g_8, .bool g_9]] w fun e w' => e = .returned (.agg #[.int .u64 (uR0 r0 r1 r2 r3 g_1 g_2 g_8), .int .u64 r1, .int .u64 r2, .int .u64 (uR3 r0 r1 r2 r3 g_1 g_2 g_8), .int .u64 r4, .int .u64 (uAdd r5 g_1), .int .u64 r6, .int .u64 r7, .bool b8]) ∧ Below w.heap.size w w' := by
 have hu25 := Try.underlying25
 have hu34 := Try.underlying34
 have hu40 := Try.underlying40
 have HS := Since.refl w
 go_enter Try.func13, Try.ntmps13
 go_wp2_with (first | (refine seg_new rfl (N := 2) rfl [.int .u64 r0, .int .u64 r1, .int .u64 r2, .int .u64 r3, .int .u64 r4, .int .u64 r5, .int .u64 r6, .int .u64 r7, .bool b8] 34 ?hr ?_; (case hr => rfl); intro g0 hg w1 hn hl; have GEg0 := ge_new HS hg; clear hg; replace HS := HS.below hl; have Bg0 := hn; clear hl hn) | (refine seg_new rfl (N := 3) rfl [.int .u64 g_0, .int .u64 g_1, .int .u64 g_2, .int .u64 g_3, .int .u64 g_4, .int .u64 g_5, .int .u64 g_6, .int .u64 g_7, .bool g_8, .bool g_9] 40 ?hr ?_; (case hr => rfl); intro g1 hg w2 hn hl; have Ng1_g0 := ne_new Bg0 hg; have GEg1 := ge_new HS hg; clear hg; replace Bg0 := Bg0.below hl; replace HS := HS.below hl; have Bg1 := hn; clear hl hn) | (refine seg_new rfl (N := 4) rfl [.int .u64 0, .int .u64 0, .int .u64 0, .int .u64 0, .int .u64 0, .int .u64 0, .int .u64 0, .int .u64 0, .bool false] 34 ?hr ?_; (case hr => rfl); intro g2 hg w3 hn hl; have Ng2_g0 := ne_new Bg0 hg; have Ng2_g1 := ne_new Bg1 hg; have GEg2 := ge_new HS hg; clear hg; replace Bg0 := Bg0.below hl; replace Bg1 := Bg1.below hl; replace HS := HS.below hl; have Bg2 := hn; clear hl hn; have kg0_5 := Bg0.at 5 rfl; have kg1_1 := Bg1.at 1 rfl) | ((go_at_call 25); (with_reducible refine (fix_Add.C r5 g_1 Wr5 Wg_1 _).mono ?_); rintro e w4 ⟨rfl, hd⟩; have hl := hd.below; clear hd; replace Bg0 := Bg0.below hl; replace Bg1 := Bg1.below hl; replace Bg2 := Bg2.below hl; replace HS := HS.below hl; clear hl; clear kg0_5 kg1_1) | (refine seg_store rfl rfl 23 (.tmp 11) (.tmp 10) rfl g0 5 [.int .u64 (uAdd r5 g_1)] [.int .u64 r0, .int .u64 r1, .int .u64 r2, .int .u64 r3, .int .u64 r4, .int .u64 (uAdd r5 g_1), .int .u64 r6, .int .u64 r7, .bool b8] (.int .u64 (uAdd r5 g_1)) rfl rfl rfl Bg0 (by kernel_rfl) (nle rfl) rfl rfl ?_; intro w5 hn hw; replace Bg1 := Bg1.grown hw Ng1_g0; replace Bg2 := Bg2.grown hw Ng2_g0; replace HS := HS.grown hw GEg0; replace Bg0 := hn; clear hw; have kg0_7 := Bg0.at 7 rfl; have kg1_1 := Bg1.at 1 rfl; have kg1_2 := Bg1.at 2 rfl; have kg1_3 := Bg1.at 3 rfl; have kg1_8 := Bg1.at 8 rfl; clear hn) | (refine seg_load rfl (N := 45) rfl 25 (.tmp 44) rfl g0 0 [.int .u64 r0, .int .u64 r1, .int .u64 r2, .int .u64 r3] rfl Bg0 rfl Try.underlying25 rfl (by kernel_rfl) ?_) | ((go_at_call 11); (with_reducible refine (renoC r0 r1 r2 r3 g_1 g_2 g_8 Wr0 Wr3 Wg_1 _).mono ?_); rintro e w6 ⟨rfl, hl⟩; replace Bg0 := Bg0.below hl; replace Bg1 := Bg1.below hl; replace Bg2 := Bg2.below hl; replace HS := HS.below hl; clear hl; clear kg0_7 kg1_1 kg1_2 kg1_3 kg1_8) | (refine seg_store rfl rfl 25 (.tmp 53) (.tmp 52) rfl g0 0 [.int .u64 (uR0 r0 r1 r2 r3 g_1 g_2 g_8), .int .u64 r1, .int .u64 r2, .int .u64 (uR3 r0 r1 r2 r3 g_1 g_2 g_8)] [.int .u64 (uR0 r0 r1 r2 r3 g_1 g_2 g_8), .int .u64 r1, .int .u64 r2, .int .u64 (uR3 r0 r1 r2 r3 g_1 g_2 g_8), .int .u64 r4, .int .u64 (uAdd r5 g_1), .int .u64 r6, .int .u64 r7, .bool b8] (.agg #[.int .u64 (uR0 r0 r1 r2 r3 g_1 g_2 g_8), .int .u64 r1, .int .u64 r2, .int .u64 (uR3 r0 r1 r2 r3 g_1 g_2 g_8)]) rfl rfl rfl Bg0 (by kernel_rfl) (nle rfl) rfl rfl ?_; intro w7 hn hw; replace Bg1 := Bg1.grown hw Ng1_g0; replace Bg2 := Bg2.grown hw Ng2_g0; replace HS := HS.grown hw GEg0; replace Bg0 := hn; clear hw; clear hn) | (refine seg_load rfl (N := 54) rfl 34 (.tmp 2) rfl g0 0 [.int .u64 (uR0 r0 r1 r2 r3 g_1 g_2 g_8), .int .u64 r1, .int .u64 r2, .int .u64 (uR3 r0 r1 r2 r3 g_1 g_2 g_8), .int .u64 r4, .int .u64 (uAdd r5 g_1), .int .u64 r6, .int .u64 r7, .bool b8] rfl Bg0 rfl Try.underlying34 rfl (by kernel_rfl) ?_) | (refine seg_store rfl rfl 34 (.tmp 4) (.tmp 54) rfl g2 0 [.int .u64 (uR0 r0 r1 r2 r3 g_1 g_2 g_8), .int .u64 r1, .int .u64 r2, .int .u64 (uR3 r0 r1 r2 r3 g_1 g_2 g_8), .int .u64 r4, .int .u64 (uAdd r5 g_1), .int .u64 r6, .int .u64 r7, .bool b8] [.int .u64 (uR0 r0 r1 r2 r3 g_1 g_2 g_8), .int .u64 r1, .int .u64 r2, .int .u64 (uR3 r0 r1 r2 r3 g_1 g_2 g_8), .int .u64 r4, .int .u64 (uAdd r5 g_1), .int .u64 r6, .int .u64 r7, .bool b8] (.agg #[.int .u64 (uR0 r0 r1 r2 r3 g_1 g_2 g_8), .int .u64 r1, .int .u64 r2, .int .u64 (uR3 r0 r1 r2 r3 g_1 g_2 g_8), .int .u64 r4, .int .u64 (uAdd r5 g_1), .int .u64 r6, .int .u64 r7, .bool b8]) rfl rfl rfl Bg2 (by kernel_rfl) (nle rfl) rfl rfl ?_; intro w8 hn hw; replace Bg0 := Bg0.grown hw Ng2_g0.symm; replace Bg1 := Bg1.grown hw Ng2_g1.symm; replace HS := HS.grown hw GEg2; replace Bg2 := hn; clear hw; clear hn))
 all_goals exact bodyPost_ret (results_cell1 rfl _ _ g2 34 [.int .u64 (uR0 r0 r1 r2 r3 g_1 g_2 g_8), .int .u64 r1, .int .u64 r2, .int .u64 (uR3 r0 r1 r2 r3 g_1 g_2 g_8), .int .u64 r4, .int .u64 (uAdd r5 g_1), .int .u64 r6, .int .u64 r7, .bool b8] _ rfl Bg2 Try.underlying34 rfl (by kernel_rfl)) rfl ⟨rfl, HS.out⟩
def uPA_4 (r0 r1 r2 r3 r4 r5 r6 r7 g_0 g_1 g_2 g_3 g_4 g_5 g_6 g_7 : Int) (b8 g_8 g_9 : Bool) : Int := (if r7 ≤ g_3 then (if 0 < uAdd r5 g_1 then (uAdd (r4 - r4 / 16) ((uMulDiv (min r6 (uAdd r5 g_1)) 1048576 (uAdd r5 g_1)) / 16)) else (uAdd (r4 - r4 / 16) 0)) else r4)
theorem uPA_4_w {r0 r1 r2 r3 r4 r5 r6 r7 g_0 g_1 g_2 g_3 g_4 g_5 g_6 g_7 : Int} {b8 g_8 g_9 : Bool} (Wr0 : W64 r0) (Wr1 : W64 r1) (Wr2 : W64 r2) (Wr3 : W64 r3) (Wr4 : W64 r4) (Wr5 : W64 r5) (Wr6 : W64 r6) (Wr7 : W64 r7) (Wg_1 : W64 g_1) (Wg_4 : W64 g_4) : W64 (uPA_4 r0 r1 r2 r3 r4 r5 r6 r7 g_0 g_1 g_2 g_3 g_4 g_5 g_6 g_7 b8 g_8 g_9) := by
 unfold uPA_4
 repeat' split
 all_goals (first | exact (uAdd_w (subdiv_w Wr4 16 (by decide)) (div_w (uMulDiv_w (min_w Wr6 (uAdd_w Wr5 Wg_1)) (by decide) (uAdd_w Wr5 Wg_1)) 16 (by decide))) | exact (uAdd_w (subdiv_w Wr4 16 (by decide)) (by decide)) | exact Wr4)
def uPA_5 (r0 r1 r2 r3 r4 r5 r6 r7 g_0 g_1 g_2 g_3 g_4 g_5 g_6 g_7 : Int) (b8 g_8 g_9 : Bool) : Int := (if r7 ≤ g_3 then (if 0 < uAdd r5 g_1 then 0 else 0) else (uAdd r5 g_1))
theorem uPA_5_w {r0 r1 r2 r3 r4 r5 r6 r7 g_0 g_1 g_2 g_3 g_4 g_5 g_6 g_7 : Int} {b8 g_8 g_9 : Bool} (Wr0 : W64 r0) (Wr1 : W64 r1) (Wr2 : W64 r2) (Wr3 : W64 r3) (Wr4 : W64 r4) (Wr5 : W64 r5) (Wr6 : W64 r6) (Wr7 : W64 r7) (Wg_1 : W64 g_1) (Wg_4 : W64 g_4) : W64 (uPA_5 r0 r1 r2 r3 r4 r5 r6 r7 g_0 g_1 g_2 g_3 g_4 g_5 g_6 g_7 b8 g_8 g_9) := by
 unfold uPA_5
 repeat' split
 all_goals (first | exact (by decide) | exact (uAdd_w Wr5 Wg_1))
def uPA_6 (r0 r1 r2 r3 r4 r5 r6 r7 g_0 g_1 g_2 g_3 g_4 g_5 g_6 g_7 : Int) (b8 g_8 g_9 : Bool) : Int := (if r7 ≤ g_3 then (if 0 < uAdd r5 g_1 then 0 else 0) else r6)
theorem uPA_6_w {r0 r1 r2 r3 r4 r5 r6 r7 g_0 g_1 g_2 g_3 g_4 g_5 g_6 g_7 : Int} {b8 g_8 g_9 : Bool} (Wr0 : W64 r0) (Wr1 : W64 r1) (Wr2 : W64 r2) (Wr3 : W64 r3) (Wr4 : W64 r4) (Wr5 : W64 r5) (Wr6 : W64 r6) (Wr7 : W64 r7) (Wg_1 : W64 g_1) (Wg_4 : W64 g_4) : W64 (uPA_6 r0 r1 r2 r3 r4 r5 r6 r7 g_0 g_1 g_2 g_3 g_4 g_5 g_6 g_7 b8 g_8 g_9) := by
 unfold uPA_6
 repeat' split
 all_goals (first | exact (by decide) | exact Wr6)
def uPA_7 (r0 r1 r2 r3 r4 r5 r6 r7 g_0 g_1 g_2 g_3 g_4 g_5 g_6 g_7 : Int) (b8 g_8 g_9 : Bool) : Int := (if r7 ≤ g_3 then (if 0 < uAdd r5 g_1 then g_4 else g_4) else r7)
theorem uPA_7_w {r0 r1 r2 r3 r4 r5 r6 r7 g_0 g_1 g_2 g_3 g_4 g_5 g_6 g_7 : Int} {b8 g_8 g_9 : Bool} (Wr0 : W64 r0) (Wr1 : W64 r1) (Wr2 : W64 r2) (Wr3 : W64 r3) (Wr4 : W64 r4) (Wr5 : W64 r5) (Wr6 : W64 r6) (Wr7 : W64 r7) (Wg_1 : W64 g_1) (Wg_4 : W64 g_4) : W64 (uPA_7 r0 r1 r2 r3 r4 r5 r6 r7 g_0 g_1 g_2 g_3 g_4 g_5 g_6 g_7 b8 g_8 g_9) := by
 unfold uPA_7
 repeat' split
 all_goals (first | exact Wg_4 | exact Wr7)
def uPA_8 (r0 r1 r2 r3 r4 r5 r6 r7 g_0 g_1 g_2 g_3 g_4 g_5 g_6 g_7 : Int) (b8 g_8 g_9 : Bool) : Bool := (if r7 ≤ g_3 then (if 0 < uAdd r5 g_1 then false else false) else b8)
theorem uPA_all (r0 r1 r2 r3 r4 r5 r6 r7 g_0 g_1 g_2 g_3 g_4 g_5 g_6 g_7 : Int) (b8 g_8 g_9 : Bool) (Wr0 : W64 r0) (Wr1 : W64 r1) (Wr2 : W64 r2) (Wr3 : W64 r3) (Wr4 : W64 r4) (Wr5 : W64 r5) (Wr6 : W64 r6) (Wr7 : W64 r7) (Wg_1 : W64 g_1) (Wg_4 : W64 g_4) (w : World) :
  Calls Try.prog 13 #[.agg #[.int .u64 r0, .int .u64 r1, .int .u64 r2, .int .u64 r3, .int .u64 r4, .int .u64 r5, .int .u64 r6, .int .u64 r7, .bool b8], .agg #[.int .u64 g_0, .int .u64 g_1, .int .u64 g_2, .int .u64 g_3, .int .u64 g_4, .int .u64 g_5, .int .u64 g_6, .int .u64 g_7, .bool g_8, .bool g_9]] w fun e w' => e = .returned (.agg #[.int .u64 (uR0 r0 r1 r2 r3 g_1 g_2 g_8), .int .u64 r1, .int .u64 r2, .int .u64 (uR3 r0 r1 r2 r3 g_1 g_2 g_8), .int .u64 (uPA_4 r0 r1 r2 r3 r4 r5 r6 r7 g_0 g_1 g_2 g_3 g_4 g_5 g_6 g_7 b8 g_8 g_9), .int .u64 (uPA_5 r0 r1 r2 r3 r4 r5 r6 r7 g_0 g_1 g_2 g_3 g_4 g_5 g_6 g_7 b8 g_8 g_9), .int .u64 (uPA_6 r0 r1 r2 r3 r4 r5 r6 r7 g_0 g_1 g_2 g_3 g_4 g_5 g_6 g_7 b8 g_8 g_9), .int .u64 (uPA_7 r0 r1 r2 r3 r4 r5 r6 r7 g_0 g_1 g_2 g_3 g_4 g_5 g_6 g_7 b8 g_8 g_9), .bool (uPA_8 r0 r1 r2 r3 r4 r5 r6 r7 g_0 g_1 g_2 g_3 g_4 g_5 g_6 g_7 b8 g_8 g_9)]) ∧ Below w.heap.size w w' := by
 by_cases e1 : r7 ≤ g_3
 ·have f1 : (decide (r7 ≤ g_3)) = true := decide_eq_true e1
  by_cases e2 : 0 < uAdd r5 g_1
  ·have f2 : (decide (0 < uAdd r5 g_1)) = true := decide_eq_true e2
   refine (prague_ack_0 r0 r1 r2 r3 r4 r5 r6 r7 g_0 g_1 g_2 g_3 g_4 g_5 g_6 g_7 b8 g_8 g_9 Wr0 Wr3 Wr4 Wr5 Wr6 Wg_1 w f1 f2).mono ?_
   rintro e w' ⟨rfl, hb⟩
   refine ⟨?_, hb⟩
   simp only [uPA_4, uPA_5, uPA_6, uPA_7, uPA_8, e1, e2, if_true, if_false, Bool.false_eq_true, reduceIte]
  ·have f2 : (decide (0 < uAdd r5 g_1)) = false := decide_eq_false e2
   refine (prague_ack_1 r0 r1 r2 r3 r4 r5 r6 r7 g_0 g_1 g_2 g_3 g_4 g_5 g_6 g_7 b8 g_8 g_9 Wr0 Wr3 Wr4 Wr5 Wg_1 w f1 f2).mono ?_
   rintro e w' ⟨rfl, hb⟩
   refine ⟨?_, hb⟩
   simp only [uPA_4, uPA_5, uPA_6, uPA_7, uPA_8, e1, e2, if_true, if_false, Bool.false_eq_true, reduceIte]
 ·have f1 : (decide (r7 ≤ g_3)) = false := decide_eq_false e1
  refine (prague_ack_2 r0 r1 r2 r3 r4 r5 r6 r7 g_0 g_1 g_2 g_3 g_4 g_5 g_6 g_7 b8 g_8 g_9 Wr0 Wr3 Wr5 Wg_1 w f1).mono ?_
  rintro e w' ⟨rfl, hb⟩
  refine ⟨?_, hb⟩
  simp only [uPA_4, uPA_5, uPA_6, uPA_7, uPA_8, e1, if_true, if_false, Bool.false_eq_true, reduceIte]
end Go.Proofs.Ytpgffmnbdggpnaa.PCv
end
