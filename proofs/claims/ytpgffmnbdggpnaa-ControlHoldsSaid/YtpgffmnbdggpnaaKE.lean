/- Several texts of this claim in one. -/
import Derived.Deep.DeepMust
import Derived.Test.YtpgffmnbdggpnaaKC
import Derived.Test.YtpgffmnbdggpnaaKW
import Derived.Test.YtpgffmnbdggpnaaKB
import Derived.Test.YtpgffmnbdggpnaaKA
section
namespace Go.Proofs.Ytpgffmnbdggpnaa.PCv
open Go.RowKit Go.Proofs.YtpgffmnbdggpnaaW.PrintWords Go.Proofs.YtpgffmnbdggpnaaW.PrintLast Go.Proofs.YtpgffmnbdggpnaaW.PrintMore
set_option linter.unusedVariables false
set_option linter.unusedSimpArgs false
set_option maxRecDepth 100000
set_option maxHeartbeats 8000000
theorem over0_0 (s1 s2 s3 s4 s5 s6 : Int) (g : Nat)  (w : World) (Bg : Blk w g 27 [.int .i64 0, .int .u64 s1, .int .u64 s2, .int .u64 s3, .int .u64 s4, .int .u64 s5, .int .u64 s6]) :
  Calls Try.prog 63 #[.pointer (some ⟨g, 0, none⟩)] w fun e w' => e = .returned (.bool false) ∧ Below w.heap.size w w' := by
 have hu27 := Try.underlying27
 have HS := Since.refl w
 have kg_0 := Bg.at 0 rfl
 go_enter Try.func63, Try.ntmps63
 go_wp2
 all_goals (go_ret; exact ⟨by first | rfl | (simp; done), HS.out⟩)
theorem over1_0 (s1 s2 s3 s4 s5 s6 : Int) (g : Nat)  (w : World) (Bg : Blk w g 27 [.int .i64 1, .int .u64 s1, .int .u64 s2, .int .u64 s3, .int .u64 s4, .int .u64 s5, .int .u64 s6]) :
  Calls Try.prog 63 #[.pointer (some ⟨g, 0, none⟩)] w fun e w' => e = .returned (.bool false) ∧ Below w.heap.size w w' := by
 have hu27 := Try.underlying27
 have HS := Since.refl w
 have kg_0 := Bg.at 0 rfl
 go_enter Try.func63, Try.ntmps63
 go_wp2
 all_goals (go_ret; exact ⟨by first | rfl | (simp; done), HS.out⟩)
theorem over2_0 (s1 s2 s3 s4 s5 s6 : Int) (g : Nat)  (w : World) (Bg : Blk w g 27 [.int .i64 2, .int .u64 s1, .int .u64 s2, .int .u64 s3, .int .u64 s4, .int .u64 s5, .int .u64 s6]) :
  Calls Try.prog 63 #[.pointer (some ⟨g, 0, none⟩)] w fun e w' => e = .returned (.bool true) ∧ Below w.heap.size w w' := by
 have hu27 := Try.underlying27
 have HS := Since.refl w
 have kg_0 := Bg.at 0 rfl
 go_enter Try.func63, Try.ntmps63
 go_wp2
 all_goals (go_ret; exact ⟨by first | rfl | (simp; done), HS.out⟩)
theorem sample2_0 (s1 s2 s3 s4 s5 s6 num next took : Int)  (w : World) :
  Calls Try.prog 49 #[.agg #[.int .i64 2, .int .u64 s1, .int .u64 s2, .int .u64 s3, .int .u64 s4, .int .u64 s5, .int .u64 s6], .int .u64 num, .int .u64 next, .int .u64 took] w fun e w' => e = .returned (.agg #[.int .i64 2, .int .u64 s1, .int .u64 s2, .int .u64 s3, .int .u64 s4, .int .u64 s5, .int .u64 s6]) ∧ Below w.heap.size w w' := by
 have hu27 := Try.underlying27
 have HS := Since.refl w
 go_enter Try.func49, Try.ntmps49
 go_wp2_with (first | (refine seg_new rfl (N := 4) rfl [.int .i64 2, .int .u64 s1, .int .u64 s2, .int .u64 s3, .int .u64 s4, .int .u64 s5, .int .u64 s6] 27 ?hr ?_; (case hr => rfl); intro g0 hg w1 hn hl; have GEg0 := ge_new HS hg; clear hg; replace HS := HS.below hl; have Bg0 := hn; clear hl hn) | (refine seg_new rfl (N := 8) rfl [.int .i64 0, .int .u64 0, .int .u64 0, .int .u64 0, .int .u64 0, .int .u64 0, .int .u64 0] 27 ?hr ?_; (case hr => rfl); intro g1 hg w2 hn hl; have Ng1_g0 := ne_new Bg0 hg; have GEg1 := ge_new HS hg; clear hg; replace Bg0 := Bg0.below hl; replace HS := HS.below hl; have Bg1 := hn; clear hl hn) | ((go_at_call 63); (with_reducible refine (over2_0 s1 s2 s3 s4 s5 s6 g0 _ Bg0).mono ?_); rintro e w3 ⟨rfl, hl⟩; replace Bg0 := Bg0.below hl; replace Bg1 := Bg1.below hl; replace HS := HS.below hl; clear hl) | ((go_at_call 63); (with_reducible refine (over2_0 s1 s2 s3 s4 s5 s6 g0 _ Bg0).mono ?_); rintro e w4 ⟨rfl, hl⟩; replace Bg0 := Bg0.below hl; replace Bg1 := Bg1.below hl; replace HS := HS.below hl; clear hl) | (refine seg_load rfl (N := 41) rfl 27 (.tmp 4) rfl g0 0 [.int .i64 2, .int .u64 s1, .int .u64 s2, .int .u64 s3, .int .u64 s4, .int .u64 s5, .int .u64 s6] rfl Bg0 rfl Try.underlying27 rfl (by kernel_rfl) ?_) | (refine seg_store rfl rfl 27 (.tmp 8) (.tmp 41) rfl g1 0 [.int .i64 2, .int .u64 s1, .int .u64 s2, .int .u64 s3, .int .u64 s4, .int .u64 s5, .int .u64 s6] [.int .i64 2, .int .u64 s1, .int .u64 s2, .int .u64 s3, .int .u64 s4, .int .u64 s5, .int .u64 s6] (.agg #[.int .i64 2, .int .u64 s1, .int .u64 s2, .int .u64 s3, .int .u64 s4, .int .u64 s5, .int .u64 s6]) rfl rfl rfl Bg1 (by kernel_rfl) (nle rfl) rfl rfl ?_; intro w5 hn hw; replace Bg0 := Bg0.grown hw Ng1_g0.symm; replace HS := HS.grown hw GEg1; replace Bg1 := hn; clear hw; clear hn))
 all_goals exact bodyPost_ret (results_cell1 rfl _ _ g1 27 [.int .i64 2, .int .u64 s1, .int .u64 s2, .int .u64 s3, .int .u64 s4, .int .u64 s5, .int .u64 s6] _ rfl Bg1 Try.underlying27 rfl (by kernel_rfl)) rfl ⟨rfl, HS.out⟩
theorem sampleC0 (s1 : Int) (s2 : Int) (s3 : Int) (s4 : Int) (s5 : Int) (s6 : Int) (num : Int) (next : Int) (took : Int) (Ws1 : W64 s1) (Ws2 : W64 s2) (Ws3 : W64 s3) (Ws4 : W64 s4) (Ws5 : W64 s5) (Ws6 : W64 s6) (Wnum : W64 num) (Wnext : W64 next) (Wtook : W64 took) (w : World) :
  Calls Try.prog 49 #[.agg #[.int .i64 0, .int .u64 s1, .int .u64 s2, .int .u64 s3, .int .u64 s4, .int .u64 s5, .int .u64 s6], .int .u64 num, .int .u64 next, .int .u64 took] w fun e w' => ∃ (q0 q1 q2 q3 q4 q5 q6 : Int), e = .returned (.agg #[.int .i64 q0, .int .u64 q1, .int .u64 q2, .int .u64 q3, .int .u64 q4, .int .u64 q5, .int .u64 q6]) ∧ (q0 = 0 ∨ q0 = 1 ∨ q0 = 2) ∧ W64 q1 ∧ W64 q2 ∧ W64 q3 ∧ W64 q4 ∧ W64 q5 ∧ W64 q6 ∧ Below w.heap.size w w' := by
 have hu27 := Try.underlying27
 have HS := Since.refl w
 go_enter Try.func49, Try.ntmps49
 go_upto_if 20 with (first | (refine seg_new rfl (N := 4) rfl [.int .i64 0, .int .u64 s1, .int .u64 s2, .int .u64 s3, .int .u64 s4, .int .u64 s5, .int .u64 s6] 27 ?hr ?_; (case hr => rfl); intro g0 hg w1 hn hl; have GEg0 := ge_new HS hg; clear hg; replace HS := HS.below hl; have Bg0 := hn; clear hl hn) | (refine seg_new rfl (N := 8) rfl [.int .i64 0, .int .u64 0, .int .u64 0, .int .u64 0, .int .u64 0, .int .u64 0, .int .u64 0] 27 ?hr ?_; (case hr => rfl); intro g1 hg w2 hn hl; have Ng1_g0 := ne_new Bg0 hg; have GEg1 := ge_new HS hg; clear hg; replace Bg0 := Bg0.below hl; replace HS := HS.below hl; have Bg1 := hn; clear hl hn) | ((go_at_call 63); (with_reducible refine (over0_0 s1 s2 s3 s4 s5 s6 g0 _ Bg0).mono ?_); rintro e w3 ⟨rfl, hl⟩; replace Bg0 := Bg0.below hl; replace Bg1 := Bg1.below hl; replace HS := HS.below hl; clear hl; have kg0_1 := Bg0.at 1 rfl))
 (try simp only [Act.put, zA_, z0_, z1_])
 go_cut [] (fun wc => ∃ (t1 t2 t3 t4 t5 t6 : Int), W64 t1 ∧ W64 t2 ∧ W64 t3 ∧ W64 t4 ∧ W64 t5 ∧ W64 t6 ∧ Blk wc g0 27 [.int .i64 0, .int .u64 t1, .int .u64 t2, .int .u64 t3, .int .u64 t4, .int .u64 t5, .int .u64 t6] ∧ Blk wc g1 27 [.int .i64 0, .int .u64 0, .int .u64 0, .int .u64 0, .int .u64 0, .int .u64 0, .int .u64 0] ∧ Since w wc)
 case first =>
  rcases Bool.eq_false_or_eq_true (decide (s1 ≤ num)) with h0 | h0
  ·(try rw [h0])
   clear kg0_1; have kg0_3 := Bg0.at 3 rfl
   go_wp2_with (first | (refine seg_store rfl rfl 23 (.tmp 24) (.tmp 22) rfl g0 2 [.int .u64 s3] [.int .i64 0, .int .u64 s1, .int .u64 s3, .int .u64 s3, .int .u64 s4, .int .u64 s5, .int .u64 s6] (.int .u64 s3) rfl rfl rfl Bg0 (by kernel_rfl) (nle rfl) rfl rfl ?_; intro w4 hn hw; replace Bg1 := Bg1.grown hw Ng1_g0; replace HS := HS.grown hw GEg0; replace Bg0 := hn; clear hw; clear kg0_3; clear hn) | (refine seg_store rfl rfl 23 (.tmp 25) (.const (.int .u64 18446744073709551615)) rfl g0 3 [.int .u64 18446744073709551615] [.int .i64 0, .int .u64 s1, .int .u64 s3, .int .u64 18446744073709551615, .int .u64 s4, .int .u64 s5, .int .u64 s6] (.int .u64 18446744073709551615) rfl rfl rfl Bg0 (by kernel_rfl) (nle rfl) rfl rfl ?_; intro w5 hn hw; replace Bg1 := Bg1.grown hw Ng1_g0; replace HS := HS.grown hw GEg0; replace Bg0 := hn; clear hw; clear hn) | (refine seg_store rfl rfl 23 (.tmp 26) (.const (.int .u64 0)) rfl g0 4 [.int .u64 0] [.int .i64 0, .int .u64 s1, .int .u64 s3, .int .u64 18446744073709551615, .int .u64 0, .int .u64 s5, .int .u64 s6] (.int .u64 0) rfl rfl rfl Bg0 (by kernel_rfl) (nle rfl) rfl rfl ?_; intro w6 hn hw; replace Bg1 := Bg1.grown hw Ng1_g0; replace HS := HS.grown hw GEg0; replace Bg0 := hn; clear hw; clear hn) | (refine seg_store rfl rfl 23 (.tmp 27) (.tmp 23) rfl g0 1 [.int .u64 next] [.int .i64 0, .int .u64 next, .int .u64 s3, .int .u64 18446744073709551615, .int .u64 0, .int .u64 s5, .int .u64 s6] (.int .u64 next) rfl rfl rfl Bg0 (by kernel_rfl) (nle rfl) rfl rfl ?_; intro w7 hn hw; replace Bg1 := Bg1.grown hw Ng1_g0; replace HS := HS.grown hw GEg0; replace Bg0 := hn; clear hw; have kg0_0 := Bg0.at 0 rfl; clear hn))
   all_goals go_meet
   case rel => exact ⟨_, _, _, _, _, _, Wnext, Ws3, (by decide), (by decide), Ws5, Ws6, Bg0, Bg1, HS⟩
  ·(try rw [h0])
   clear kg0_1
   go_wp2
   all_goals go_meet
   case rel => exact ⟨_, _, _, _, _, _, Ws1, Ws2, Ws3, Ws4, Ws5, Ws6, Bg0, Bg1, HS⟩
 case rest =>
  clear kg0_1 Bg0 Bg1 HS
  obtain ⟨t1, t2, t3, t4, t5, t6, Wt1, Wt2, Wt3, Wt4, Wt5, Wt6, Bg0, Bg1, HS⟩ := hcut
  rcases Bool.eq_false_or_eq_true (decide (uAdd t4 1 < 8)) with h0 | h0
  ·go_wp2_with (first | ((go_at_call 63); (with_reducible refine (over0_0 t1 t2 t3 t4 t5 t6 g0 _ Bg0).mono ?_); rintro e w61 ⟨rfl, hl⟩; replace Bg0 := Bg0.below hl; replace Bg1 := Bg1.below hl; replace HS := HS.below hl; clear hl; have kg0_3 := Bg0.at 3 rfl; have zg0_3 := Bg0.frozen 3; have kg0_4 := Bg0.at 4 rfl; have zg0_4 := Bg0.frozen 4))
   refine start_ (n := 11) (S := fun w' => w'.cell? ⟨g0, 3, none⟩ = some (.int .u64 t3) ∧ w'.cell? ⟨g0, 4, none⟩ = some (.int .u64 t4)) (ds := [8, 10]) (bs 11 0) (by kernel_rfl) rfl rfl ⟨((Bg0.drew.cell 3).trans rfl), ((Bg0.drew.cell 4).trans rfl)⟩ (fun hHeld => ?_)
   generalize hWd : World.drew w61 = w62 at hHeld ⊢
   have hl : Below w61.heap.size w61 w62 := (by rw [← hWd]; exact below_drew1 (Below.refl _ _))
   clear hWd
   replace Bg0 := Bg0.below hl; replace Bg1 := Bg1.below hl; replace HS := HS.below hl; clear hl; replace kg0_3 := Bg0.at 3 rfl; replace zg0_3 := Bg0.frozen 3; replace kg0_4 := Bg0.at 4 rfl; replace zg0_4 := Bg0.frozen 4
   refine pu 0 42 (.pointer (some ⟨g0, 3, none⟩)) 1 rfl rfl (by kernel_rfl) (fun _ _ _ h => h) (by rfl) (fun _ => by kernel_rfl) rfl ?_
   refine pu 2 44 (.int .u64 took) 5 rfl rfl (by kernel_rfl) (fun _ _ _ h => h) (by rfl) (fun _ => by kernel_rfl) rfl ?_
   refine pu 4 46 (.pointer (some ⟨g0, 4, none⟩)) 21 rfl rfl (by kernel_rfl) (fun _ _ _ h => h) (by rfl) (fun _ => by kernel_rfl) rfl ?_
   refine norm_ (a' := ?_) ?_ ?_
   rotate_left
   ·simp only [Act.put, zA_, z0_, z1_, i64_w, i32_w]
    rfl
   refine take_ (i := 1) (N := some 43) (v := ?_) (a' := ?_) (bs 11 23) rfl rfl (by kernel_rfl) (fun _ _ _ h => h) (Or.inl ⟨by rfl, ?_⟩) hHeld ?_ ?_
   rotate_left
   ·rintro w' ⟨s0, s1⟩
    go_simp
    with_reducible rfl
   rotate_left
   ·simp only [Act.put, zA_, z0_, z1_, i64_w, i32_w]
    rfl
   refine pure_ (i := 3) (N := some 45) (v := ?_) (a' := ?_) (bs 11 31) rfl rfl (by kernel_rfl) (fun _ _ _ h => h) (Or.inl ⟨by rfl, ?_⟩) ?_ ?_
   rotate_left
   ·intro w'
    go_simp
    with_reducible rfl
   rotate_left
   ·simp only [Act.put, zA_, z0_, z1_, i64_w, i32_w]
    rfl
   refine take_ (i := 5) (N := some 47) (v := ?_) (a' := ?_) (bs 11 63) rfl rfl (by kernel_rfl) (fun _ _ _ h => h) (Or.inl ⟨by rfl, ?_⟩) hHeld ?_ ?_
   rotate_left
   ·rintro w' ⟨s0, s1⟩
    go_simp
    with_reducible rfl
   rotate_left
   ·simp only [Act.put, zA_, z0_, z1_, i64_w, i32_w]
    rfl
   refine pu 7 49 (.pointer (some ⟨g0, 3, none⟩)) 191 rfl rfl (by kernel_rfl) (fun _ _ _ h => h) (by rfl) (fun _ => by kernel_rfl) rfl ?_
   refine norm_ (a' := ?_) ?_ ?_
   rotate_left
   ·simp only [Act.put, zA_, z0_, z1_, i64_w, i32_w]
    rfl
   refine one_ (i := 6) (N := some 48) (bs 11 255) rfl rfl (by kernel_rfl) (by decide) (fun K hK => ?_)
   refine goes_ Try.func25 (by kernel_rfl) rfl #[.int .u64 t4, .int .u64 1] (by rfl) rfl rfl (by simp only [List.map_toArray, List.map_cons, List.map_nil]; rfl) ?_
   with_reducible refine (fix_Add.C t4 1 Wt4 (by decide) _).mono ?_
   rintro e w63 ⟨rfl, hd⟩
   refine ⟨_, rfl, ?_⟩
   have hl := hd.below
   clear hd
   replace Bg0 := Bg0.below hl; replace Bg1 := Bg1.below hl; replace HS := HS.below hl; clear hl; replace kg0_3 := Bg0.at 3 rfl; replace zg0_3 := Bg0.frozen 3; replace kg0_4 := Bg0.at 4 rfl; replace zg0_4 := Bg0.frozen 4
   refine hK.out _ _ ⟨((Bg0.cell 3).trans rfl), ((Bg0.cell 4).trans rfl)⟩ (fun hHeld => ?_)
   clear hK K
   refine norm_ (a' := ?_) ?_ ?_
   rotate_left
   ·show Act.put _ (some 48) _ = _
    simp only [Act.put, zA_, z0_, z1_, i64_w, i32_w]
    rfl
   refine last_ (i := 8) (N := none) (bs 11 511) rfl rfl (by kernel_rfl) (by decide) (fun K hK => ?_)
   refine skip_ (w1 := ?_) (by rfl) rfl ?_ ?_
   rotate_left
   ·go_simp
    rfl
   refine hK.out _ _ ?_
   clear hK K
   refine pu 9 50 (.pointer (some ⟨g0, 4, none⟩)) 1023 rfl rfl (by kernel_rfl) (fun _ _ _ h => h) (by rfl) (fun _ => by kernel_rfl) rfl ?_
   refine norm_ (a' := ?_) ?_ ?_
   rotate_left
   ·simp only [Act.put, zA_, z0_, z1_, i64_w, i32_w]
    rfl
   refine last_ (i := 10) (N := none) (bs 11 2047) rfl rfl (by kernel_rfl) (by decide) (fun K hK => ?_)
   refine skip_ (w1 := ?_) (by rfl) rfl ?_ ?_
   rotate_left
   ·go_simp
    rfl
   refine hK.out _ _ ?_
   clear hK K
   refine done_ (by kernel_rfl) ?_
   refine letter ?_
   intro w64 hW
   have Bn_ : Blk w64 g0 27 [.int .i64 0, .int .u64 t1, .int .u64 t2, .int .u64 (min t3 took), .int .u64 (uAdd t4 1), .int .u64 t5, .int .u64 t6] := (by rw [hW]; (repeat (first | (with_reducible refine Blk.drewN ?_ _) | (with_reducible refine Blk.drew ?_))); refine Blk.set (l := [.int .i64 0, .int .u64 t1, .int .u64 t2, .int .u64 (min t3 took), .int .u64 t4, .int .u64 t5, .int .u64 t6]) ?_ 4 _ rfl; (repeat (first | (with_reducible refine Blk.drewN ?_ _) | (with_reducible refine Blk.drew ?_))); refine Blk.set (l := [.int .i64 0, .int .u64 t1, .int .u64 t2, .int .u64 t3, .int .u64 t4, .int .u64 t5, .int .u64 t6]) ?_ 3 _ rfl; (repeat (first | (with_reducible refine Blk.drewN ?_ _) | (with_reducible refine Blk.drew ?_))); exact Bg0)
   replace Bg0 := Bn_
   clear Bn_
   have Bn_ : Blk w64 g1 27 [.int .i64 0, .int .u64 0, .int .u64 0, .int .u64 0, .int .u64 0, .int .u64 0, .int .u64 0] := (by rw [hW]; (repeat (first | (with_reducible refine Blk.drewN ?_ _) | (with_reducible refine Blk.drew ?_))); refine Blk.setFar ?_ Ng1_g0; (repeat (first | (with_reducible refine Blk.drewN ?_ _) | (with_reducible refine Blk.drew ?_))); refine Blk.setFar ?_ Ng1_g0; (repeat (first | (with_reducible refine Blk.drewN ?_ _) | (with_reducible refine Blk.drew ?_))); exact Bg1)
   replace Bg1 := Bn_
   clear Bn_
   have HS_ : Since w w64 := (by rw [hW]; repeat (first | (with_reducible exact HS) | (with_reducible refine Since.drewN ?_ _) | (with_reducible refine Since.drew ?_) | (with_reducible refine Since.set ?_ GEg0)))
   replace HS := HS_
   clear HS_ hW
   clear kg0_3 zg0_3 zg0_4; replace kg0_4 := Bg0.at 4 rfl
   go_wp2_with (first | (refine seg_load rfl (N := 64) rfl 27 (.tmp 4) rfl g0 0 [.int .i64 0, .int .u64 t1, .int .u64 t2, .int .u64 (min t3 took), .int .u64 (uAdd t4 1), .int .u64 t5, .int .u64 t6] rfl Bg0 rfl Try.underlying27 rfl (by kernel_rfl) ?_) | (refine seg_store rfl rfl 27 (.tmp 8) (.tmp 64) rfl g1 0 [.int .i64 0, .int .u64 t1, .int .u64 t2, .int .u64 (min t3 took), .int .u64 (uAdd t4 1), .int .u64 t5, .int .u64 t6] [.int .i64 0, .int .u64 t1, .int .u64 t2, .int .u64 (min t3 took), .int .u64 (uAdd t4 1), .int .u64 t5, .int .u64 t6] (.agg #[.int .i64 0, .int .u64 t1, .int .u64 t2, .int .u64 (min t3 took), .int .u64 (uAdd t4 1), .int .u64 t5, .int .u64 t6]) rfl rfl rfl Bg1 (by kernel_rfl) (nle rfl) rfl rfl ?_; intro w65 hn hw; replace Bg0 := Bg0.grown hw Ng1_g0.symm; replace HS := HS.grown hw GEg1; replace Bg1 := hn; clear hw; clear kg0_4; clear hn))
   all_goals exact bodyPost_ret (results_cell1 rfl _ _ g1 27 [.int .i64 0, .int .u64 t1, .int .u64 t2, .int .u64 (min t3 took), .int .u64 (uAdd t4 1), .int .u64 t5, .int .u64 t6] _ rfl Bg1 Try.underlying27 rfl (by kernel_rfl)) rfl ⟨_, _, _, _, _, _, _, rfl, by decide, Wt1, Wt2, (min_w Wt3 Wtook), (uAdd_w Wt4 (by decide)), Wt5, Wt6, HS.out⟩
  ·rcases Bool.eq_false_or_eq_true ((min t3 took) == 18446744073709551615) with h1 | h1
   ·go_wp2_with (first | ((go_at_call 63); (with_reducible refine (over0_0 t1 t2 t3 t4 t5 t6 g0 _ Bg0).mono ?_); rintro e w61 ⟨rfl, hl⟩; replace Bg0 := Bg0.below hl; replace Bg1 := Bg1.below hl; replace HS := HS.below hl; clear hl; have kg0_3 := Bg0.at 3 rfl; have zg0_3 := Bg0.frozen 3; have kg0_4 := Bg0.at 4 rfl; have zg0_4 := Bg0.frozen 4))
    refine start_ (n := 11) (S := fun w' => w'.cell? ⟨g0, 3, none⟩ = some (.int .u64 t3) ∧ w'.cell? ⟨g0, 4, none⟩ = some (.int .u64 t4)) (ds := [8, 10]) (bs 11 0) (by kernel_rfl) rfl rfl ⟨((Bg0.drew.cell 3).trans rfl), ((Bg0.drew.cell 4).trans rfl)⟩ (fun hHeld => ?_)
    generalize hWd : World.drew w61 = w62 at hHeld ⊢
    have hl : Below w61.heap.size w61 w62 := (by rw [← hWd]; exact below_drew1 (Below.refl _ _))
    clear hWd
    replace Bg0 := Bg0.below hl; replace Bg1 := Bg1.below hl; replace HS := HS.below hl; clear hl; replace kg0_3 := Bg0.at 3 rfl; replace zg0_3 := Bg0.frozen 3; replace kg0_4 := Bg0.at 4 rfl; replace zg0_4 := Bg0.frozen 4
    refine pu 0 42 (.pointer (some ⟨g0, 3, none⟩)) 1 rfl rfl (by kernel_rfl) (fun _ _ _ h => h) (by rfl) (fun _ => by kernel_rfl) rfl ?_
    refine pu 2 44 (.int .u64 took) 5 rfl rfl (by kernel_rfl) (fun _ _ _ h => h) (by rfl) (fun _ => by kernel_rfl) rfl ?_
    refine pu 4 46 (.pointer (some ⟨g0, 4, none⟩)) 21 rfl rfl (by kernel_rfl) (fun _ _ _ h => h) (by rfl) (fun _ => by kernel_rfl) rfl ?_
    refine norm_ (a' := ?_) ?_ ?_
    rotate_left
    ·simp only [Act.put, zA_, z0_, z1_, i64_w, i32_w]
     rfl
    refine take_ (i := 1) (N := some 43) (v := ?_) (a' := ?_) (bs 11 23) rfl rfl (by kernel_rfl) (fun _ _ _ h => h) (Or.inl ⟨by rfl, ?_⟩) hHeld ?_ ?_
    rotate_left
    ·rintro w' ⟨s0, s1⟩
     go_simp
     with_reducible rfl
    rotate_left
    ·simp only [Act.put, zA_, z0_, z1_, i64_w, i32_w]
     rfl
    refine pure_ (i := 3) (N := some 45) (v := ?_) (a' := ?_) (bs 11 31) rfl rfl (by kernel_rfl) (fun _ _ _ h => h) (Or.inl ⟨by rfl, ?_⟩) ?_ ?_
    rotate_left
    ·intro w'
     go_simp
     with_reducible rfl
    rotate_left
    ·simp only [Act.put, zA_, z0_, z1_, i64_w, i32_w]
     rfl
    refine take_ (i := 5) (N := some 47) (v := ?_) (a' := ?_) (bs 11 63) rfl rfl (by kernel_rfl) (fun _ _ _ h => h) (Or.inl ⟨by rfl, ?_⟩) hHeld ?_ ?_
    rotate_left
    ·rintro w' ⟨s0, s1⟩
     go_simp
     with_reducible rfl
    rotate_left
    ·simp only [Act.put, zA_, z0_, z1_, i64_w, i32_w]
     rfl
    refine pu 7 49 (.pointer (some ⟨g0, 3, none⟩)) 191 rfl rfl (by kernel_rfl) (fun _ _ _ h => h) (by rfl) (fun _ => by kernel_rfl) rfl ?_
    refine norm_ (a' := ?_) ?_ ?_
    rotate_left
    ·simp only [Act.put, zA_, z0_, z1_, i64_w, i32_w]
     rfl
    refine one_ (i := 6) (N := some 48) (bs 11 255) rfl rfl (by kernel_rfl) (by decide) (fun K hK => ?_)
    refine goes_ Try.func25 (by kernel_rfl) rfl #[.int .u64 t4, .int .u64 1] (by rfl) rfl rfl (by simp only [List.map_toArray, List.map_cons, List.map_nil]; rfl) ?_
    with_reducible refine (fix_Add.C t4 1 Wt4 (by decide) _).mono ?_
    rintro e w63 ⟨rfl, hd⟩
    refine ⟨_, rfl, ?_⟩
    have hl := hd.below
    clear hd
    replace Bg0 := Bg0.below hl; replace Bg1 := Bg1.below hl; replace HS := HS.below hl; clear hl; replace kg0_3 := Bg0.at 3 rfl; replace zg0_3 := Bg0.frozen 3; replace kg0_4 := Bg0.at 4 rfl; replace zg0_4 := Bg0.frozen 4
    refine hK.out _ _ ⟨((Bg0.cell 3).trans rfl), ((Bg0.cell 4).trans rfl)⟩ (fun hHeld => ?_)
    clear hK K
    refine norm_ (a' := ?_) ?_ ?_
    rotate_left
    ·show Act.put _ (some 48) _ = _
     simp only [Act.put, zA_, z0_, z1_, i64_w, i32_w]
     rfl
    refine last_ (i := 8) (N := none) (bs 11 511) rfl rfl (by kernel_rfl) (by decide) (fun K hK => ?_)
    refine skip_ (w1 := ?_) (by rfl) rfl ?_ ?_
    rotate_left
    ·go_simp
     rfl
    refine hK.out _ _ ?_
    clear hK K
    refine pu 9 50 (.pointer (some ⟨g0, 4, none⟩)) 1023 rfl rfl (by kernel_rfl) (fun _ _ _ h => h) (by rfl) (fun _ => by kernel_rfl) rfl ?_
    refine norm_ (a' := ?_) ?_ ?_
    rotate_left
    ·simp only [Act.put, zA_, z0_, z1_, i64_w, i32_w]
     rfl
    refine last_ (i := 10) (N := none) (bs 11 2047) rfl rfl (by kernel_rfl) (by decide) (fun K hK => ?_)
    refine skip_ (w1 := ?_) (by rfl) rfl ?_ ?_
    rotate_left
    ·go_simp
     rfl
    refine hK.out _ _ ?_
    clear hK K
    refine done_ (by kernel_rfl) ?_
    refine letter ?_
    intro w64 hW
    have Bn_ : Blk w64 g0 27 [.int .i64 0, .int .u64 t1, .int .u64 t2, .int .u64 (min t3 took), .int .u64 (uAdd t4 1), .int .u64 t5, .int .u64 t6] := (by rw [hW]; (repeat (first | (with_reducible refine Blk.drewN ?_ _) | (with_reducible refine Blk.drew ?_))); refine Blk.set (l := [.int .i64 0, .int .u64 t1, .int .u64 t2, .int .u64 (min t3 took), .int .u64 t4, .int .u64 t5, .int .u64 t6]) ?_ 4 _ rfl; (repeat (first | (with_reducible refine Blk.drewN ?_ _) | (with_reducible refine Blk.drew ?_))); refine Blk.set (l := [.int .i64 0, .int .u64 t1, .int .u64 t2, .int .u64 t3, .int .u64 t4, .int .u64 t5, .int .u64 t6]) ?_ 3 _ rfl; (repeat (first | (with_reducible refine Blk.drewN ?_ _) | (with_reducible refine Blk.drew ?_))); exact Bg0)
    replace Bg0 := Bn_
    clear Bn_
    have Bn_ : Blk w64 g1 27 [.int .i64 0, .int .u64 0, .int .u64 0, .int .u64 0, .int .u64 0, .int .u64 0, .int .u64 0] := (by rw [hW]; (repeat (first | (with_reducible refine Blk.drewN ?_ _) | (with_reducible refine Blk.drew ?_))); refine Blk.setFar ?_ Ng1_g0; (repeat (first | (with_reducible refine Blk.drewN ?_ _) | (with_reducible refine Blk.drew ?_))); refine Blk.setFar ?_ Ng1_g0; (repeat (first | (with_reducible refine Blk.drewN ?_ _) | (with_reducible refine Blk.drew ?_))); exact Bg1)
    replace Bg1 := Bn_
    clear Bn_
    have HS_ : Since w w64 := (by rw [hW]; repeat (first | (with_reducible exact HS) | (with_reducible refine Since.drewN ?_ _) | (with_reducible refine Since.drew ?_) | (with_reducible refine Since.set ?_ GEg0)))
    replace HS := HS_
    clear HS_ hW
    clear zg0_3 zg0_4; replace kg0_3 := Bg0.at 3 rfl; replace kg0_4 := Bg0.at 4 rfl
    go_wp2_with (first | (refine seg_load rfl (N := 64) rfl 27 (.tmp 4) rfl g0 0 [.int .i64 0, .int .u64 t1, .int .u64 t2, .int .u64 (min t3 took), .int .u64 (uAdd t4 1), .int .u64 t5, .int .u64 t6] rfl Bg0 rfl Try.underlying27 rfl (by kernel_rfl) ?_) | (refine seg_store rfl rfl 27 (.tmp 8) (.tmp 64) rfl g1 0 [.int .i64 0, .int .u64 t1, .int .u64 t2, .int .u64 (min t3 took), .int .u64 (uAdd t4 1), .int .u64 t5, .int .u64 t6] [.int .i64 0, .int .u64 t1, .int .u64 t2, .int .u64 (min t3 took), .int .u64 (uAdd t4 1), .int .u64 t5, .int .u64 t6] (.agg #[.int .i64 0, .int .u64 t1, .int .u64 t2, .int .u64 (min t3 took), .int .u64 (uAdd t4 1), .int .u64 t5, .int .u64 t6]) rfl rfl rfl Bg1 (by kernel_rfl) (nle rfl) rfl rfl ?_; intro w65 hn hw; replace Bg0 := Bg0.grown hw Ng1_g0.symm; replace HS := HS.grown hw GEg1; replace Bg1 := hn; clear hw; clear kg0_3 kg0_4; clear hn))
    all_goals exact bodyPost_ret (results_cell1 rfl _ _ g1 27 [.int .i64 0, .int .u64 t1, .int .u64 t2, .int .u64 (min t3 took), .int .u64 (uAdd t4 1), .int .u64 t5, .int .u64 t6] _ rfl Bg1 Try.underlying27 rfl (by kernel_rfl)) rfl ⟨_, _, _, _, _, _, _, rfl, by decide, Wt1, Wt2, (min_w Wt3 Wtook), (uAdd_w Wt4 (by decide)), Wt5, Wt6, HS.out⟩
   ·rcases Bool.eq_false_or_eq_true (t2 == 18446744073709551615) with h2 | h2
    ·go_wp2_with (first | ((go_at_call 63); (with_reducible refine (over0_0 t1 t2 t3 t4 t5 t6 g0 _ Bg0).mono ?_); rintro e w61 ⟨rfl, hl⟩; replace Bg0 := Bg0.below hl; replace Bg1 := Bg1.below hl; replace HS := HS.below hl; clear hl; have kg0_3 := Bg0.at 3 rfl; have zg0_3 := Bg0.frozen 3; have kg0_4 := Bg0.at 4 rfl; have zg0_4 := Bg0.frozen 4))
     refine start_ (n := 11) (S := fun w' => w'.cell? ⟨g0, 3, none⟩ = some (.int .u64 t3) ∧ w'.cell? ⟨g0, 4, none⟩ = some (.int .u64 t4)) (ds := [8, 10]) (bs 11 0) (by kernel_rfl) rfl rfl ⟨((Bg0.drew.cell 3).trans rfl), ((Bg0.drew.cell 4).trans rfl)⟩ (fun hHeld => ?_)
     generalize hWd : World.drew w61 = w62 at hHeld ⊢
     have hl : Below w61.heap.size w61 w62 := (by rw [← hWd]; exact below_drew1 (Below.refl _ _))
     clear hWd
     replace Bg0 := Bg0.below hl; replace Bg1 := Bg1.below hl; replace HS := HS.below hl; clear hl; replace kg0_3 := Bg0.at 3 rfl; replace zg0_3 := Bg0.frozen 3; replace kg0_4 := Bg0.at 4 rfl; replace zg0_4 := Bg0.frozen 4
     refine pu 0 42 (.pointer (some ⟨g0, 3, none⟩)) 1 rfl rfl (by kernel_rfl) (fun _ _ _ h => h) (by rfl) (fun _ => by kernel_rfl) rfl ?_
     refine pu 2 44 (.int .u64 took) 5 rfl rfl (by kernel_rfl) (fun _ _ _ h => h) (by rfl) (fun _ => by kernel_rfl) rfl ?_
     refine pu 4 46 (.pointer (some ⟨g0, 4, none⟩)) 21 rfl rfl (by kernel_rfl) (fun _ _ _ h => h) (by rfl) (fun _ => by kernel_rfl) rfl ?_
     refine norm_ (a' := ?_) ?_ ?_
     rotate_left
     ·simp only [Act.put, zA_, z0_, z1_, i64_w, i32_w]
      rfl
     refine take_ (i := 1) (N := some 43) (v := ?_) (a' := ?_) (bs 11 23) rfl rfl (by kernel_rfl) (fun _ _ _ h => h) (Or.inl ⟨by rfl, ?_⟩) hHeld ?_ ?_
     rotate_left
     ·rintro w' ⟨s0, s1⟩
      go_simp
      with_reducible rfl
     rotate_left
     ·simp only [Act.put, zA_, z0_, z1_, i64_w, i32_w]
      rfl
     refine pure_ (i := 3) (N := some 45) (v := ?_) (a' := ?_) (bs 11 31) rfl rfl (by kernel_rfl) (fun _ _ _ h => h) (Or.inl ⟨by rfl, ?_⟩) ?_ ?_
     rotate_left
     ·intro w'
      go_simp
      with_reducible rfl
     rotate_left
     ·simp only [Act.put, zA_, z0_, z1_, i64_w, i32_w]
      rfl
     refine take_ (i := 5) (N := some 47) (v := ?_) (a' := ?_) (bs 11 63) rfl rfl (by kernel_rfl) (fun _ _ _ h => h) (Or.inl ⟨by rfl, ?_⟩) hHeld ?_ ?_
     rotate_left
     ·rintro w' ⟨s0, s1⟩
      go_simp
      with_reducible rfl
     rotate_left
     ·simp only [Act.put, zA_, z0_, z1_, i64_w, i32_w]
      rfl
     refine pu 7 49 (.pointer (some ⟨g0, 3, none⟩)) 191 rfl rfl (by kernel_rfl) (fun _ _ _ h => h) (by rfl) (fun _ => by kernel_rfl) rfl ?_
     refine norm_ (a' := ?_) ?_ ?_
     rotate_left
     ·simp only [Act.put, zA_, z0_, z1_, i64_w, i32_w]
      rfl
     refine one_ (i := 6) (N := some 48) (bs 11 255) rfl rfl (by kernel_rfl) (by decide) (fun K hK => ?_)
     refine goes_ Try.func25 (by kernel_rfl) rfl #[.int .u64 t4, .int .u64 1] (by rfl) rfl rfl (by simp only [List.map_toArray, List.map_cons, List.map_nil]; rfl) ?_
     with_reducible refine (fix_Add.C t4 1 Wt4 (by decide) _).mono ?_
     rintro e w63 ⟨rfl, hd⟩
     refine ⟨_, rfl, ?_⟩
     have hl := hd.below
     clear hd
     replace Bg0 := Bg0.below hl; replace Bg1 := Bg1.below hl; replace HS := HS.below hl; clear hl; replace kg0_3 := Bg0.at 3 rfl; replace zg0_3 := Bg0.frozen 3; replace kg0_4 := Bg0.at 4 rfl; replace zg0_4 := Bg0.frozen 4
     refine hK.out _ _ ⟨((Bg0.cell 3).trans rfl), ((Bg0.cell 4).trans rfl)⟩ (fun hHeld => ?_)
     clear hK K
     refine norm_ (a' := ?_) ?_ ?_
     rotate_left
     ·show Act.put _ (some 48) _ = _
      simp only [Act.put, zA_, z0_, z1_, i64_w, i32_w]
      rfl
     refine last_ (i := 8) (N := none) (bs 11 511) rfl rfl (by kernel_rfl) (by decide) (fun K hK => ?_)
     refine skip_ (w1 := ?_) (by rfl) rfl ?_ ?_
     rotate_left
     ·go_simp
      rfl
     refine hK.out _ _ ?_
     clear hK K
     refine pu 9 50 (.pointer (some ⟨g0, 4, none⟩)) 1023 rfl rfl (by kernel_rfl) (fun _ _ _ h => h) (by rfl) (fun _ => by kernel_rfl) rfl ?_
     refine norm_ (a' := ?_) ?_ ?_
     rotate_left
     ·simp only [Act.put, zA_, z0_, z1_, i64_w, i32_w]
      rfl
     refine last_ (i := 10) (N := none) (bs 11 2047) rfl rfl (by kernel_rfl) (by decide) (fun K hK => ?_)
     refine skip_ (w1 := ?_) (by rfl) rfl ?_ ?_
     rotate_left
     ·go_simp
      rfl
     refine hK.out _ _ ?_
     clear hK K
     refine done_ (by kernel_rfl) ?_
     refine letter ?_
     intro w64 hW
     have Bn_ : Blk w64 g0 27 [.int .i64 0, .int .u64 t1, .int .u64 t2, .int .u64 (min t3 took), .int .u64 (uAdd t4 1), .int .u64 t5, .int .u64 t6] := (by rw [hW]; (repeat (first | (with_reducible refine Blk.drewN ?_ _) | (with_reducible refine Blk.drew ?_))); refine Blk.set (l := [.int .i64 0, .int .u64 t1, .int .u64 t2, .int .u64 (min t3 took), .int .u64 t4, .int .u64 t5, .int .u64 t6]) ?_ 4 _ rfl; (repeat (first | (with_reducible refine Blk.drewN ?_ _) | (with_reducible refine Blk.drew ?_))); refine Blk.set (l := [.int .i64 0, .int .u64 t1, .int .u64 t2, .int .u64 t3, .int .u64 t4, .int .u64 t5, .int .u64 t6]) ?_ 3 _ rfl; (repeat (first | (with_reducible refine Blk.drewN ?_ _) | (with_reducible refine Blk.drew ?_))); exact Bg0)
     replace Bg0 := Bn_
     clear Bn_
     have Bn_ : Blk w64 g1 27 [.int .i64 0, .int .u64 0, .int .u64 0, .int .u64 0, .int .u64 0, .int .u64 0, .int .u64 0] := (by rw [hW]; (repeat (first | (with_reducible refine Blk.drewN ?_ _) | (with_reducible refine Blk.drew ?_))); refine Blk.setFar ?_ Ng1_g0; (repeat (first | (with_reducible refine Blk.drewN ?_ _) | (with_reducible refine Blk.drew ?_))); refine Blk.setFar ?_ Ng1_g0; (repeat (first | (with_reducible refine Blk.drewN ?_ _) | (with_reducible refine Blk.drew ?_))); exact Bg1)
     replace Bg1 := Bn_
     clear Bn_
     have HS_ : Since w w64 := (by rw [hW]; repeat (first | (with_reducible exact HS) | (with_reducible refine Since.drewN ?_ _) | (with_reducible refine Since.drew ?_) | (with_reducible refine Since.set ?_ GEg0)))
     replace HS := HS_
     clear HS_ hW
     clear zg0_3 zg0_4; have kg0_2 := Bg0.at 2 rfl; replace kg0_3 := Bg0.at 3 rfl; replace kg0_4 := Bg0.at 4 rfl
     go_wp2_with (first | (refine seg_load rfl (N := 64) rfl 27 (.tmp 4) rfl g0 0 [.int .i64 0, .int .u64 t1, .int .u64 t2, .int .u64 (min t3 took), .int .u64 (uAdd t4 1), .int .u64 t5, .int .u64 t6] rfl Bg0 rfl Try.underlying27 rfl (by kernel_rfl) ?_) | (refine seg_store rfl rfl 27 (.tmp 8) (.tmp 64) rfl g1 0 [.int .i64 0, .int .u64 t1, .int .u64 t2, .int .u64 (min t3 took), .int .u64 (uAdd t4 1), .int .u64 t5, .int .u64 t6] [.int .i64 0, .int .u64 t1, .int .u64 t2, .int .u64 (min t3 took), .int .u64 (uAdd t4 1), .int .u64 t5, .int .u64 t6] (.agg #[.int .i64 0, .int .u64 t1, .int .u64 t2, .int .u64 (min t3 took), .int .u64 (uAdd t4 1), .int .u64 t5, .int .u64 t6]) rfl rfl rfl Bg1 (by kernel_rfl) (nle rfl) rfl rfl ?_; intro w65 hn hw; replace Bg0 := Bg0.grown hw Ng1_g0.symm; replace HS := HS.grown hw GEg1; replace Bg1 := hn; clear hw; clear kg0_2 kg0_3 kg0_4; clear hn))
     all_goals exact bodyPost_ret (results_cell1 rfl _ _ g1 27 [.int .i64 0, .int .u64 t1, .int .u64 t2, .int .u64 (min t3 took), .int .u64 (uAdd t4 1), .int .u64 t5, .int .u64 t6] _ rfl Bg1 Try.underlying27 rfl (by kernel_rfl)) rfl ⟨_, _, _, _, _, _, _, rfl, by decide, Wt1, Wt2, (min_w Wt3 Wtook), (uAdd_w Wt4 (by decide)), Wt5, Wt6, HS.out⟩
    ·rcases Bool.eq_false_or_eq_true (decide (uAdd t2 (min (max (t2 / 8) 4) 16) ≤ min t3 took)) with h3 | h3
     ·have q0 : IntKind.u64.wrap (Int.tdiv t2 8) = t2 / 8 := wdiv Wt2 8 (by decide)
      go_wp2_with (first | ((go_at_call 63); (with_reducible refine (over0_0 t1 t2 t3 t4 t5 t6 g0 _ Bg0).mono ?_); rintro e w61 ⟨rfl, hl⟩; replace Bg0 := Bg0.below hl; replace Bg1 := Bg1.below hl; replace HS := HS.below hl; clear hl; have kg0_3 := Bg0.at 3 rfl; have zg0_3 := Bg0.frozen 3; have kg0_4 := Bg0.at 4 rfl; have zg0_4 := Bg0.frozen 4))
      refine start_ (n := 11) (S := fun w' => w'.cell? ⟨g0, 3, none⟩ = some (.int .u64 t3) ∧ w'.cell? ⟨g0, 4, none⟩ = some (.int .u64 t4)) (ds := [8, 10]) (bs 11 0) (by kernel_rfl) rfl rfl ⟨((Bg0.drew.cell 3).trans rfl), ((Bg0.drew.cell 4).trans rfl)⟩ (fun hHeld => ?_)
      generalize hWd : World.drew w61 = w62 at hHeld ⊢
      have hl : Below w61.heap.size w61 w62 := (by rw [← hWd]; exact below_drew1 (Below.refl _ _))
      clear hWd
      replace Bg0 := Bg0.below hl; replace Bg1 := Bg1.below hl; replace HS := HS.below hl; clear hl; replace kg0_3 := Bg0.at 3 rfl; replace zg0_3 := Bg0.frozen 3; replace kg0_4 := Bg0.at 4 rfl; replace zg0_4 := Bg0.frozen 4
      refine pu 0 42 (.pointer (some ⟨g0, 3, none⟩)) 1 rfl rfl (by kernel_rfl) (fun _ _ _ h => h) (by rfl) (fun _ => by kernel_rfl) rfl ?_
      refine pu 2 44 (.int .u64 took) 5 rfl rfl (by kernel_rfl) (fun _ _ _ h => h) (by rfl) (fun _ => by kernel_rfl) rfl ?_
      refine pu 4 46 (.pointer (some ⟨g0, 4, none⟩)) 21 rfl rfl (by kernel_rfl) (fun _ _ _ h => h) (by rfl) (fun _ => by kernel_rfl) rfl ?_
      refine norm_ (a' := ?_) ?_ ?_
      rotate_left
      ·simp only [Act.put, zA_, z0_, z1_, i64_w, i32_w]
       rfl
      refine take_ (i := 1) (N := some 43) (v := ?_) (a' := ?_) (bs 11 23) rfl rfl (by kernel_rfl) (fun _ _ _ h => h) (Or.inl ⟨by rfl, ?_⟩) hHeld ?_ ?_
      rotate_left
      ·rintro w' ⟨s0, s1⟩
       go_simp
       with_reducible rfl
      rotate_left
      ·simp only [Act.put, zA_, z0_, z1_, i64_w, i32_w]
       rfl
      refine pure_ (i := 3) (N := some 45) (v := ?_) (a' := ?_) (bs 11 31) rfl rfl (by kernel_rfl) (fun _ _ _ h => h) (Or.inl ⟨by rfl, ?_⟩) ?_ ?_
      rotate_left
      ·intro w'
       go_simp
       with_reducible rfl
      rotate_left
      ·simp only [Act.put, zA_, z0_, z1_, i64_w, i32_w]
       rfl
      refine take_ (i := 5) (N := some 47) (v := ?_) (a' := ?_) (bs 11 63) rfl rfl (by kernel_rfl) (fun _ _ _ h => h) (Or.inl ⟨by rfl, ?_⟩) hHeld ?_ ?_
      rotate_left
      ·rintro w' ⟨s0, s1⟩
       go_simp
       with_reducible rfl
      rotate_left
      ·simp only [Act.put, zA_, z0_, z1_, i64_w, i32_w]
       rfl
      refine pu 7 49 (.pointer (some ⟨g0, 3, none⟩)) 191 rfl rfl (by kernel_rfl) (fun _ _ _ h => h) (by rfl) (fun _ => by kernel_rfl) rfl ?_
      refine norm_ (a' := ?_) ?_ ?_
      rotate_left
      ·simp only [Act.put, zA_, z0_, z1_, i64_w, i32_w]
       rfl
      refine one_ (i := 6) (N := some 48) (bs 11 255) rfl rfl (by kernel_rfl) (by decide) (fun K hK => ?_)
      refine goes_ Try.func25 (by kernel_rfl) rfl #[.int .u64 t4, .int .u64 1] (by rfl) rfl rfl (by simp only [List.map_toArray, List.map_cons, List.map_nil]; rfl) ?_
      with_reducible refine (fix_Add.C t4 1 Wt4 (by decide) _).mono ?_
      rintro e w63 ⟨rfl, hd⟩
      refine ⟨_, rfl, ?_⟩
      have hl := hd.below
      clear hd
      replace Bg0 := Bg0.below hl; replace Bg1 := Bg1.below hl; replace HS := HS.below hl; clear hl; replace kg0_3 := Bg0.at 3 rfl; replace zg0_3 := Bg0.frozen 3; replace kg0_4 := Bg0.at 4 rfl; replace zg0_4 := Bg0.frozen 4
      refine hK.out _ _ ⟨((Bg0.cell 3).trans rfl), ((Bg0.cell 4).trans rfl)⟩ (fun hHeld => ?_)
      clear hK K
      refine norm_ (a' := ?_) ?_ ?_
      rotate_left
      ·show Act.put _ (some 48) _ = _
       simp only [Act.put, zA_, z0_, z1_, i64_w, i32_w]
       rfl
      refine last_ (i := 8) (N := none) (bs 11 511) rfl rfl (by kernel_rfl) (by decide) (fun K hK => ?_)
      refine skip_ (w1 := ?_) (by rfl) rfl ?_ ?_
      rotate_left
      ·go_simp
       rfl
      refine hK.out _ _ ?_
      clear hK K
      refine pu 9 50 (.pointer (some ⟨g0, 4, none⟩)) 1023 rfl rfl (by kernel_rfl) (fun _ _ _ h => h) (by rfl) (fun _ => by kernel_rfl) rfl ?_
      refine norm_ (a' := ?_) ?_ ?_
      rotate_left
      ·simp only [Act.put, zA_, z0_, z1_, i64_w, i32_w]
       rfl
      refine last_ (i := 10) (N := none) (bs 11 2047) rfl rfl (by kernel_rfl) (by decide) (fun K hK => ?_)
      refine skip_ (w1 := ?_) (by rfl) rfl ?_ ?_
      rotate_left
      ·go_simp
       rfl
      refine hK.out _ _ ?_
      clear hK K
      refine done_ (by kernel_rfl) ?_
      refine letter ?_
      intro w64 hW
      have Bn_ : Blk w64 g0 27 [.int .i64 0, .int .u64 t1, .int .u64 t2, .int .u64 (min t3 took), .int .u64 (uAdd t4 1), .int .u64 t5, .int .u64 t6] := (by rw [hW]; (repeat (first | (with_reducible refine Blk.drewN ?_ _) | (with_reducible refine Blk.drew ?_))); refine Blk.set (l := [.int .i64 0, .int .u64 t1, .int .u64 t2, .int .u64 (min t3 took), .int .u64 t4, .int .u64 t5, .int .u64 t6]) ?_ 4 _ rfl; (repeat (first | (with_reducible refine Blk.drewN ?_ _) | (with_reducible refine Blk.drew ?_))); refine Blk.set (l := [.int .i64 0, .int .u64 t1, .int .u64 t2, .int .u64 t3, .int .u64 t4, .int .u64 t5, .int .u64 t6]) ?_ 3 _ rfl; (repeat (first | (with_reducible refine Blk.drewN ?_ _) | (with_reducible refine Blk.drew ?_))); exact Bg0)
      replace Bg0 := Bn_
      clear Bn_
      have Bn_ : Blk w64 g1 27 [.int .i64 0, .int .u64 0, .int .u64 0, .int .u64 0, .int .u64 0, .int .u64 0, .int .u64 0] := (by rw [hW]; (repeat (first | (with_reducible refine Blk.drewN ?_ _) | (with_reducible refine Blk.drew ?_))); refine Blk.setFar ?_ Ng1_g0; (repeat (first | (with_reducible refine Blk.drewN ?_ _) | (with_reducible refine Blk.drew ?_))); refine Blk.setFar ?_ Ng1_g0; (repeat (first | (with_reducible refine Blk.drewN ?_ _) | (with_reducible refine Blk.drew ?_))); exact Bg1)
      replace Bg1 := Bn_
      clear Bn_
      have HS_ : Since w w64 := (by rw [hW]; repeat (first | (with_reducible exact HS) | (with_reducible refine Since.drewN ?_ _) | (with_reducible refine Since.drew ?_) | (with_reducible refine Since.set ?_ GEg0)))
      replace HS := HS_
      clear HS_ hW
      clear zg0_3 zg0_4; have kg0_0 := Bg0.at 0 rfl; have kg0_2 := Bg0.at 2 rfl; replace kg0_3 := Bg0.at 3 rfl; replace kg0_4 := Bg0.at 4 rfl
      go_wp2
      all_goals go_quiet (first | (go_at_call 25; with_reducible exact fix_Add.Q t2 (min (max (t2 / 8) 4) 16) Wt2 (min_w (max_w (div_w Wt2 8 (by decide)) (by decide)) (by decide)) _ _))
      all_goals (generalize hW : World.drewN w64 _ = w65; have hl : Below w64.heap.size w64 w65 := (by rw [← hW]; exact pw_below_drewN (Below.refl _ _) _); clear hW; replace Bg0 := Bg0.below hl; replace Bg1 := Bg1.below hl; replace HS := HS.below hl; clear hl; clear kg0_0 kg0_2 kg0_4; replace kg0_3 := Bg0.at 3 rfl)
      go_wp2_with (first | (refine seg_store rfl rfl 3 (.tmp 85) (.const (.int .i64 1)) rfl g0 0 [.int .i64 1] [.int .i64 1, .int .u64 t1, .int .u64 t2, .int .u64 (min t3 took), .int .u64 (uAdd t4 1), .int .u64 t5, .int .u64 t6] (.int .i64 1) rfl rfl rfl Bg0 (by kernel_rfl) (nle rfl) rfl rfl ?_; intro w66 hn hw; replace Bg1 := Bg1.grown hw Ng1_g0; replace HS := HS.grown hw GEg0; replace Bg0 := hn; clear hw; clear kg0_3; clear hn) | (refine seg_store rfl rfl 23 (.tmp 86) (.tmp 84) rfl g0 5 [.int .u64 (min t3 took)] [.int .i64 1, .int .u64 t1, .int .u64 t2, .int .u64 (min t3 took), .int .u64 (uAdd t4 1), .int .u64 (min t3 took), .int .u64 t6] (.int .u64 (min t3 took)) rfl rfl rfl Bg0 (by kernel_rfl) (nle rfl) rfl rfl ?_; intro w67 hn hw; replace Bg1 := Bg1.grown hw Ng1_g0; replace HS := HS.grown hw GEg0; replace Bg0 := hn; clear hw; clear hn) | (refine seg_store rfl rfl 23 (.tmp 87) (.const (.int .u64 0)) rfl g0 6 [.int .u64 0] [.int .i64 1, .int .u64 t1, .int .u64 t2, .int .u64 (min t3 took), .int .u64 (uAdd t4 1), .int .u64 (min t3 took), .int .u64 0] (.int .u64 0) rfl rfl rfl Bg0 (by kernel_rfl) (nle rfl) rfl rfl ?_; intro w68 hn hw; replace Bg1 := Bg1.grown hw Ng1_g0; replace HS := HS.grown hw GEg0; replace Bg0 := hn; clear hw; clear hn) | (refine seg_load rfl (N := 101) rfl 27 (.tmp 4) rfl g0 0 [.int .i64 1, .int .u64 t1, .int .u64 t2, .int .u64 (min t3 took), .int .u64 (uAdd t4 1), .int .u64 (min t3 took), .int .u64 0] rfl Bg0 rfl Try.underlying27 rfl (by kernel_rfl) ?_) | (refine seg_store rfl rfl 27 (.tmp 8) (.tmp 101) rfl g1 0 [.int .i64 1, .int .u64 t1, .int .u64 t2, .int .u64 (min t3 took), .int .u64 (uAdd t4 1), .int .u64 (min t3 took), .int .u64 0] [.int .i64 1, .int .u64 t1, .int .u64 t2, .int .u64 (min t3 took), .int .u64 (uAdd t4 1), .int .u64 (min t3 took), .int .u64 0] (.agg #[.int .i64 1, .int .u64 t1, .int .u64 t2, .int .u64 (min t3 took), .int .u64 (uAdd t4 1), .int .u64 (min t3 took), .int .u64 0]) rfl rfl rfl Bg1 (by kernel_rfl) (nle rfl) rfl rfl ?_; intro w69 hn hw; replace Bg0 := Bg0.grown hw Ng1_g0.symm; replace HS := HS.grown hw GEg1; replace Bg1 := hn; clear hw; clear hn))
      all_goals exact bodyPost_ret (results_cell1 rfl _ _ g1 27 [.int .i64 1, .int .u64 t1, .int .u64 t2, .int .u64 (min t3 took), .int .u64 (uAdd t4 1), .int .u64 (min t3 took), .int .u64 0] _ rfl Bg1 Try.underlying27 rfl (by kernel_rfl)) rfl ⟨_, _, _, _, _, _, _, rfl, by decide, Wt1, Wt2, (min_w Wt3 Wtook), (uAdd_w Wt4 (by decide)), (min_w Wt3 Wtook), (by decide), HS.out⟩
     ·have q0 : IntKind.u64.wrap (Int.tdiv t2 8) = t2 / 8 := wdiv Wt2 8 (by decide)
      go_wp2_with (first | ((go_at_call 63); (with_reducible refine (over0_0 t1 t2 t3 t4 t5 t6 g0 _ Bg0).mono ?_); rintro e w61 ⟨rfl, hl⟩; replace Bg0 := Bg0.below hl; replace Bg1 := Bg1.below hl; replace HS := HS.below hl; clear hl; have kg0_3 := Bg0.at 3 rfl; have zg0_3 := Bg0.frozen 3; have kg0_4 := Bg0.at 4 rfl; have zg0_4 := Bg0.frozen 4))
      refine start_ (n := 11) (S := fun w' => w'.cell? ⟨g0, 3, none⟩ = some (.int .u64 t3) ∧ w'.cell? ⟨g0, 4, none⟩ = some (.int .u64 t4)) (ds := [8, 10]) (bs 11 0) (by kernel_rfl) rfl rfl ⟨((Bg0.drew.cell 3).trans rfl), ((Bg0.drew.cell 4).trans rfl)⟩ (fun hHeld => ?_)
      generalize hWd : World.drew w61 = w62 at hHeld ⊢
      have hl : Below w61.heap.size w61 w62 := (by rw [← hWd]; exact below_drew1 (Below.refl _ _))
      clear hWd
      replace Bg0 := Bg0.below hl; replace Bg1 := Bg1.below hl; replace HS := HS.below hl; clear hl; replace kg0_3 := Bg0.at 3 rfl; replace zg0_3 := Bg0.frozen 3; replace kg0_4 := Bg0.at 4 rfl; replace zg0_4 := Bg0.frozen 4
      refine pu 0 42 (.pointer (some ⟨g0, 3, none⟩)) 1 rfl rfl (by kernel_rfl) (fun _ _ _ h => h) (by rfl) (fun _ => by kernel_rfl) rfl ?_
      refine pu 2 44 (.int .u64 took) 5 rfl rfl (by kernel_rfl) (fun _ _ _ h => h) (by rfl) (fun _ => by kernel_rfl) rfl ?_
      refine pu 4 46 (.pointer (some ⟨g0, 4, none⟩)) 21 rfl rfl (by kernel_rfl) (fun _ _ _ h => h) (by rfl) (fun _ => by kernel_rfl) rfl ?_
      refine norm_ (a' := ?_) ?_ ?_
      rotate_left
      ·simp only [Act.put, zA_, z0_, z1_, i64_w, i32_w]
       rfl
      refine take_ (i := 1) (N := some 43) (v := ?_) (a' := ?_) (bs 11 23) rfl rfl (by kernel_rfl) (fun _ _ _ h => h) (Or.inl ⟨by rfl, ?_⟩) hHeld ?_ ?_
      rotate_left
      ·rintro w' ⟨s0, s1⟩
       go_simp
       with_reducible rfl
      rotate_left
      ·simp only [Act.put, zA_, z0_, z1_, i64_w, i32_w]
       rfl
      refine pure_ (i := 3) (N := some 45) (v := ?_) (a' := ?_) (bs 11 31) rfl rfl (by kernel_rfl) (fun _ _ _ h => h) (Or.inl ⟨by rfl, ?_⟩) ?_ ?_
      rotate_left
      ·intro w'
       go_simp
       with_reducible rfl
      rotate_left
      ·simp only [Act.put, zA_, z0_, z1_, i64_w, i32_w]
       rfl
      refine take_ (i := 5) (N := some 47) (v := ?_) (a' := ?_) (bs 11 63) rfl rfl (by kernel_rfl) (fun _ _ _ h => h) (Or.inl ⟨by rfl, ?_⟩) hHeld ?_ ?_
      rotate_left
      ·rintro w' ⟨s0, s1⟩
       go_simp
       with_reducible rfl
      rotate_left
      ·simp only [Act.put, zA_, z0_, z1_, i64_w, i32_w]
       rfl
      refine pu 7 49 (.pointer (some ⟨g0, 3, none⟩)) 191 rfl rfl (by kernel_rfl) (fun _ _ _ h => h) (by rfl) (fun _ => by kernel_rfl) rfl ?_
      refine norm_ (a' := ?_) ?_ ?_
      rotate_left
      ·simp only [Act.put, zA_, z0_, z1_, i64_w, i32_w]
       rfl
      refine one_ (i := 6) (N := some 48) (bs 11 255) rfl rfl (by kernel_rfl) (by decide) (fun K hK => ?_)
      refine goes_ Try.func25 (by kernel_rfl) rfl #[.int .u64 t4, .int .u64 1] (by rfl) rfl rfl (by simp only [List.map_toArray, List.map_cons, List.map_nil]; rfl) ?_
      with_reducible refine (fix_Add.C t4 1 Wt4 (by decide) _).mono ?_
      rintro e w63 ⟨rfl, hd⟩
      refine ⟨_, rfl, ?_⟩
      have hl := hd.below
      clear hd
      replace Bg0 := Bg0.below hl; replace Bg1 := Bg1.below hl; replace HS := HS.below hl; clear hl; replace kg0_3 := Bg0.at 3 rfl; replace zg0_3 := Bg0.frozen 3; replace kg0_4 := Bg0.at 4 rfl; replace zg0_4 := Bg0.frozen 4
      refine hK.out _ _ ⟨((Bg0.cell 3).trans rfl), ((Bg0.cell 4).trans rfl)⟩ (fun hHeld => ?_)
      clear hK K
      refine norm_ (a' := ?_) ?_ ?_
      rotate_left
      ·show Act.put _ (some 48) _ = _
       simp only [Act.put, zA_, z0_, z1_, i64_w, i32_w]
       rfl
      refine last_ (i := 8) (N := none) (bs 11 511) rfl rfl (by kernel_rfl) (by decide) (fun K hK => ?_)
      refine skip_ (w1 := ?_) (by rfl) rfl ?_ ?_
      rotate_left
      ·go_simp
       rfl
      refine hK.out _ _ ?_
      clear hK K
      refine pu 9 50 (.pointer (some ⟨g0, 4, none⟩)) 1023 rfl rfl (by kernel_rfl) (fun _ _ _ h => h) (by rfl) (fun _ => by kernel_rfl) rfl ?_
      refine norm_ (a' := ?_) ?_ ?_
      rotate_left
      ·simp only [Act.put, zA_, z0_, z1_, i64_w, i32_w]
       rfl
      refine last_ (i := 10) (N := none) (bs 11 2047) rfl rfl (by kernel_rfl) (by decide) (fun K hK => ?_)
      refine skip_ (w1 := ?_) (by rfl) rfl ?_ ?_
      rotate_left
      ·go_simp
       rfl
      refine hK.out _ _ ?_
      clear hK K
      refine done_ (by kernel_rfl) ?_
      refine letter ?_
      intro w64 hW
      have Bn_ : Blk w64 g0 27 [.int .i64 0, .int .u64 t1, .int .u64 t2, .int .u64 (min t3 took), .int .u64 (uAdd t4 1), .int .u64 t5, .int .u64 t6] := (by rw [hW]; (repeat (first | (with_reducible refine Blk.drewN ?_ _) | (with_reducible refine Blk.drew ?_))); refine Blk.set (l := [.int .i64 0, .int .u64 t1, .int .u64 t2, .int .u64 (min t3 took), .int .u64 t4, .int .u64 t5, .int .u64 t6]) ?_ 4 _ rfl; (repeat (first | (with_reducible refine Blk.drewN ?_ _) | (with_reducible refine Blk.drew ?_))); refine Blk.set (l := [.int .i64 0, .int .u64 t1, .int .u64 t2, .int .u64 t3, .int .u64 t4, .int .u64 t5, .int .u64 t6]) ?_ 3 _ rfl; (repeat (first | (with_reducible refine Blk.drewN ?_ _) | (with_reducible refine Blk.drew ?_))); exact Bg0)
      replace Bg0 := Bn_
      clear Bn_
      have Bn_ : Blk w64 g1 27 [.int .i64 0, .int .u64 0, .int .u64 0, .int .u64 0, .int .u64 0, .int .u64 0, .int .u64 0] := (by rw [hW]; (repeat (first | (with_reducible refine Blk.drewN ?_ _) | (with_reducible refine Blk.drew ?_))); refine Blk.setFar ?_ Ng1_g0; (repeat (first | (with_reducible refine Blk.drewN ?_ _) | (with_reducible refine Blk.drew ?_))); refine Blk.setFar ?_ Ng1_g0; (repeat (first | (with_reducible refine Blk.drewN ?_ _) | (with_reducible refine Blk.drew ?_))); exact Bg1)
      replace Bg1 := Bn_
      clear Bn_
      have HS_ : Since w w64 := (by rw [hW]; repeat (first | (with_reducible exact HS) | (with_reducible refine Since.drewN ?_ _) | (with_reducible refine Since.drew ?_) | (with_reducible refine Since.set ?_ GEg0)))
      replace HS := HS_
      clear HS_ hW
      clear zg0_3 zg0_4; have kg0_0 := Bg0.at 0 rfl; have kg0_2 := Bg0.at 2 rfl; replace kg0_3 := Bg0.at 3 rfl; replace kg0_4 := Bg0.at 4 rfl
      go_wp2
      all_goals go_quiet (first | (go_at_call 25; with_reducible exact fix_Add.Q t2 (min (max (t2 / 8) 4) 16) Wt2 (min_w (max_w (div_w Wt2 8 (by decide)) (by decide)) (by decide)) _ _))
      all_goals (generalize hW : World.drewN w64 _ = w65; have hl : Below w64.heap.size w64 w65 := (by rw [← hW]; exact pw_below_drewN (Below.refl _ _) _); clear hW; replace Bg0 := Bg0.below hl; replace Bg1 := Bg1.below hl; replace HS := HS.below hl; clear hl; clear kg0_2 kg0_3 kg0_4; replace kg0_0 := Bg0.at 0 rfl)
      go_wp2_with (first | (refine seg_load rfl (N := 101) rfl 27 (.tmp 4) rfl g0 0 [.int .i64 0, .int .u64 t1, .int .u64 t2, .int .u64 (min t3 took), .int .u64 (uAdd t4 1), .int .u64 t5, .int .u64 t6] rfl Bg0 rfl Try.underlying27 rfl (by kernel_rfl) ?_) | (refine seg_store rfl rfl 27 (.tmp 8) (.tmp 101) rfl g1 0 [.int .i64 0, .int .u64 t1, .int .u64 t2, .int .u64 (min t3 took), .int .u64 (uAdd t4 1), .int .u64 t5, .int .u64 t6] [.int .i64 0, .int .u64 t1, .int .u64 t2, .int .u64 (min t3 took), .int .u64 (uAdd t4 1), .int .u64 t5, .int .u64 t6] (.agg #[.int .i64 0, .int .u64 t1, .int .u64 t2, .int .u64 (min t3 took), .int .u64 (uAdd t4 1), .int .u64 t5, .int .u64 t6]) rfl rfl rfl Bg1 (by kernel_rfl) (nle rfl) rfl rfl ?_; intro w66 hn hw; replace Bg0 := Bg0.grown hw Ng1_g0.symm; replace HS := HS.grown hw GEg1; replace Bg1 := hn; clear hw; clear kg0_0; clear hn))
      all_goals exact bodyPost_ret (results_cell1 rfl _ _ g1 27 [.int .i64 0, .int .u64 t1, .int .u64 t2, .int .u64 (min t3 took), .int .u64 (uAdd t4 1), .int .u64 t5, .int .u64 t6] _ rfl Bg1 Try.underlying27 rfl (by kernel_rfl)) rfl ⟨_, _, _, _, _, _, _, rfl, by decide, Wt1, Wt2, (min_w Wt3 Wtook), (uAdd_w Wt4 (by decide)), Wt5, Wt6, HS.out⟩
theorem sampleC1 (s1 : Int) (s2 : Int) (s3 : Int) (s4 : Int) (s5 : Int) (s6 : Int) (num : Int) (next : Int) (took : Int) (Ws1 : W64 s1) (Ws2 : W64 s2) (Ws3 : W64 s3) (Ws4 : W64 s4) (Ws5 : W64 s5) (Ws6 : W64 s6) (Wnum : W64 num) (Wnext : W64 next) (Wtook : W64 took) (w : World) :
  Calls Try.prog 49 #[.agg #[.int .i64 1, .int .u64 s1, .int .u64 s2, .int .u64 s3, .int .u64 s4, .int .u64 s5, .int .u64 s6], .int .u64 num, .int .u64 next, .int .u64 took] w fun e w' => ∃ (q0 q1 q2 q3 q4 q5 q6 : Int), e = .returned (.agg #[.int .i64 q0, .int .u64 q1, .int .u64 q2, .int .u64 q3, .int .u64 q4, .int .u64 q5, .int .u64 q6]) ∧ (q0 = 0 ∨ q0 = 1 ∨ q0 = 2) ∧ W64 q1 ∧ W64 q2 ∧ W64 q3 ∧ W64 q4 ∧ W64 q5 ∧ W64 q6 ∧ Below w.heap.size w w' := by
 have hu27 := Try.underlying27
 have HS := Since.refl w
 go_enter Try.func49, Try.ntmps49
 go_upto_if 20 with (first | (refine seg_new rfl (N := 4) rfl [.int .i64 1, .int .u64 s1, .int .u64 s2, .int .u64 s3, .int .u64 s4, .int .u64 s5, .int .u64 s6] 27 ?hr ?_; (case hr => rfl); intro g0 hg w1 hn hl; have GEg0 := ge_new HS hg; clear hg; replace HS := HS.below hl; have Bg0 := hn; clear hl hn) | (refine seg_new rfl (N := 8) rfl [.int .i64 0, .int .u64 0, .int .u64 0, .int .u64 0, .int .u64 0, .int .u64 0, .int .u64 0] 27 ?hr ?_; (case hr => rfl); intro g1 hg w2 hn hl; have Ng1_g0 := ne_new Bg0 hg; have GEg1 := ge_new HS hg; clear hg; replace Bg0 := Bg0.below hl; replace HS := HS.below hl; have Bg1 := hn; clear hl hn) | ((go_at_call 63); (with_reducible refine (over1_0 s1 s2 s3 s4 s5 s6 g0 _ Bg0).mono ?_); rintro e w3 ⟨rfl, hl⟩; replace Bg0 := Bg0.below hl; replace Bg1 := Bg1.below hl; replace HS := HS.below hl; clear hl; have kg0_1 := Bg0.at 1 rfl))
 (try simp only [Act.put, zA_, z0_, z1_])
 go_cut [] (fun wc => ∃ (t0 t1 t2 t3 t4 t5 t6 : Int), (t0 = 1 ∨ t0 = 2) ∧ W64 t1 ∧ W64 t2 ∧ W64 t3 ∧ W64 t4 ∧ W64 t5 ∧ W64 t6 ∧ Blk wc g0 27 [.int .i64 t0, .int .u64 t1, .int .u64 t2, .int .u64 t3, .int .u64 t4, .int .u64 t5, .int .u64 t6] ∧ Blk wc g1 27 [.int .i64 0, .int .u64 0, .int .u64 0, .int .u64 0, .int .u64 0, .int .u64 0, .int .u64 0] ∧ Since w wc)
 case first =>
  rcases Bool.eq_false_or_eq_true (decide (s1 ≤ num)) with h0 | h0
  ·rcases Bool.eq_false_or_eq_true ((uAdd s6 1) == 5) with h1 | h1
   ·(try rw [h0])
    clear kg0_1; have kg0_3 := Bg0.at 3 rfl
    go_wp2_with (first | (refine seg_store rfl rfl 23 (.tmp 24) (.tmp 22) rfl g0 2 [.int .u64 s3] [.int .i64 1, .int .u64 s1, .int .u64 s3, .int .u64 s3, .int .u64 s4, .int .u64 s5, .int .u64 s6] (.int .u64 s3) rfl rfl rfl Bg0 (by kernel_rfl) (nle rfl) rfl rfl ?_; intro w4 hn hw; replace Bg1 := Bg1.grown hw Ng1_g0; replace HS := HS.grown hw GEg0; replace Bg0 := hn; clear hw; clear kg0_3; clear hn) | (refine seg_store rfl rfl 23 (.tmp 25) (.const (.int .u64 18446744073709551615)) rfl g0 3 [.int .u64 18446744073709551615] [.int .i64 1, .int .u64 s1, .int .u64 s3, .int .u64 18446744073709551615, .int .u64 s4, .int .u64 s5, .int .u64 s6] (.int .u64 18446744073709551615) rfl rfl rfl Bg0 (by kernel_rfl) (nle rfl) rfl rfl ?_; intro w5 hn hw; replace Bg1 := Bg1.grown hw Ng1_g0; replace HS := HS.grown hw GEg0; replace Bg0 := hn; clear hw; clear hn) | (refine seg_store rfl rfl 23 (.tmp 26) (.const (.int .u64 0)) rfl g0 4 [.int .u64 0] [.int .i64 1, .int .u64 s1, .int .u64 s3, .int .u64 18446744073709551615, .int .u64 0, .int .u64 s5, .int .u64 s6] (.int .u64 0) rfl rfl rfl Bg0 (by kernel_rfl) (nle rfl) rfl rfl ?_; intro w6 hn hw; replace Bg1 := Bg1.grown hw Ng1_g0; replace HS := HS.grown hw GEg0; replace Bg0 := hn; clear hw; clear hn) | (refine seg_store rfl rfl 23 (.tmp 27) (.tmp 23) rfl g0 1 [.int .u64 next] [.int .i64 1, .int .u64 next, .int .u64 s3, .int .u64 18446744073709551615, .int .u64 0, .int .u64 s5, .int .u64 s6] (.int .u64 next) rfl rfl rfl Bg0 (by kernel_rfl) (nle rfl) rfl rfl ?_; intro w7 hn hw; replace Bg1 := Bg1.grown hw Ng1_g0; replace HS := HS.grown hw GEg0; replace Bg0 := hn; clear hw; have kg0_0 := Bg0.at 0 rfl; have kg0_6 := Bg0.at 6 rfl; clear hn) | ((go_at_call 25); (with_reducible refine (fix_Add.C s6 1 Ws6 (by decide) _).mono ?_); rintro e w8 ⟨rfl, hd⟩; have hl := hd.below; clear hd; replace Bg0 := Bg0.below hl; replace Bg1 := Bg1.below hl; replace HS := HS.below hl; clear hl; clear kg0_0 kg0_6) | (refine seg_store rfl rfl 23 (.tmp 34) (.tmp 33) rfl g0 6 [.int .u64 (uAdd s6 1)] [.int .i64 1, .int .u64 next, .int .u64 s3, .int .u64 18446744073709551615, .int .u64 0, .int .u64 s5, .int .u64 (uAdd s6 1)] (.int .u64 (uAdd s6 1)) rfl rfl rfl Bg0 (by kernel_rfl) (nle rfl) rfl rfl ?_; intro w9 hn hw; replace Bg1 := Bg1.grown hw Ng1_g0; replace HS := HS.grown hw GEg0; replace Bg0 := hn; clear hw; have kg0_6 := Bg0.at 6 rfl; clear hn) | (refine seg_store rfl rfl 3 (.tmp 38) (.const (.int .i64 2)) rfl g0 0 [.int .i64 2] [.int .i64 2, .int .u64 next, .int .u64 s3, .int .u64 18446744073709551615, .int .u64 0, .int .u64 s5, .int .u64 (uAdd s6 1)] (.int .i64 2) rfl rfl rfl Bg0 (by kernel_rfl) (nle rfl) rfl rfl ?_; intro w10 hn hw; replace Bg1 := Bg1.grown hw Ng1_g0; replace HS := HS.grown hw GEg0; replace Bg0 := hn; clear hw; clear kg0_6; clear hn))
    all_goals go_meet
    case rel => exact ⟨_, _, _, _, _, _, _, by decide, Wnext, Ws3, (by decide), (by decide), Ws5, (uAdd_w Ws6 (by decide)), Bg0, Bg1, HS⟩
   ·(try rw [h0])
    clear kg0_1; have kg0_3 := Bg0.at 3 rfl
    go_wp2_with (first | (refine seg_store rfl rfl 23 (.tmp 24) (.tmp 22) rfl g0 2 [.int .u64 s3] [.int .i64 1, .int .u64 s1, .int .u64 s3, .int .u64 s3, .int .u64 s4, .int .u64 s5, .int .u64 s6] (.int .u64 s3) rfl rfl rfl Bg0 (by kernel_rfl) (nle rfl) rfl rfl ?_; intro w4 hn hw; replace Bg1 := Bg1.grown hw Ng1_g0; replace HS := HS.grown hw GEg0; replace Bg0 := hn; clear hw; clear kg0_3; clear hn) | (refine seg_store rfl rfl 23 (.tmp 25) (.const (.int .u64 18446744073709551615)) rfl g0 3 [.int .u64 18446744073709551615] [.int .i64 1, .int .u64 s1, .int .u64 s3, .int .u64 18446744073709551615, .int .u64 s4, .int .u64 s5, .int .u64 s6] (.int .u64 18446744073709551615) rfl rfl rfl Bg0 (by kernel_rfl) (nle rfl) rfl rfl ?_; intro w5 hn hw; replace Bg1 := Bg1.grown hw Ng1_g0; replace HS := HS.grown hw GEg0; replace Bg0 := hn; clear hw; clear hn) | (refine seg_store rfl rfl 23 (.tmp 26) (.const (.int .u64 0)) rfl g0 4 [.int .u64 0] [.int .i64 1, .int .u64 s1, .int .u64 s3, .int .u64 18446744073709551615, .int .u64 0, .int .u64 s5, .int .u64 s6] (.int .u64 0) rfl rfl rfl Bg0 (by kernel_rfl) (nle rfl) rfl rfl ?_; intro w6 hn hw; replace Bg1 := Bg1.grown hw Ng1_g0; replace HS := HS.grown hw GEg0; replace Bg0 := hn; clear hw; clear hn) | (refine seg_store rfl rfl 23 (.tmp 27) (.tmp 23) rfl g0 1 [.int .u64 next] [.int .i64 1, .int .u64 next, .int .u64 s3, .int .u64 18446744073709551615, .int .u64 0, .int .u64 s5, .int .u64 s6] (.int .u64 next) rfl rfl rfl Bg0 (by kernel_rfl) (nle rfl) rfl rfl ?_; intro w7 hn hw; replace Bg1 := Bg1.grown hw Ng1_g0; replace HS := HS.grown hw GEg0; replace Bg0 := hn; clear hw; have kg0_0 := Bg0.at 0 rfl; have kg0_6 := Bg0.at 6 rfl; clear hn) | ((go_at_call 25); (with_reducible refine (fix_Add.C s6 1 Ws6 (by decide) _).mono ?_); rintro e w8 ⟨rfl, hd⟩; have hl := hd.below; clear hd; replace Bg0 := Bg0.below hl; replace Bg1 := Bg1.below hl; replace HS := HS.below hl; clear hl; clear kg0_0 kg0_6) | (refine seg_store rfl rfl 23 (.tmp 34) (.tmp 33) rfl g0 6 [.int .u64 (uAdd s6 1)] [.int .i64 1, .int .u64 next, .int .u64 s3, .int .u64 18446744073709551615, .int .u64 0, .int .u64 s5, .int .u64 (uAdd s6 1)] (.int .u64 (uAdd s6 1)) rfl rfl rfl Bg0 (by kernel_rfl) (nle rfl) rfl rfl ?_; intro w9 hn hw; replace Bg1 := Bg1.grown hw Ng1_g0; replace HS := HS.grown hw GEg0; replace Bg0 := hn; clear hw; have kg0_6 := Bg0.at 6 rfl; clear hn))
    all_goals go_meet
    case rel => exact ⟨_, _, _, _, _, _, _, by decide, Wnext, Ws3, (by decide), (by decide), Ws5, (uAdd_w Ws6 (by decide)), Bg0, Bg1, HS⟩
  ·(try rw [h0])
   clear kg0_1
   go_wp2
   all_goals go_meet
   case rel => exact ⟨_, _, _, _, _, _, _, by decide, Ws1, Ws2, Ws3, Ws4, Ws5, Ws6, Bg0, Bg1, HS⟩
 case rest =>
  clear kg0_1 Bg0 Bg1 HS
  obtain ⟨t0, t1, t2, t3, t4, t5, t6, ht0, Wt1, Wt2, Wt3, Wt4, Wt5, Wt6, Bg0, Bg1, HS⟩ := hcut
  rcases ht0 with rfl | rfl
  ·rcases Bool.eq_false_or_eq_true (decide (uAdd t4 1 < 8)) with h0 | h0
   ·go_wp2_with (first | ((go_at_call 63); (with_reducible refine (over1_0 t1 t2 t3 t4 t5 t6 g0 _ Bg0).mono ?_); rintro e w61 ⟨rfl, hl⟩; replace Bg0 := Bg0.below hl; replace Bg1 := Bg1.below hl; replace HS := HS.below hl; clear hl; have kg0_3 := Bg0.at 3 rfl; have zg0_3 := Bg0.frozen 3; have kg0_4 := Bg0.at 4 rfl; have zg0_4 := Bg0.frozen 4))
    refine start_ (n := 11) (S := fun w' => w'.cell? ⟨g0, 3, none⟩ = some (.int .u64 t3) ∧ w'.cell? ⟨g0, 4, none⟩ = some (.int .u64 t4)) (ds := [8, 10]) (bs 11 0) (by kernel_rfl) rfl rfl ⟨((Bg0.drew.cell 3).trans rfl), ((Bg0.drew.cell 4).trans rfl)⟩ (fun hHeld => ?_)
    generalize hWd : World.drew w61 = w62 at hHeld ⊢
    have hl : Below w61.heap.size w61 w62 := (by rw [← hWd]; exact below_drew1 (Below.refl _ _))
    clear hWd
    replace Bg0 := Bg0.below hl; replace Bg1 := Bg1.below hl; replace HS := HS.below hl; clear hl; replace kg0_3 := Bg0.at 3 rfl; replace zg0_3 := Bg0.frozen 3; replace kg0_4 := Bg0.at 4 rfl; replace zg0_4 := Bg0.frozen 4
    refine pu 0 42 (.pointer (some ⟨g0, 3, none⟩)) 1 rfl rfl (by kernel_rfl) (fun _ _ _ h => h) (by rfl) (fun _ => by kernel_rfl) rfl ?_
    refine pu 2 44 (.int .u64 took) 5 rfl rfl (by kernel_rfl) (fun _ _ _ h => h) (by rfl) (fun _ => by kernel_rfl) rfl ?_
    refine pu 4 46 (.pointer (some ⟨g0, 4, none⟩)) 21 rfl rfl (by kernel_rfl) (fun _ _ _ h => h) (by rfl) (fun _ => by kernel_rfl) rfl ?_
    refine norm_ (a' := ?_) ?_ ?_
    rotate_left
    ·simp only [Act.put, zA_, z0_, z1_, i64_w, i32_w]
     rfl
    refine take_ (i := 1) (N := some 43) (v := ?_) (a' := ?_) (bs 11 23) rfl rfl (by kernel_rfl) (fun _ _ _ h => h) (Or.inl ⟨by rfl, ?_⟩) hHeld ?_ ?_
    rotate_left
    ·rintro w' ⟨s0, s1⟩
     go_simp
     with_reducible rfl
    rotate_left
    ·simp only [Act.put, zA_, z0_, z1_, i64_w, i32_w]
     rfl
    refine pure_ (i := 3) (N := some 45) (v := ?_) (a' := ?_) (bs 11 31) rfl rfl (by kernel_rfl) (fun _ _ _ h => h) (Or.inl ⟨by rfl, ?_⟩) ?_ ?_
    rotate_left
    ·intro w'
     go_simp
     with_reducible rfl
    rotate_left
    ·simp only [Act.put, zA_, z0_, z1_, i64_w, i32_w]
     rfl
    refine take_ (i := 5) (N := some 47) (v := ?_) (a' := ?_) (bs 11 63) rfl rfl (by kernel_rfl) (fun _ _ _ h => h) (Or.inl ⟨by rfl, ?_⟩) hHeld ?_ ?_
    rotate_left
    ·rintro w' ⟨s0, s1⟩
     go_simp
     with_reducible rfl
    rotate_left
    ·simp only [Act.put, zA_, z0_, z1_, i64_w, i32_w]
     rfl
    refine pu 7 49 (.pointer (some ⟨g0, 3, none⟩)) 191 rfl rfl (by kernel_rfl) (fun _ _ _ h => h) (by rfl) (fun _ => by kernel_rfl) rfl ?_
    refine norm_ (a' := ?_) ?_ ?_
    rotate_left
    ·simp only [Act.put, zA_, z0_, z1_, i64_w, i32_w]
     rfl
    refine one_ (i := 6) (N := some 48) (bs 11 255) rfl rfl (by kernel_rfl) (by decide) (fun K hK => ?_)
    refine goes_ Try.func25 (by kernel_rfl) rfl #[.int .u64 t4, .int .u64 1] (by rfl) rfl rfl (by simp only [List.map_toArray, List.map_cons, List.map_nil]; rfl) ?_
    with_reducible refine (fix_Add.C t4 1 Wt4 (by decide) _).mono ?_
    rintro e w63 ⟨rfl, hd⟩
    refine ⟨_, rfl, ?_⟩
    have hl := hd.below
    clear hd
    replace Bg0 := Bg0.below hl; replace Bg1 := Bg1.below hl; replace HS := HS.below hl; clear hl; replace kg0_3 := Bg0.at 3 rfl; replace zg0_3 := Bg0.frozen 3; replace kg0_4 := Bg0.at 4 rfl; replace zg0_4 := Bg0.frozen 4
    refine hK.out _ _ ⟨((Bg0.cell 3).trans rfl), ((Bg0.cell 4).trans rfl)⟩ (fun hHeld => ?_)
    clear hK K
    refine norm_ (a' := ?_) ?_ ?_
    rotate_left
    ·show Act.put _ (some 48) _ = _
     simp only [Act.put, zA_, z0_, z1_, i64_w, i32_w]
     rfl
    refine last_ (i := 8) (N := none) (bs 11 511) rfl rfl (by kernel_rfl) (by decide) (fun K hK => ?_)
    refine skip_ (w1 := ?_) (by rfl) rfl ?_ ?_
    rotate_left
    ·go_simp
     rfl
    refine hK.out _ _ ?_
    clear hK K
    refine pu 9 50 (.pointer (some ⟨g0, 4, none⟩)) 1023 rfl rfl (by kernel_rfl) (fun _ _ _ h => h) (by rfl) (fun _ => by kernel_rfl) rfl ?_
    refine norm_ (a' := ?_) ?_ ?_
    rotate_left
    ·simp only [Act.put, zA_, z0_, z1_, i64_w, i32_w]
     rfl
    refine last_ (i := 10) (N := none) (bs 11 2047) rfl rfl (by kernel_rfl) (by decide) (fun K hK => ?_)
    refine skip_ (w1 := ?_) (by rfl) rfl ?_ ?_
    rotate_left
    ·go_simp
     rfl
    refine hK.out _ _ ?_
    clear hK K
    refine done_ (by kernel_rfl) ?_
    refine letter ?_
    intro w64 hW
    have Bn_ : Blk w64 g0 27 [.int .i64 1, .int .u64 t1, .int .u64 t2, .int .u64 (min t3 took), .int .u64 (uAdd t4 1), .int .u64 t5, .int .u64 t6] := (by rw [hW]; (repeat (first | (with_reducible refine Blk.drewN ?_ _) | (with_reducible refine Blk.drew ?_))); refine Blk.set (l := [.int .i64 1, .int .u64 t1, .int .u64 t2, .int .u64 (min t3 took), .int .u64 t4, .int .u64 t5, .int .u64 t6]) ?_ 4 _ rfl; (repeat (first | (with_reducible refine Blk.drewN ?_ _) | (with_reducible refine Blk.drew ?_))); refine Blk.set (l := [.int .i64 1, .int .u64 t1, .int .u64 t2, .int .u64 t3, .int .u64 t4, .int .u64 t5, .int .u64 t6]) ?_ 3 _ rfl; (repeat (first | (with_reducible refine Blk.drewN ?_ _) | (with_reducible refine Blk.drew ?_))); exact Bg0)
    replace Bg0 := Bn_
    clear Bn_
    have Bn_ : Blk w64 g1 27 [.int .i64 0, .int .u64 0, .int .u64 0, .int .u64 0, .int .u64 0, .int .u64 0, .int .u64 0] := (by rw [hW]; (repeat (first | (with_reducible refine Blk.drewN ?_ _) | (with_reducible refine Blk.drew ?_))); refine Blk.setFar ?_ Ng1_g0; (repeat (first | (with_reducible refine Blk.drewN ?_ _) | (with_reducible refine Blk.drew ?_))); refine Blk.setFar ?_ Ng1_g0; (repeat (first | (with_reducible refine Blk.drewN ?_ _) | (with_reducible refine Blk.drew ?_))); exact Bg1)
    replace Bg1 := Bn_
    clear Bn_
    have HS_ : Since w w64 := (by rw [hW]; repeat (first | (with_reducible exact HS) | (with_reducible refine Since.drewN ?_ _) | (with_reducible refine Since.drew ?_) | (with_reducible refine Since.set ?_ GEg0)))
    replace HS := HS_
    clear HS_ hW
    clear kg0_3 zg0_3 zg0_4; replace kg0_4 := Bg0.at 4 rfl
    go_wp2_with (first | (refine seg_load rfl (N := 64) rfl 27 (.tmp 4) rfl g0 0 [.int .i64 1, .int .u64 t1, .int .u64 t2, .int .u64 (min t3 took), .int .u64 (uAdd t4 1), .int .u64 t5, .int .u64 t6] rfl Bg0 rfl Try.underlying27 rfl (by kernel_rfl) ?_) | (refine seg_store rfl rfl 27 (.tmp 8) (.tmp 64) rfl g1 0 [.int .i64 1, .int .u64 t1, .int .u64 t2, .int .u64 (min t3 took), .int .u64 (uAdd t4 1), .int .u64 t5, .int .u64 t6] [.int .i64 1, .int .u64 t1, .int .u64 t2, .int .u64 (min t3 took), .int .u64 (uAdd t4 1), .int .u64 t5, .int .u64 t6] (.agg #[.int .i64 1, .int .u64 t1, .int .u64 t2, .int .u64 (min t3 took), .int .u64 (uAdd t4 1), .int .u64 t5, .int .u64 t6]) rfl rfl rfl Bg1 (by kernel_rfl) (nle rfl) rfl rfl ?_; intro w65 hn hw; replace Bg0 := Bg0.grown hw Ng1_g0.symm; replace HS := HS.grown hw GEg1; replace Bg1 := hn; clear hw; clear kg0_4; clear hn))
    all_goals exact bodyPost_ret (results_cell1 rfl _ _ g1 27 [.int .i64 1, .int .u64 t1, .int .u64 t2, .int .u64 (min t3 took), .int .u64 (uAdd t4 1), .int .u64 t5, .int .u64 t6] _ rfl Bg1 Try.underlying27 rfl (by kernel_rfl)) rfl ⟨_, _, _, _, _, _, _, rfl, by decide, Wt1, Wt2, (min_w Wt3 Wtook), (uAdd_w Wt4 (by decide)), Wt5, Wt6, HS.out⟩
   ·rcases Bool.eq_false_or_eq_true ((min t3 took) == 18446744073709551615) with h1 | h1
    ·go_wp2_with (first | ((go_at_call 63); (with_reducible refine (over1_0 t1 t2 t3 t4 t5 t6 g0 _ Bg0).mono ?_); rintro e w61 ⟨rfl, hl⟩; replace Bg0 := Bg0.below hl; replace Bg1 := Bg1.below hl; replace HS := HS.below hl; clear hl; have kg0_3 := Bg0.at 3 rfl; have zg0_3 := Bg0.frozen 3; have kg0_4 := Bg0.at 4 rfl; have zg0_4 := Bg0.frozen 4))
     refine start_ (n := 11) (S := fun w' => w'.cell? ⟨g0, 3, none⟩ = some (.int .u64 t3) ∧ w'.cell? ⟨g0, 4, none⟩ = some (.int .u64 t4)) (ds := [8, 10]) (bs 11 0) (by kernel_rfl) rfl rfl ⟨((Bg0.drew.cell 3).trans rfl), ((Bg0.drew.cell 4).trans rfl)⟩ (fun hHeld => ?_)
     generalize hWd : World.drew w61 = w62 at hHeld ⊢
     have hl : Below w61.heap.size w61 w62 := (by rw [← hWd]; exact below_drew1 (Below.refl _ _))
     clear hWd
     replace Bg0 := Bg0.below hl; replace Bg1 := Bg1.below hl; replace HS := HS.below hl; clear hl; replace kg0_3 := Bg0.at 3 rfl; replace zg0_3 := Bg0.frozen 3; replace kg0_4 := Bg0.at 4 rfl; replace zg0_4 := Bg0.frozen 4
     refine pu 0 42 (.pointer (some ⟨g0, 3, none⟩)) 1 rfl rfl (by kernel_rfl) (fun _ _ _ h => h) (by rfl) (fun _ => by kernel_rfl) rfl ?_
     refine pu 2 44 (.int .u64 took) 5 rfl rfl (by kernel_rfl) (fun _ _ _ h => h) (by rfl) (fun _ => by kernel_rfl) rfl ?_
     refine pu 4 46 (.pointer (some ⟨g0, 4, none⟩)) 21 rfl rfl (by kernel_rfl) (fun _ _ _ h => h) (by rfl) (fun _ => by kernel_rfl) rfl ?_
     refine norm_ (a' := ?_) ?_ ?_
     rotate_left
     ·simp only [Act.put, zA_, z0_, z1_, i64_w, i32_w]
      rfl
     refine take_ (i := 1) (N := some 43) (v := ?_) (a' := ?_) (bs 11 23) rfl rfl (by kernel_rfl) (fun _ _ _ h => h) (Or.inl ⟨by rfl, ?_⟩) hHeld ?_ ?_
     rotate_left
     ·rintro w' ⟨s0, s1⟩
      go_simp
      with_reducible rfl
     rotate_left
     ·simp only [Act.put, zA_, z0_, z1_, i64_w, i32_w]
      rfl
     refine pure_ (i := 3) (N := some 45) (v := ?_) (a' := ?_) (bs 11 31) rfl rfl (by kernel_rfl) (fun _ _ _ h => h) (Or.inl ⟨by rfl, ?_⟩) ?_ ?_
     rotate_left
     ·intro w'
      go_simp
      with_reducible rfl
     rotate_left
     ·simp only [Act.put, zA_, z0_, z1_, i64_w, i32_w]
      rfl
     refine take_ (i := 5) (N := some 47) (v := ?_) (a' := ?_) (bs 11 63) rfl rfl (by kernel_rfl) (fun _ _ _ h => h) (Or.inl ⟨by rfl, ?_⟩) hHeld ?_ ?_
     rotate_left
     ·rintro w' ⟨s0, s1⟩
      go_simp
      with_reducible rfl
     rotate_left
     ·simp only [Act.put, zA_, z0_, z1_, i64_w, i32_w]
      rfl
     refine pu 7 49 (.pointer (some ⟨g0, 3, none⟩)) 191 rfl rfl (by kernel_rfl) (fun _ _ _ h => h) (by rfl) (fun _ => by kernel_rfl) rfl ?_
     refine norm_ (a' := ?_) ?_ ?_
     rotate_left
     ·simp only [Act.put, zA_, z0_, z1_, i64_w, i32_w]
      rfl
     refine one_ (i := 6) (N := some 48) (bs 11 255) rfl rfl (by kernel_rfl) (by decide) (fun K hK => ?_)
     refine goes_ Try.func25 (by kernel_rfl) rfl #[.int .u64 t4, .int .u64 1] (by rfl) rfl rfl (by simp only [List.map_toArray, List.map_cons, List.map_nil]; rfl) ?_
     with_reducible refine (fix_Add.C t4 1 Wt4 (by decide) _).mono ?_
     rintro e w63 ⟨rfl, hd⟩
     refine ⟨_, rfl, ?_⟩
     have hl := hd.below
     clear hd
     replace Bg0 := Bg0.below hl; replace Bg1 := Bg1.below hl; replace HS := HS.below hl; clear hl; replace kg0_3 := Bg0.at 3 rfl; replace zg0_3 := Bg0.frozen 3; replace kg0_4 := Bg0.at 4 rfl; replace zg0_4 := Bg0.frozen 4
     refine hK.out _ _ ⟨((Bg0.cell 3).trans rfl), ((Bg0.cell 4).trans rfl)⟩ (fun hHeld => ?_)
     clear hK K
     refine norm_ (a' := ?_) ?_ ?_
     rotate_left
     ·show Act.put _ (some 48) _ = _
      simp only [Act.put, zA_, z0_, z1_, i64_w, i32_w]
      rfl
     refine last_ (i := 8) (N := none) (bs 11 511) rfl rfl (by kernel_rfl) (by decide) (fun K hK => ?_)
     refine skip_ (w1 := ?_) (by rfl) rfl ?_ ?_
     rotate_left
     ·go_simp
      rfl
     refine hK.out _ _ ?_
     clear hK K
     refine pu 9 50 (.pointer (some ⟨g0, 4, none⟩)) 1023 rfl rfl (by kernel_rfl) (fun _ _ _ h => h) (by rfl) (fun _ => by kernel_rfl) rfl ?_
     refine norm_ (a' := ?_) ?_ ?_
     rotate_left
     ·simp only [Act.put, zA_, z0_, z1_, i64_w, i32_w]
      rfl
     refine last_ (i := 10) (N := none) (bs 11 2047) rfl rfl (by kernel_rfl) (by decide) (fun K hK => ?_)
     refine skip_ (w1 := ?_) (by rfl) rfl ?_ ?_
     rotate_left
     ·go_simp
      rfl
     refine hK.out _ _ ?_
     clear hK K
     refine done_ (by kernel_rfl) ?_
     refine letter ?_
     intro w64 hW
     have Bn_ : Blk w64 g0 27 [.int .i64 1, .int .u64 t1, .int .u64 t2, .int .u64 (min t3 took), .int .u64 (uAdd t4 1), .int .u64 t5, .int .u64 t6] := (by rw [hW]; (repeat (first | (with_reducible refine Blk.drewN ?_ _) | (with_reducible refine Blk.drew ?_))); refine Blk.set (l := [.int .i64 1, .int .u64 t1, .int .u64 t2, .int .u64 (min t3 took), .int .u64 t4, .int .u64 t5, .int .u64 t6]) ?_ 4 _ rfl; (repeat (first | (with_reducible refine Blk.drewN ?_ _) | (with_reducible refine Blk.drew ?_))); refine Blk.set (l := [.int .i64 1, .int .u64 t1, .int .u64 t2, .int .u64 t3, .int .u64 t4, .int .u64 t5, .int .u64 t6]) ?_ 3 _ rfl; (repeat (first | (with_reducible refine Blk.drewN ?_ _) | (with_reducible refine Blk.drew ?_))); exact Bg0)
     replace Bg0 := Bn_
     clear Bn_
     have Bn_ : Blk w64 g1 27 [.int .i64 0, .int .u64 0, .int .u64 0, .int .u64 0, .int .u64 0, .int .u64 0, .int .u64 0] := (by rw [hW]; (repeat (first | (with_reducible refine Blk.drewN ?_ _) | (with_reducible refine Blk.drew ?_))); refine Blk.setFar ?_ Ng1_g0; (repeat (first | (with_reducible refine Blk.drewN ?_ _) | (with_reducible refine Blk.drew ?_))); refine Blk.setFar ?_ Ng1_g0; (repeat (first | (with_reducible refine Blk.drewN ?_ _) | (with_reducible refine Blk.drew ?_))); exact Bg1)
     replace Bg1 := Bn_
     clear Bn_
     have HS_ : Since w w64 := (by rw [hW]; repeat (first | (with_reducible exact HS) | (with_reducible refine Since.drewN ?_ _) | (with_reducible refine Since.drew ?_) | (with_reducible refine Since.set ?_ GEg0)))
     replace HS := HS_
     clear HS_ hW
     clear zg0_3 zg0_4; replace kg0_3 := Bg0.at 3 rfl; replace kg0_4 := Bg0.at 4 rfl
     go_wp2_with (first | (refine seg_load rfl (N := 64) rfl 27 (.tmp 4) rfl g0 0 [.int .i64 1, .int .u64 t1, .int .u64 t2, .int .u64 (min t3 took), .int .u64 (uAdd t4 1), .int .u64 t5, .int .u64 t6] rfl Bg0 rfl Try.underlying27 rfl (by kernel_rfl) ?_) | (refine seg_store rfl rfl 27 (.tmp 8) (.tmp 64) rfl g1 0 [.int .i64 1, .int .u64 t1, .int .u64 t2, .int .u64 (min t3 took), .int .u64 (uAdd t4 1), .int .u64 t5, .int .u64 t6] [.int .i64 1, .int .u64 t1, .int .u64 t2, .int .u64 (min t3 took), .int .u64 (uAdd t4 1), .int .u64 t5, .int .u64 t6] (.agg #[.int .i64 1, .int .u64 t1, .int .u64 t2, .int .u64 (min t3 took), .int .u64 (uAdd t4 1), .int .u64 t5, .int .u64 t6]) rfl rfl rfl Bg1 (by kernel_rfl) (nle rfl) rfl rfl ?_; intro w65 hn hw; replace Bg0 := Bg0.grown hw Ng1_g0.symm; replace HS := HS.grown hw GEg1; replace Bg1 := hn; clear hw; clear kg0_3 kg0_4; clear hn))
     all_goals exact bodyPost_ret (results_cell1 rfl _ _ g1 27 [.int .i64 1, .int .u64 t1, .int .u64 t2, .int .u64 (min t3 took), .int .u64 (uAdd t4 1), .int .u64 t5, .int .u64 t6] _ rfl Bg1 Try.underlying27 rfl (by kernel_rfl)) rfl ⟨_, _, _, _, _, _, _, rfl, by decide, Wt1, Wt2, (min_w Wt3 Wtook), (uAdd_w Wt4 (by decide)), Wt5, Wt6, HS.out⟩
    ·rcases Bool.eq_false_or_eq_true (t2 == 18446744073709551615) with h2 | h2
     ·go_wp2_with (first | ((go_at_call 63); (with_reducible refine (over1_0 t1 t2 t3 t4 t5 t6 g0 _ Bg0).mono ?_); rintro e w61 ⟨rfl, hl⟩; replace Bg0 := Bg0.below hl; replace Bg1 := Bg1.below hl; replace HS := HS.below hl; clear hl; have kg0_3 := Bg0.at 3 rfl; have zg0_3 := Bg0.frozen 3; have kg0_4 := Bg0.at 4 rfl; have zg0_4 := Bg0.frozen 4))
      refine start_ (n := 11) (S := fun w' => w'.cell? ⟨g0, 3, none⟩ = some (.int .u64 t3) ∧ w'.cell? ⟨g0, 4, none⟩ = some (.int .u64 t4)) (ds := [8, 10]) (bs 11 0) (by kernel_rfl) rfl rfl ⟨((Bg0.drew.cell 3).trans rfl), ((Bg0.drew.cell 4).trans rfl)⟩ (fun hHeld => ?_)
      generalize hWd : World.drew w61 = w62 at hHeld ⊢
      have hl : Below w61.heap.size w61 w62 := (by rw [← hWd]; exact below_drew1 (Below.refl _ _))
      clear hWd
      replace Bg0 := Bg0.below hl; replace Bg1 := Bg1.below hl; replace HS := HS.below hl; clear hl; replace kg0_3 := Bg0.at 3 rfl; replace zg0_3 := Bg0.frozen 3; replace kg0_4 := Bg0.at 4 rfl; replace zg0_4 := Bg0.frozen 4
      refine pu 0 42 (.pointer (some ⟨g0, 3, none⟩)) 1 rfl rfl (by kernel_rfl) (fun _ _ _ h => h) (by rfl) (fun _ => by kernel_rfl) rfl ?_
      refine pu 2 44 (.int .u64 took) 5 rfl rfl (by kernel_rfl) (fun _ _ _ h => h) (by rfl) (fun _ => by kernel_rfl) rfl ?_
      refine pu 4 46 (.pointer (some ⟨g0, 4, none⟩)) 21 rfl rfl (by kernel_rfl) (fun _ _ _ h => h) (by rfl) (fun _ => by kernel_rfl) rfl ?_
      refine norm_ (a' := ?_) ?_ ?_
      rotate_left
      ·simp only [Act.put, zA_, z0_, z1_, i64_w, i32_w]
       rfl
      refine take_ (i := 1) (N := some 43) (v := ?_) (a' := ?_) (bs 11 23) rfl rfl (by kernel_rfl) (fun _ _ _ h => h) (Or.inl ⟨by rfl, ?_⟩) hHeld ?_ ?_
      rotate_left
      ·rintro w' ⟨s0, s1⟩
       go_simp
       with_reducible rfl
      rotate_left
      ·simp only [Act.put, zA_, z0_, z1_, i64_w, i32_w]
       rfl
      refine pure_ (i := 3) (N := some 45) (v := ?_) (a' := ?_) (bs 11 31) rfl rfl (by kernel_rfl) (fun _ _ _ h => h) (Or.inl ⟨by rfl, ?_⟩) ?_ ?_
      rotate_left
      ·intro w'
       go_simp
       with_reducible rfl
      rotate_left
      ·simp only [Act.put, zA_, z0_, z1_, i64_w, i32_w]
       rfl
      refine take_ (i := 5) (N := some 47) (v := ?_) (a' := ?_) (bs 11 63) rfl rfl (by kernel_rfl) (fun _ _ _ h => h) (Or.inl ⟨by rfl, ?_⟩) hHeld ?_ ?_
      rotate_left
      ·rintro w' ⟨s0, s1⟩
       go_simp
       with_reducible rfl
      rotate_left
      ·simp only [Act.put, zA_, z0_, z1_, i64_w, i32_w]
       rfl
      refine pu 7 49 (.pointer (some ⟨g0, 3, none⟩)) 191 rfl rfl (by kernel_rfl) (fun _ _ _ h => h) (by rfl) (fun _ => by kernel_rfl) rfl ?_
      refine norm_ (a' := ?_) ?_ ?_
      rotate_left
      ·simp only [Act.put, zA_, z0_, z1_, i64_w, i32_w]
       rfl
      refine one_ (i := 6) (N := some 48) (bs 11 255) rfl rfl (by kernel_rfl) (by decide) (fun K hK => ?_)
      refine goes_ Try.func25 (by kernel_rfl) rfl #[.int .u64 t4, .int .u64 1] (by rfl) rfl rfl (by simp only [List.map_toArray, List.map_cons, List.map_nil]; rfl) ?_
      with_reducible refine (fix_Add.C t4 1 Wt4 (by decide) _).mono ?_
      rintro e w63 ⟨rfl, hd⟩
      refine ⟨_, rfl, ?_⟩
      have hl := hd.below
      clear hd
      replace Bg0 := Bg0.below hl; replace Bg1 := Bg1.below hl; replace HS := HS.below hl; clear hl; replace kg0_3 := Bg0.at 3 rfl; replace zg0_3 := Bg0.frozen 3; replace kg0_4 := Bg0.at 4 rfl; replace zg0_4 := Bg0.frozen 4
      refine hK.out _ _ ⟨((Bg0.cell 3).trans rfl), ((Bg0.cell 4).trans rfl)⟩ (fun hHeld => ?_)
      clear hK K
      refine norm_ (a' := ?_) ?_ ?_
      rotate_left
      ·show Act.put _ (some 48) _ = _
       simp only [Act.put, zA_, z0_, z1_, i64_w, i32_w]
       rfl
      refine last_ (i := 8) (N := none) (bs 11 511) rfl rfl (by kernel_rfl) (by decide) (fun K hK => ?_)
      refine skip_ (w1 := ?_) (by rfl) rfl ?_ ?_
      rotate_left
      ·go_simp
       rfl
      refine hK.out _ _ ?_
      clear hK K
      refine pu 9 50 (.pointer (some ⟨g0, 4, none⟩)) 1023 rfl rfl (by kernel_rfl) (fun _ _ _ h => h) (by rfl) (fun _ => by kernel_rfl) rfl ?_
      refine norm_ (a' := ?_) ?_ ?_
      rotate_left
      ·simp only [Act.put, zA_, z0_, z1_, i64_w, i32_w]
       rfl
      refine last_ (i := 10) (N := none) (bs 11 2047) rfl rfl (by kernel_rfl) (by decide) (fun K hK => ?_)
      refine skip_ (w1 := ?_) (by rfl) rfl ?_ ?_
      rotate_left
      ·go_simp
       rfl
      refine hK.out _ _ ?_
      clear hK K
      refine done_ (by kernel_rfl) ?_
      refine letter ?_
      intro w64 hW
      have Bn_ : Blk w64 g0 27 [.int .i64 1, .int .u64 t1, .int .u64 t2, .int .u64 (min t3 took), .int .u64 (uAdd t4 1), .int .u64 t5, .int .u64 t6] := (by rw [hW]; (repeat (first | (with_reducible refine Blk.drewN ?_ _) | (with_reducible refine Blk.drew ?_))); refine Blk.set (l := [.int .i64 1, .int .u64 t1, .int .u64 t2, .int .u64 (min t3 took), .int .u64 t4, .int .u64 t5, .int .u64 t6]) ?_ 4 _ rfl; (repeat (first | (with_reducible refine Blk.drewN ?_ _) | (with_reducible refine Blk.drew ?_))); refine Blk.set (l := [.int .i64 1, .int .u64 t1, .int .u64 t2, .int .u64 t3, .int .u64 t4, .int .u64 t5, .int .u64 t6]) ?_ 3 _ rfl; (repeat (first | (with_reducible refine Blk.drewN ?_ _) | (with_reducible refine Blk.drew ?_))); exact Bg0)
      replace Bg0 := Bn_
      clear Bn_
      have Bn_ : Blk w64 g1 27 [.int .i64 0, .int .u64 0, .int .u64 0, .int .u64 0, .int .u64 0, .int .u64 0, .int .u64 0] := (by rw [hW]; (repeat (first | (with_reducible refine Blk.drewN ?_ _) | (with_reducible refine Blk.drew ?_))); refine Blk.setFar ?_ Ng1_g0; (repeat (first | (with_reducible refine Blk.drewN ?_ _) | (with_reducible refine Blk.drew ?_))); refine Blk.setFar ?_ Ng1_g0; (repeat (first | (with_reducible refine Blk.drewN ?_ _) | (with_reducible refine Blk.drew ?_))); exact Bg1)
      replace Bg1 := Bn_
      clear Bn_
      have HS_ : Since w w64 := (by rw [hW]; repeat (first | (with_reducible exact HS) | (with_reducible refine Since.drewN ?_ _) | (with_reducible refine Since.drew ?_) | (with_reducible refine Since.set ?_ GEg0)))
      replace HS := HS_
      clear HS_ hW
      clear zg0_3 zg0_4; have kg0_2 := Bg0.at 2 rfl; replace kg0_3 := Bg0.at 3 rfl; replace kg0_4 := Bg0.at 4 rfl
      go_wp2_with (first | (refine seg_load rfl (N := 64) rfl 27 (.tmp 4) rfl g0 0 [.int .i64 1, .int .u64 t1, .int .u64 t2, .int .u64 (min t3 took), .int .u64 (uAdd t4 1), .int .u64 t5, .int .u64 t6] rfl Bg0 rfl Try.underlying27 rfl (by kernel_rfl) ?_) | (refine seg_store rfl rfl 27 (.tmp 8) (.tmp 64) rfl g1 0 [.int .i64 1, .int .u64 t1, .int .u64 t2, .int .u64 (min t3 took), .int .u64 (uAdd t4 1), .int .u64 t5, .int .u64 t6] [.int .i64 1, .int .u64 t1, .int .u64 t2, .int .u64 (min t3 took), .int .u64 (uAdd t4 1), .int .u64 t5, .int .u64 t6] (.agg #[.int .i64 1, .int .u64 t1, .int .u64 t2, .int .u64 (min t3 took), .int .u64 (uAdd t4 1), .int .u64 t5, .int .u64 t6]) rfl rfl rfl Bg1 (by kernel_rfl) (nle rfl) rfl rfl ?_; intro w65 hn hw; replace Bg0 := Bg0.grown hw Ng1_g0.symm; replace HS := HS.grown hw GEg1; replace Bg1 := hn; clear hw; clear kg0_2 kg0_3 kg0_4; clear hn))
      all_goals exact bodyPost_ret (results_cell1 rfl _ _ g1 27 [.int .i64 1, .int .u64 t1, .int .u64 t2, .int .u64 (min t3 took), .int .u64 (uAdd t4 1), .int .u64 t5, .int .u64 t6] _ rfl Bg1 Try.underlying27 rfl (by kernel_rfl)) rfl ⟨_, _, _, _, _, _, _, rfl, by decide, Wt1, Wt2, (min_w Wt3 Wtook), (uAdd_w Wt4 (by decide)), Wt5, Wt6, HS.out⟩
     ·rcases Bool.eq_false_or_eq_true (decide (min t3 took < t5)) with h3 | h3
      ·have q0 : IntKind.u64.wrap (Int.tdiv t2 8) = t2 / 8 := wdiv Wt2 8 (by decide)
       go_wp2_with (first | ((go_at_call 63); (with_reducible refine (over1_0 t1 t2 t3 t4 t5 t6 g0 _ Bg0).mono ?_); rintro e w61 ⟨rfl, hl⟩; replace Bg0 := Bg0.below hl; replace Bg1 := Bg1.below hl; replace HS := HS.below hl; clear hl; have kg0_3 := Bg0.at 3 rfl; have zg0_3 := Bg0.frozen 3; have kg0_4 := Bg0.at 4 rfl; have zg0_4 := Bg0.frozen 4))
       refine start_ (n := 11) (S := fun w' => w'.cell? ⟨g0, 3, none⟩ = some (.int .u64 t3) ∧ w'.cell? ⟨g0, 4, none⟩ = some (.int .u64 t4)) (ds := [8, 10]) (bs 11 0) (by kernel_rfl) rfl rfl ⟨((Bg0.drew.cell 3).trans rfl), ((Bg0.drew.cell 4).trans rfl)⟩ (fun hHeld => ?_)
       generalize hWd : World.drew w61 = w62 at hHeld ⊢
       have hl : Below w61.heap.size w61 w62 := (by rw [← hWd]; exact below_drew1 (Below.refl _ _))
       clear hWd
       replace Bg0 := Bg0.below hl; replace Bg1 := Bg1.below hl; replace HS := HS.below hl; clear hl; replace kg0_3 := Bg0.at 3 rfl; replace zg0_3 := Bg0.frozen 3; replace kg0_4 := Bg0.at 4 rfl; replace zg0_4 := Bg0.frozen 4
       refine pu 0 42 (.pointer (some ⟨g0, 3, none⟩)) 1 rfl rfl (by kernel_rfl) (fun _ _ _ h => h) (by rfl) (fun _ => by kernel_rfl) rfl ?_
       refine pu 2 44 (.int .u64 took) 5 rfl rfl (by kernel_rfl) (fun _ _ _ h => h) (by rfl) (fun _ => by kernel_rfl) rfl ?_
       refine pu 4 46 (.pointer (some ⟨g0, 4, none⟩)) 21 rfl rfl (by kernel_rfl) (fun _ _ _ h => h) (by rfl) (fun _ => by kernel_rfl) rfl ?_
       refine norm_ (a' := ?_) ?_ ?_
       rotate_left
       ·simp only [Act.put, zA_, z0_, z1_, i64_w, i32_w]
        rfl
       refine take_ (i := 1) (N := some 43) (v := ?_) (a' := ?_) (bs 11 23) rfl rfl (by kernel_rfl) (fun _ _ _ h => h) (Or.inl ⟨by rfl, ?_⟩) hHeld ?_ ?_
       rotate_left
       ·rintro w' ⟨s0, s1⟩
        go_simp
        with_reducible rfl
       rotate_left
       ·simp only [Act.put, zA_, z0_, z1_, i64_w, i32_w]
        rfl
       refine pure_ (i := 3) (N := some 45) (v := ?_) (a' := ?_) (bs 11 31) rfl rfl (by kernel_rfl) (fun _ _ _ h => h) (Or.inl ⟨by rfl, ?_⟩) ?_ ?_
       rotate_left
       ·intro w'
        go_simp
        with_reducible rfl
       rotate_left
       ·simp only [Act.put, zA_, z0_, z1_, i64_w, i32_w]
        rfl
       refine take_ (i := 5) (N := some 47) (v := ?_) (a' := ?_) (bs 11 63) rfl rfl (by kernel_rfl) (fun _ _ _ h => h) (Or.inl ⟨by rfl, ?_⟩) hHeld ?_ ?_
       rotate_left
       ·rintro w' ⟨s0, s1⟩
        go_simp
        with_reducible rfl
       rotate_left
       ·simp only [Act.put, zA_, z0_, z1_, i64_w, i32_w]
        rfl
       refine pu 7 49 (.pointer (some ⟨g0, 3, none⟩)) 191 rfl rfl (by kernel_rfl) (fun _ _ _ h => h) (by rfl) (fun _ => by kernel_rfl) rfl ?_
       refine norm_ (a' := ?_) ?_ ?_
       rotate_left
       ·simp only [Act.put, zA_, z0_, z1_, i64_w, i32_w]
        rfl
       refine one_ (i := 6) (N := some 48) (bs 11 255) rfl rfl (by kernel_rfl) (by decide) (fun K hK => ?_)
       refine goes_ Try.func25 (by kernel_rfl) rfl #[.int .u64 t4, .int .u64 1] (by rfl) rfl rfl (by simp only [List.map_toArray, List.map_cons, List.map_nil]; rfl) ?_
       with_reducible refine (fix_Add.C t4 1 Wt4 (by decide) _).mono ?_
       rintro e w63 ⟨rfl, hd⟩
       refine ⟨_, rfl, ?_⟩
       have hl := hd.below
       clear hd
       replace Bg0 := Bg0.below hl; replace Bg1 := Bg1.below hl; replace HS := HS.below hl; clear hl; replace kg0_3 := Bg0.at 3 rfl; replace zg0_3 := Bg0.frozen 3; replace kg0_4 := Bg0.at 4 rfl; replace zg0_4 := Bg0.frozen 4
       refine hK.out _ _ ⟨((Bg0.cell 3).trans rfl), ((Bg0.cell 4).trans rfl)⟩ (fun hHeld => ?_)
       clear hK K
       refine norm_ (a' := ?_) ?_ ?_
       rotate_left
       ·show Act.put _ (some 48) _ = _
        simp only [Act.put, zA_, z0_, z1_, i64_w, i32_w]
        rfl
       refine last_ (i := 8) (N := none) (bs 11 511) rfl rfl (by kernel_rfl) (by decide) (fun K hK => ?_)
       refine skip_ (w1 := ?_) (by rfl) rfl ?_ ?_
       rotate_left
       ·go_simp
        rfl
       refine hK.out _ _ ?_
       clear hK K
       refine pu 9 50 (.pointer (some ⟨g0, 4, none⟩)) 1023 rfl rfl (by kernel_rfl) (fun _ _ _ h => h) (by rfl) (fun _ => by kernel_rfl) rfl ?_
       refine norm_ (a' := ?_) ?_ ?_
       rotate_left
       ·simp only [Act.put, zA_, z0_, z1_, i64_w, i32_w]
        rfl
       refine last_ (i := 10) (N := none) (bs 11 2047) rfl rfl (by kernel_rfl) (by decide) (fun K hK => ?_)
       refine skip_ (w1 := ?_) (by rfl) rfl ?_ ?_
       rotate_left
       ·go_simp
        rfl
       refine hK.out _ _ ?_
       clear hK K
       refine done_ (by kernel_rfl) ?_
       refine letter ?_
       intro w64 hW
       have Bn_ : Blk w64 g0 27 [.int .i64 1, .int .u64 t1, .int .u64 t2, .int .u64 (min t3 took), .int .u64 (uAdd t4 1), .int .u64 t5, .int .u64 t6] := (by rw [hW]; (repeat (first | (with_reducible refine Blk.drewN ?_ _) | (with_reducible refine Blk.drew ?_))); refine Blk.set (l := [.int .i64 1, .int .u64 t1, .int .u64 t2, .int .u64 (min t3 took), .int .u64 t4, .int .u64 t5, .int .u64 t6]) ?_ 4 _ rfl; (repeat (first | (with_reducible refine Blk.drewN ?_ _) | (with_reducible refine Blk.drew ?_))); refine Blk.set (l := [.int .i64 1, .int .u64 t1, .int .u64 t2, .int .u64 t3, .int .u64 t4, .int .u64 t5, .int .u64 t6]) ?_ 3 _ rfl; (repeat (first | (with_reducible refine Blk.drewN ?_ _) | (with_reducible refine Blk.drew ?_))); exact Bg0)
       replace Bg0 := Bn_
       clear Bn_
       have Bn_ : Blk w64 g1 27 [.int .i64 0, .int .u64 0, .int .u64 0, .int .u64 0, .int .u64 0, .int .u64 0, .int .u64 0] := (by rw [hW]; (repeat (first | (with_reducible refine Blk.drewN ?_ _) | (with_reducible refine Blk.drew ?_))); refine Blk.setFar ?_ Ng1_g0; (repeat (first | (with_reducible refine Blk.drewN ?_ _) | (with_reducible refine Blk.drew ?_))); refine Blk.setFar ?_ Ng1_g0; (repeat (first | (with_reducible refine Blk.drewN ?_ _) | (with_reducible refine Blk.drew ?_))); exact Bg1)
       replace Bg1 := Bn_
       clear Bn_
       have HS_ : Since w w64 := (by rw [hW]; repeat (first | (with_reducible exact HS) | (with_reducible refine Since.drewN ?_ _) | (with_reducible refine Since.drew ?_) | (with_reducible refine Since.set ?_ GEg0)))
       replace HS := HS_
       clear HS_ hW
       clear zg0_3 zg0_4; have kg0_0 := Bg0.at 0 rfl; have kg0_2 := Bg0.at 2 rfl; replace kg0_3 := Bg0.at 3 rfl; replace kg0_4 := Bg0.at 4 rfl
       go_wp2
       all_goals go_quiet (fail)
       all_goals (generalize hW : World.drewN w64 _ = w65; have hl : Below w64.heap.size w64 w65 := (by rw [← hW]; exact pw_below_drewN (Below.refl _ _) _); clear hW; replace Bg0 := Bg0.below hl; replace Bg1 := Bg1.below hl; replace HS := HS.below hl; clear hl; clear kg0_2 kg0_4; replace kg0_0 := Bg0.at 0 rfl; replace kg0_3 := Bg0.at 3 rfl; have kg0_5 := Bg0.at 5 rfl)
       go_wp2_with (first | (refine seg_store rfl rfl 3 (.tmp 99) (.const (.int .i64 0)) rfl g0 0 [.int .i64 0] [.int .i64 0, .int .u64 t1, .int .u64 t2, .int .u64 (min t3 took), .int .u64 (uAdd t4 1), .int .u64 t5, .int .u64 t6] (.int .i64 0) rfl rfl rfl Bg0 (by kernel_rfl) (nle rfl) rfl rfl ?_; intro w66 hn hw; replace Bg1 := Bg1.grown hw Ng1_g0; replace HS := HS.grown hw GEg0; replace Bg0 := hn; clear hw; clear kg0_0 kg0_3 kg0_5; clear hn) | (refine seg_store rfl rfl 23 (.tmp 100) (.const (.int .u64 18446744073709551615)) rfl g0 5 [.int .u64 18446744073709551615] [.int .i64 0, .int .u64 t1, .int .u64 t2, .int .u64 (min t3 took), .int .u64 (uAdd t4 1), .int .u64 18446744073709551615, .int .u64 t6] (.int .u64 18446744073709551615) rfl rfl rfl Bg0 (by kernel_rfl) (nle rfl) rfl rfl ?_; intro w67 hn hw; replace Bg1 := Bg1.grown hw Ng1_g0; replace HS := HS.grown hw GEg0; replace Bg0 := hn; clear hw; clear hn) | (refine seg_load rfl (N := 101) rfl 27 (.tmp 4) rfl g0 0 [.int .i64 0, .int .u64 t1, .int .u64 t2, .int .u64 (min t3 took), .int .u64 (uAdd t4 1), .int .u64 18446744073709551615, .int .u64 t6] rfl Bg0 rfl Try.underlying27 rfl (by kernel_rfl) ?_) | (refine seg_store rfl rfl 27 (.tmp 8) (.tmp 101) rfl g1 0 [.int .i64 0, .int .u64 t1, .int .u64 t2, .int .u64 (min t3 took), .int .u64 (uAdd t4 1), .int .u64 18446744073709551615, .int .u64 t6] [.int .i64 0, .int .u64 t1, .int .u64 t2, .int .u64 (min t3 took), .int .u64 (uAdd t4 1), .int .u64 18446744073709551615, .int .u64 t6] (.agg #[.int .i64 0, .int .u64 t1, .int .u64 t2, .int .u64 (min t3 took), .int .u64 (uAdd t4 1), .int .u64 18446744073709551615, .int .u64 t6]) rfl rfl rfl Bg1 (by kernel_rfl) (nle rfl) rfl rfl ?_; intro w68 hn hw; replace Bg0 := Bg0.grown hw Ng1_g0.symm; replace HS := HS.grown hw GEg1; replace Bg1 := hn; clear hw; clear hn))
       all_goals exact bodyPost_ret (results_cell1 rfl _ _ g1 27 [.int .i64 0, .int .u64 t1, .int .u64 t2, .int .u64 (min t3 took), .int .u64 (uAdd t4 1), .int .u64 18446744073709551615, .int .u64 t6] _ rfl Bg1 Try.underlying27 rfl (by kernel_rfl)) rfl ⟨_, _, _, _, _, _, _, rfl, by decide, Wt1, Wt2, (min_w Wt3 Wtook), (uAdd_w Wt4 (by decide)), (by decide), Wt6, HS.out⟩
      ·have q0 : IntKind.u64.wrap (Int.tdiv t2 8) = t2 / 8 := wdiv Wt2 8 (by decide)
       go_wp2_with (first | ((go_at_call 63); (with_reducible refine (over1_0 t1 t2 t3 t4 t5 t6 g0 _ Bg0).mono ?_); rintro e w61 ⟨rfl, hl⟩; replace Bg0 := Bg0.below hl; replace Bg1 := Bg1.below hl; replace HS := HS.below hl; clear hl; have kg0_3 := Bg0.at 3 rfl; have zg0_3 := Bg0.frozen 3; have kg0_4 := Bg0.at 4 rfl; have zg0_4 := Bg0.frozen 4))
       refine start_ (n := 11) (S := fun w' => w'.cell? ⟨g0, 3, none⟩ = some (.int .u64 t3) ∧ w'.cell? ⟨g0, 4, none⟩ = some (.int .u64 t4)) (ds := [8, 10]) (bs 11 0) (by kernel_rfl) rfl rfl ⟨((Bg0.drew.cell 3).trans rfl), ((Bg0.drew.cell 4).trans rfl)⟩ (fun hHeld => ?_)
       generalize hWd : World.drew w61 = w62 at hHeld ⊢
       have hl : Below w61.heap.size w61 w62 := (by rw [← hWd]; exact below_drew1 (Below.refl _ _))
       clear hWd
       replace Bg0 := Bg0.below hl; replace Bg1 := Bg1.below hl; replace HS := HS.below hl; clear hl; replace kg0_3 := Bg0.at 3 rfl; replace zg0_3 := Bg0.frozen 3; replace kg0_4 := Bg0.at 4 rfl; replace zg0_4 := Bg0.frozen 4
       refine pu 0 42 (.pointer (some ⟨g0, 3, none⟩)) 1 rfl rfl (by kernel_rfl) (fun _ _ _ h => h) (by rfl) (fun _ => by kernel_rfl) rfl ?_
       refine pu 2 44 (.int .u64 took) 5 rfl rfl (by kernel_rfl) (fun _ _ _ h => h) (by rfl) (fun _ => by kernel_rfl) rfl ?_
       refine pu 4 46 (.pointer (some ⟨g0, 4, none⟩)) 21 rfl rfl (by kernel_rfl) (fun _ _ _ h => h) (by rfl) (fun _ => by kernel_rfl) rfl ?_
       refine norm_ (a' := ?_) ?_ ?_
       rotate_left
       ·simp only [Act.put, zA_, z0_, z1_, i64_w, i32_w]
        rfl
       refine take_ (i := 1) (N := some 43) (v := ?_) (a' := ?_) (bs 11 23) rfl rfl (by kernel_rfl) (fun _ _ _ h => h) (Or.inl ⟨by rfl, ?_⟩) hHeld ?_ ?_
       rotate_left
       ·rintro w' ⟨s0, s1⟩
        go_simp
        with_reducible rfl
       rotate_left
       ·simp only [Act.put, zA_, z0_, z1_, i64_w, i32_w]
        rfl
       refine pure_ (i := 3) (N := some 45) (v := ?_) (a' := ?_) (bs 11 31) rfl rfl (by kernel_rfl) (fun _ _ _ h => h) (Or.inl ⟨by rfl, ?_⟩) ?_ ?_
       rotate_left
       ·intro w'
        go_simp
        with_reducible rfl
       rotate_left
       ·simp only [Act.put, zA_, z0_, z1_, i64_w, i32_w]
        rfl
       refine take_ (i := 5) (N := some 47) (v := ?_) (a' := ?_) (bs 11 63) rfl rfl (by kernel_rfl) (fun _ _ _ h => h) (Or.inl ⟨by rfl, ?_⟩) hHeld ?_ ?_
       rotate_left
       ·rintro w' ⟨s0, s1⟩
        go_simp
        with_reducible rfl
       rotate_left
       ·simp only [Act.put, zA_, z0_, z1_, i64_w, i32_w]
        rfl
       refine pu 7 49 (.pointer (some ⟨g0, 3, none⟩)) 191 rfl rfl (by kernel_rfl) (fun _ _ _ h => h) (by rfl) (fun _ => by kernel_rfl) rfl ?_
       refine norm_ (a' := ?_) ?_ ?_
       rotate_left
       ·simp only [Act.put, zA_, z0_, z1_, i64_w, i32_w]
        rfl
       refine one_ (i := 6) (N := some 48) (bs 11 255) rfl rfl (by kernel_rfl) (by decide) (fun K hK => ?_)
       refine goes_ Try.func25 (by kernel_rfl) rfl #[.int .u64 t4, .int .u64 1] (by rfl) rfl rfl (by simp only [List.map_toArray, List.map_cons, List.map_nil]; rfl) ?_
       with_reducible refine (fix_Add.C t4 1 Wt4 (by decide) _).mono ?_
       rintro e w63 ⟨rfl, hd⟩
       refine ⟨_, rfl, ?_⟩
       have hl := hd.below
       clear hd
       replace Bg0 := Bg0.below hl; replace Bg1 := Bg1.below hl; replace HS := HS.below hl; clear hl; replace kg0_3 := Bg0.at 3 rfl; replace zg0_3 := Bg0.frozen 3; replace kg0_4 := Bg0.at 4 rfl; replace zg0_4 := Bg0.frozen 4
       refine hK.out _ _ ⟨((Bg0.cell 3).trans rfl), ((Bg0.cell 4).trans rfl)⟩ (fun hHeld => ?_)
       clear hK K
       refine norm_ (a' := ?_) ?_ ?_
       rotate_left
       ·show Act.put _ (some 48) _ = _
        simp only [Act.put, zA_, z0_, z1_, i64_w, i32_w]
        rfl
       refine last_ (i := 8) (N := none) (bs 11 511) rfl rfl (by kernel_rfl) (by decide) (fun K hK => ?_)
       refine skip_ (w1 := ?_) (by rfl) rfl ?_ ?_
       rotate_left
       ·go_simp
        rfl
       refine hK.out _ _ ?_
       clear hK K
       refine pu 9 50 (.pointer (some ⟨g0, 4, none⟩)) 1023 rfl rfl (by kernel_rfl) (fun _ _ _ h => h) (by rfl) (fun _ => by kernel_rfl) rfl ?_
       refine norm_ (a' := ?_) ?_ ?_
       rotate_left
       ·simp only [Act.put, zA_, z0_, z1_, i64_w, i32_w]
        rfl
       refine last_ (i := 10) (N := none) (bs 11 2047) rfl rfl (by kernel_rfl) (by decide) (fun K hK => ?_)
       refine skip_ (w1 := ?_) (by rfl) rfl ?_ ?_
       rotate_left
       ·go_simp
        rfl
       refine hK.out _ _ ?_
       clear hK K
       refine done_ (by kernel_rfl) ?_
       refine letter ?_
       intro w64 hW
       have Bn_ : Blk w64 g0 27 [.int .i64 1, .int .u64 t1, .int .u64 t2, .int .u64 (min t3 took), .int .u64 (uAdd t4 1), .int .u64 t5, .int .u64 t6] := (by rw [hW]; (repeat (first | (with_reducible refine Blk.drewN ?_ _) | (with_reducible refine Blk.drew ?_))); refine Blk.set (l := [.int .i64 1, .int .u64 t1, .int .u64 t2, .int .u64 (min t3 took), .int .u64 t4, .int .u64 t5, .int .u64 t6]) ?_ 4 _ rfl; (repeat (first | (with_reducible refine Blk.drewN ?_ _) | (with_reducible refine Blk.drew ?_))); refine Blk.set (l := [.int .i64 1, .int .u64 t1, .int .u64 t2, .int .u64 t3, .int .u64 t4, .int .u64 t5, .int .u64 t6]) ?_ 3 _ rfl; (repeat (first | (with_reducible refine Blk.drewN ?_ _) | (with_reducible refine Blk.drew ?_))); exact Bg0)
       replace Bg0 := Bn_
       clear Bn_
       have Bn_ : Blk w64 g1 27 [.int .i64 0, .int .u64 0, .int .u64 0, .int .u64 0, .int .u64 0, .int .u64 0, .int .u64 0] := (by rw [hW]; (repeat (first | (with_reducible refine Blk.drewN ?_ _) | (with_reducible refine Blk.drew ?_))); refine Blk.setFar ?_ Ng1_g0; (repeat (first | (with_reducible refine Blk.drewN ?_ _) | (with_reducible refine Blk.drew ?_))); refine Blk.setFar ?_ Ng1_g0; (repeat (first | (with_reducible refine Blk.drewN ?_ _) | (with_reducible refine Blk.drew ?_))); exact Bg1)
       replace Bg1 := Bn_
       clear Bn_
       have HS_ : Since w w64 := (by rw [hW]; repeat (first | (with_reducible exact HS) | (with_reducible refine Since.drewN ?_ _) | (with_reducible refine Since.drew ?_) | (with_reducible refine Since.set ?_ GEg0)))
       replace HS := HS_
       clear HS_ hW
       clear zg0_3 zg0_4; have kg0_0 := Bg0.at 0 rfl; have kg0_2 := Bg0.at 2 rfl; replace kg0_3 := Bg0.at 3 rfl; replace kg0_4 := Bg0.at 4 rfl
       go_wp2
       all_goals go_quiet (fail)
       all_goals (generalize hW : World.drewN w64 _ = w65; have hl : Below w64.heap.size w64 w65 := (by rw [← hW]; exact pw_below_drewN (Below.refl _ _) _); clear hW; replace Bg0 := Bg0.below hl; replace Bg1 := Bg1.below hl; replace HS := HS.below hl; clear hl; clear kg0_2 kg0_4; replace kg0_0 := Bg0.at 0 rfl; replace kg0_3 := Bg0.at 3 rfl; have kg0_5 := Bg0.at 5 rfl)
       go_wp2_with (first | (refine seg_load rfl (N := 101) rfl 27 (.tmp 4) rfl g0 0 [.int .i64 1, .int .u64 t1, .int .u64 t2, .int .u64 (min t3 took), .int .u64 (uAdd t4 1), .int .u64 t5, .int .u64 t6] rfl Bg0 rfl Try.underlying27 rfl (by kernel_rfl) ?_) | (refine seg_store rfl rfl 27 (.tmp 8) (.tmp 101) rfl g1 0 [.int .i64 1, .int .u64 t1, .int .u64 t2, .int .u64 (min t3 took), .int .u64 (uAdd t4 1), .int .u64 t5, .int .u64 t6] [.int .i64 1, .int .u64 t1, .int .u64 t2, .int .u64 (min t3 took), .int .u64 (uAdd t4 1), .int .u64 t5, .int .u64 t6] (.agg #[.int .i64 1, .int .u64 t1, .int .u64 t2, .int .u64 (min t3 took), .int .u64 (uAdd t4 1), .int .u64 t5, .int .u64 t6]) rfl rfl rfl Bg1 (by kernel_rfl) (nle rfl) rfl rfl ?_; intro w66 hn hw; replace Bg0 := Bg0.grown hw Ng1_g0.symm; replace HS := HS.grown hw GEg1; replace Bg1 := hn; clear hw; clear kg0_0 kg0_3 kg0_5; clear hn))
       all_goals exact bodyPost_ret (results_cell1 rfl _ _ g1 27 [.int .i64 1, .int .u64 t1, .int .u64 t2, .int .u64 (min t3 took), .int .u64 (uAdd t4 1), .int .u64 t5, .int .u64 t6] _ rfl Bg1 Try.underlying27 rfl (by kernel_rfl)) rfl ⟨_, _, _, _, _, _, _, rfl, by decide, Wt1, Wt2, (min_w Wt3 Wtook), (uAdd_w Wt4 (by decide)), Wt5, Wt6, HS.out⟩
  skip
  ·go_wp2_with (first | ((go_at_call 63); (with_reducible refine (over2_0 t1 t2 t3 t4 t5 t6 g0 _ Bg0).mono ?_); rintro e w61 ⟨rfl, hl⟩; replace Bg0 := Bg0.below hl; replace Bg1 := Bg1.below hl; replace HS := HS.below hl; clear hl) | (refine seg_load rfl (N := 41) rfl 27 (.tmp 4) rfl g0 0 [.int .i64 2, .int .u64 t1, .int .u64 t2, .int .u64 t3, .int .u64 t4, .int .u64 t5, .int .u64 t6] rfl Bg0 rfl Try.underlying27 rfl (by kernel_rfl) ?_) | (refine seg_store rfl rfl 27 (.tmp 8) (.tmp 41) rfl g1 0 [.int .i64 2, .int .u64 t1, .int .u64 t2, .int .u64 t3, .int .u64 t4, .int .u64 t5, .int .u64 t6] [.int .i64 2, .int .u64 t1, .int .u64 t2, .int .u64 t3, .int .u64 t4, .int .u64 t5, .int .u64 t6] (.agg #[.int .i64 2, .int .u64 t1, .int .u64 t2, .int .u64 t3, .int .u64 t4, .int .u64 t5, .int .u64 t6]) rfl rfl rfl Bg1 (by kernel_rfl) (nle rfl) rfl rfl ?_; intro w62 hn hw; replace Bg0 := Bg0.grown hw Ng1_g0.symm; replace HS := HS.grown hw GEg1; replace Bg1 := hn; clear hw; clear hn))
   all_goals exact bodyPost_ret (results_cell1 rfl _ _ g1 27 [.int .i64 2, .int .u64 t1, .int .u64 t2, .int .u64 t3, .int .u64 t4, .int .u64 t5, .int .u64 t6] _ rfl Bg1 Try.underlying27 rfl (by kernel_rfl)) rfl ⟨_, _, _, _, _, _, _, rfl, by decide, Wt1, Wt2, Wt3, Wt4, Wt5, Wt6, HS.out⟩
end Go.Proofs.Ytpgffmnbdggpnaa.PCv
end
section
namespace Go.Proofs.Ytpgffmnbdggpnaa.PCv
open Go.RowKit Go.Proofs.YtpgffmnbdggpnaaW.PrintWords Go.Proofs.YtpgffmnbdggpnaaW.PrintLast Go.Proofs.YtpgffmnbdggpnaaW.PrintMore
set_option linter.unusedVariables false
set_option linter.unusedSimpArgs false
def hystart_Grow.f (a0_0 : Int) (a0_1 : Int) (a0_2 : Int) (a0_3 : Int) (a0_4 : Int) (a0_5 : Int) (a0_6 : Int) (a1 : Int) : Option (Int) := if a0_0 = 1 then (some (IntKind.u64.wrap (Int.tdiv a1 4))) else (if a0_0 = 0 then (some a1) else (some 0))
set_option maxHeartbeats 8000000 in
set_option maxRecDepth 100000 in
theorem hystart_Grow.calls (a0_0 : Int) (a0_1 : Int) (a0_2 : Int) (a0_3 : Int) (a0_4 : Int) (a0_5 : Int) (a0_6 : Int) (a1 : Int) (r : Int) (w : World) (h : hystart_Grow.f a0_0 a0_1 a0_2 a0_3 a0_4 a0_5 a0_6 a1 = some r) :
    Calls Try.prog 50 #[.agg #[.int .i64 a0_0, .int .u64 a0_1, .int .u64 a0_2, .int .u64 a0_3, .int .u64 a0_4, .int .u64 a0_5, .int .u64 a0_6], .int .u64 a1] w fun e w' => e = .returned (.int .u64 r) ∧ Below w.heap.size w w' := by
  have hu27 := Try.underlying27
  have HB := Aside0.mk (Below.refl w.heap.size w)
  have H : (if a0_0 = 1 then (some (IntKind.u64.wrap (Int.tdiv a1 4))) else (if a0_0 = 0 then (some a1) else (some 0))) = some r := h
  clear h
  by_cases c3 : a0_0 = 1
  · rw [if_pos c3] at H
    have c3b0 : (a0_0 == 1) = true := beq_iff_eq.mpr c3
    have c3b1 : (a0_0 != 1) = false := bne_eq_false_iff_eq.mpr c3
    clear c3
    obtain rfl := Option.some.inj H
    go_enter Try.func50, Try.ntmps50
    go_wp2_with (first | ((with_reducible refine gate_dst (N := 2) rfl ?_); refine box_event ?hg (N := 2) ?hd (cs := #[.int .i64 a0_0, .int .u64 a0_1, .int .u64 a0_2, .int .u64 a0_3, .int .u64 a0_4, .int .u64 a0_5, .int .u64 a0_6]) (t := 27) ?hr ?_; (case hd => rfl); (case hg => rfl); (case hr => first | (go_simp; done) | (go_simp; rfl)); intro gb256 hg w4 hbox hb; have n0_ := Aside0.mk (below_step (by repeat (first | (with_reducible first | exact HB.out | apply below_alloc | apply pw_below_drewN | apply below_drew1) | exact HB.out)) hb); have n1_ := Aside0.mk (hbox); have n2_ := Aside0.mk ((by rw [hg]; exact (below_size (by repeat (first | (with_reducible first | exact HB.out | apply below_alloc | apply pw_below_drewN | apply below_drew1) | exact HB.out))) : w.heap.size ≤ gb256)); have n3_ := Aside0.mk ((by rw [hg]; exact (below_size (by repeat (first | (with_reducible first | exact HB.out | apply below_alloc | apply pw_below_drewN | apply below_drew1) | exact HB.out))) : w.heap.size ≤ gb256)); clear HB; have HB := n0_; have BK256 := n1_; have GW256 := n2_; have GE256 := n3_; clear n0_ n1_ n2_ n3_; clear hb hbox hg; have hcz5_0 : w4.cell? ⟨gb256, 0, none⟩ = some (.int .i64 a0_0) := (blk_cell BK256.out 0).trans rfl; have hcz5_1 : w4.cell? ⟨gb256, 1, none⟩ = some (.int .u64 a0_1) := (blk_cell BK256.out 1).trans rfl; have hcz5_2 : w4.cell? ⟨gb256, 2, none⟩ = some (.int .u64 a0_2) := (blk_cell BK256.out 2).trans rfl; have hcz5_3 : w4.cell? ⟨gb256, 3, none⟩ = some (.int .u64 a0_3) := (blk_cell BK256.out 3).trans rfl; have hcz5_4 : w4.cell? ⟨gb256, 4, none⟩ = some (.int .u64 a0_4) := (blk_cell BK256.out 4).trans rfl; have hcz5_5 : w4.cell? ⟨gb256, 5, none⟩ = some (.int .u64 a0_5) := (blk_cell BK256.out 5).trans rfl; have hcz5_6 : w4.cell? ⟨gb256, 6, none⟩ = some (.int .u64 a0_6) := (blk_cell BK256.out 6).trans rfl; have hfz5_0 := blk_frozen BK256.out 0; have hfz5_1 := blk_frozen BK256.out 1; have hfz5_2 := blk_frozen BK256.out 2; have hfz5_3 := blk_frozen BK256.out 3; have hfz5_4 := blk_frozen BK256.out 4; have hfz5_5 := blk_frozen BK256.out 5; have hfz5_6 := blk_frozen BK256.out 6))
    go_ret
    exact ⟨by first | rfl | (simp [errW_none, errW_some] <;> rfl) | (simp [*, errW_none, errW_some] <;> rfl), by repeat (first | (with_reducible first | exact HB.out | apply below_alloc | apply pw_below_drewN | apply below_drew1 | refine below_set ?_ GE256.out) | exact HB.out)⟩
  · rw [if_neg c3] at H
    have c3b0 : (a0_0 == 1) = false := beq_eq_false_iff_ne.mpr c3
    have c3b1 : (a0_0 != 1) = true := bne_iff_ne.mpr c3
    by_cases c6 : a0_0 = 0
    · rw [if_pos c6] at H
      have c6b0 : (a0_0 == 0) = true := beq_iff_eq.mpr c6
      have c6b1 : (a0_0 != 0) = false := bne_eq_false_iff_eq.mpr c6
      clear c6
      obtain rfl := Option.some.inj H
      go_enter Try.func50, Try.ntmps50
      go_wp2_with (first | ((with_reducible refine gate_dst (N := 2) rfl ?_); refine box_event ?hg (N := 2) ?hd (cs := #[.int .i64 a0_0, .int .u64 a0_1, .int .u64 a0_2, .int .u64 a0_3, .int .u64 a0_4, .int .u64 a0_5, .int .u64 a0_6]) (t := 27) ?hr ?_; (case hd => rfl); (case hg => rfl); (case hr => first | (go_simp; done) | (go_simp; rfl)); intro gb256 hg w7 hbox hb; have n0_ := Aside0.mk (below_step (by repeat (first | (with_reducible first | exact HB.out | apply below_alloc | apply pw_below_drewN | apply below_drew1) | exact HB.out)) hb); have n1_ := Aside0.mk (hbox); have n2_ := Aside0.mk ((by rw [hg]; exact (below_size (by repeat (first | (with_reducible first | exact HB.out | apply below_alloc | apply pw_below_drewN | apply below_drew1) | exact HB.out))) : w.heap.size ≤ gb256)); have n3_ := Aside0.mk ((by rw [hg]; exact (below_size (by repeat (first | (with_reducible first | exact HB.out | apply below_alloc | apply pw_below_drewN | apply below_drew1) | exact HB.out))) : w.heap.size ≤ gb256)); clear HB; have HB := n0_; have BK256 := n1_; have GW256 := n2_; have GE256 := n3_; clear n0_ n1_ n2_ n3_; clear hb hbox hg; have hcz8_0 : w7.cell? ⟨gb256, 0, none⟩ = some (.int .i64 a0_0) := (blk_cell BK256.out 0).trans rfl; have hcz8_1 : w7.cell? ⟨gb256, 1, none⟩ = some (.int .u64 a0_1) := (blk_cell BK256.out 1).trans rfl; have hcz8_2 : w7.cell? ⟨gb256, 2, none⟩ = some (.int .u64 a0_2) := (blk_cell BK256.out 2).trans rfl; have hcz8_3 : w7.cell? ⟨gb256, 3, none⟩ = some (.int .u64 a0_3) := (blk_cell BK256.out 3).trans rfl; have hcz8_4 : w7.cell? ⟨gb256, 4, none⟩ = some (.int .u64 a0_4) := (blk_cell BK256.out 4).trans rfl; have hcz8_5 : w7.cell? ⟨gb256, 5, none⟩ = some (.int .u64 a0_5) := (blk_cell BK256.out 5).trans rfl; have hcz8_6 : w7.cell? ⟨gb256, 6, none⟩ = some (.int .u64 a0_6) := (blk_cell BK256.out 6).trans rfl; have hfz8_0 := blk_frozen BK256.out 0; have hfz8_1 := blk_frozen BK256.out 1; have hfz8_2 := blk_frozen BK256.out 2; have hfz8_3 := blk_frozen BK256.out 3; have hfz8_4 := blk_frozen BK256.out 4; have hfz8_5 := blk_frozen BK256.out 5; have hfz8_6 := blk_frozen BK256.out 6))
      go_ret
      exact ⟨by first | rfl | (simp [errW_none, errW_some] <;> rfl) | (simp [*, errW_none, errW_some] <;> rfl), by repeat (first | (with_reducible first | exact HB.out | apply below_alloc | apply pw_below_drewN | apply below_drew1 | refine below_set ?_ GE256.out) | exact HB.out)⟩
    · rw [if_neg c6] at H
      have c6b0 : (a0_0 == 0) = false := beq_eq_false_iff_ne.mpr c6
      have c6b1 : (a0_0 != 0) = true := bne_iff_ne.mpr c6
      obtain rfl := Option.some.inj H
      go_enter Try.func50, Try.ntmps50
      go_wp2_with (first | ((with_reducible refine gate_dst (N := 2) rfl ?_); refine box_event ?hg (N := 2) ?hd (cs := #[.int .i64 a0_0, .int .u64 a0_1, .int .u64 a0_2, .int .u64 a0_3, .int .u64 a0_4, .int .u64 a0_5, .int .u64 a0_6]) (t := 27) ?hr ?_; (case hd => rfl); (case hg => rfl); (case hr => first | (go_simp; done) | (go_simp; rfl)); intro gb256 hg w9 hbox hb; have n0_ := Aside0.mk (below_step (by repeat (first | (with_reducible first | exact HB.out | apply below_alloc | apply pw_below_drewN | apply below_drew1) | exact HB.out)) hb); have n1_ := Aside0.mk (hbox); have n2_ := Aside0.mk ((by rw [hg]; exact (below_size (by repeat (first | (with_reducible first | exact HB.out | apply below_alloc | apply pw_below_drewN | apply below_drew1) | exact HB.out))) : w.heap.size ≤ gb256)); have n3_ := Aside0.mk ((by rw [hg]; exact (below_size (by repeat (first | (with_reducible first | exact HB.out | apply below_alloc | apply pw_below_drewN | apply below_drew1) | exact HB.out))) : w.heap.size ≤ gb256)); clear HB; have HB := n0_; have BK256 := n1_; have GW256 := n2_; have GE256 := n3_; clear n0_ n1_ n2_ n3_; clear hb hbox hg; have hcz10_0 : w9.cell? ⟨gb256, 0, none⟩ = some (.int .i64 a0_0) := (blk_cell BK256.out 0).trans rfl; have hcz10_1 : w9.cell? ⟨gb256, 1, none⟩ = some (.int .u64 a0_1) := (blk_cell BK256.out 1).trans rfl; have hcz10_2 : w9.cell? ⟨gb256, 2, none⟩ = some (.int .u64 a0_2) := (blk_cell BK256.out 2).trans rfl; have hcz10_3 : w9.cell? ⟨gb256, 3, none⟩ = some (.int .u64 a0_3) := (blk_cell BK256.out 3).trans rfl; have hcz10_4 : w9.cell? ⟨gb256, 4, none⟩ = some (.int .u64 a0_4) := (blk_cell BK256.out 4).trans rfl; have hcz10_5 : w9.cell? ⟨gb256, 5, none⟩ = some (.int .u64 a0_5) := (blk_cell BK256.out 5).trans rfl; have hcz10_6 : w9.cell? ⟨gb256, 6, none⟩ = some (.int .u64 a0_6) := (blk_cell BK256.out 6).trans rfl; have hfz10_0 := blk_frozen BK256.out 0; have hfz10_1 := blk_frozen BK256.out 1; have hfz10_2 := blk_frozen BK256.out 2; have hfz10_3 := blk_frozen BK256.out 3; have hfz10_4 := blk_frozen BK256.out 4; have hfz10_5 := blk_frozen BK256.out 5; have hfz10_6 := blk_frozen BK256.out 6))
      go_ret
      exact ⟨by first | rfl | (simp [errW_none, errW_some] <;> rfl) | (simp [*, errW_none, errW_some] <;> rfl), by repeat (first | (with_reducible first | exact HB.out | apply below_alloc | apply pw_below_drewN | apply below_drew1 | refine below_set ?_ GE256.out) | exact HB.out)⟩
end Go.Proofs.Ytpgffmnbdggpnaa.PCv
end
section
namespace Go.Proofs.Ytpgffmnbdggpnaa.PCv
open Go.RowKit Go.Proofs.YtpgffmnbdggpnaaW.PrintWords Go.Proofs.YtpgffmnbdggpnaaW.PrintLast Go.Proofs.YtpgffmnbdggpnaaW.PrintMore
set_option linter.unusedVariables false
set_option linter.unusedSimpArgs false
set_option maxRecDepth 100000
set_option maxHeartbeats 8000000
def uGrow (p b : Int) : Int := if p = 1 then b / 4 else if p = 0 then b else 0
theorem uGrow_w {p b : Int} (h : W64 b) : W64 (uGrow p b) := by unfold uGrow; split <;> (try split) <;> omega
theorem growC (s0 s1 s2 s3 s4 s5 s6 b : Int) (h : W64 b) (w : World) : Calls Try.prog 50 #[.agg #[.int .i64 s0, .int .u64 s1, .int .u64 s2, .int .u64 s3, .int .u64 s4, .int .u64 s5, .int .u64 s6], .int .u64 b] w fun e w' => e = .returned (.int .u64 (uGrow s0 b)) ∧ Below w.heap.size w w' :=
 hystart_Grow.calls s0 s1 s2 s3 s4 s5 s6 b _ w (by unfold hystart_Grow.f uGrow; rw [wdiv h 4 (by decide)]; split <;> (try split) <;> rfl)
theorem sampleG (s0 s1 s2 s3 s4 s5 s6 num next took : Int) (hs : s0 = 0 ∨ s0 = 1 ∨ s0 = 2) (W1 : W64 s1) (W2 : W64 s2) (W3 : W64 s3) (W4 : W64 s4) (W5 : W64 s5) (W6 : W64 s6) (Wnum : W64 num) (Wnext : W64 next) (Wtook : W64 took) (w : World) :
  Calls Try.prog 49 #[.agg #[.int .i64 s0, .int .u64 s1, .int .u64 s2, .int .u64 s3, .int .u64 s4, .int .u64 s5, .int .u64 s6], .int .u64 num, .int .u64 next, .int .u64 took] w fun e w' => ∃ (q0 q1 q2 q3 q4 q5 q6 : Int), e = .returned (.agg #[.int .i64 q0, .int .u64 q1, .int .u64 q2, .int .u64 q3, .int .u64 q4, .int .u64 q5, .int .u64 q6]) ∧ (q0 = 0 ∨ q0 = 1 ∨ q0 = 2) ∧ W64 q1 ∧ W64 q2 ∧ W64 q3 ∧ W64 q4 ∧ W64 q5 ∧ W64 q6 ∧ Below w.heap.size w w' := by
 rcases hs with rfl | rfl | rfl
 ·exact sampleC0 s1 s2 s3 s4 s5 s6 num next took W1 W2 W3 W4 W5 W6 Wnum Wnext Wtook w
 ·exact sampleC1 s1 s2 s3 s4 s5 s6 num next took W1 W2 W3 W4 W5 W6 Wnum Wnext Wtook w
 ·refine (sample2_0 s1 s2 s3 s4 s5 s6 num next took w).mono ?_
  rintro e w' ⟨rfl, hb⟩
  exact ⟨_, _, _, _, _, _, _, rfl, by decide, W1, W2, W3, W4, W5, W6, hb⟩
theorem slowG1 (g_0 : Int) (g_1 : Int) (g_2 : Int) (g_3 : Int) (g_4 : Int) (g_5 : Int) (g_6 : Int) (g_7 : Int) (g_8 : Bool) (g_9 : Bool) (c1 : Int) (c2 : Int) (c3 : Int) (c4 : Int) (c5 : Int) (c6 : Int) (c7 : Int) (c8 : Int) (c9 : Int) (c10 : Int) (c11 : Int) (c12 : Int) (c13 : Int) (c14 : Int) (c15 : Bool) (c16 : Int) (c17 : Int) (c18 : Int) (c19 : Int) (c20 : Int) (c22 : Int) (c23 : Int) (c24 : Int) (c25 : Int) (c26 : Int) (c27 : Int) (c28 : Int) (c29 : Int) (c30 : Int) (c31 : Int) (c32 : Int) (c33 : Int) (c34 : Int) (c35 : Int) (c36 : Int) (c37 : Int) (c38 : Bool) (c39 : Int) (c40 : Int) (Wg_0 : W64 g_0) (Wg_1 : W64 g_1) (Wg_2 : W64 g_2) (Wg_3 : W64 g_3) (Wg_4 : W64 g_4) (Wg_5 : W64 g_5) (Wg_6 : W64 g_6) (Wg_7 : W64 g_7) (Wc1 : W64 c1) (Wc2 : W64 c2) (Wc3 : W64 c3) (Wc4 : W64 c4) (Wc6 : W64 c6) (Wc7 : W64 c7) (Wc8 : W64 c8) (Wc9 : W64 c9) (Wc10 : W64 c10) (Wc11 : W64 c11) (Wc12 : W64 c12) (Wc13 : W64 c13) (Wc14 : W64 c14) (Wc16 : W64 c16) (Wc17 : W64 c17) (Wc18 : W64 c18) (Wc19 : W64 c19) (Wc22 : W64 c22) (Wc23 : W64 c23) (Wc24 : W64 c24) (Wc25 : W64 c25) (Wc26 : W64 c26) (Wc27 : W64 c27) (Wc28 : W64 c28) (Wc29 : W64 c29) (Wc30 : W64 c30) (Wc31 : W64 c31) (Wc32 : W64 c32) (Wc33 : W64 c33) (Wc34 : W64 c34) (Wc35 : W64 c35) (Wc36 : W64 c36) (Wc37 : W64 c37) (Wc39 : W64 c39) (Wc40 : W64 c40) (g : Nat) (A21 : Option Addr) (n21 : Nat) (k21 : Nat) (hp_c5 : c5 = 0 ∨ c5 = 1 ∨ c5 = 2) (h0 : (decide (c2 ≤ c1)) = false) (w : World) (Bg : Blk w g 36 (K36 1 c1 c2 c3 c4 c5 c6 c7 c8 c9 c10 c11 c12 c13 c14 c15 c16 c17 c18 c19 c20 (.slice A21 n21 k21) c22 c23 c24 c25 c26 c27 c28 c29 c30 c31 c32 c33 c34 c35 c36 c37 c38 c39 c40)) :
  Calls Try.prog 21 #[.pointer (some ⟨g, 0, none⟩), .agg #[.int .u64 g_0, .int .u64 g_1, .int .u64 g_2, .int .u64 g_3, .int .u64 g_4, .int .u64 g_5, .int .u64 g_6, .int .u64 g_7, .bool g_8, .bool g_9]] w fun e w' => ∃ (q th p0 p1 p2 p3 p4 p5 p6 : Int), e = .returned (.int .u64 q) ∧ W64 q ∧ W64 th ∧ (p0 = 0 ∨ p0 = 1 ∨ p0 = 2) ∧ W64 p1 ∧ W64 p2 ∧ W64 p3 ∧ W64 p4 ∧ W64 p5 ∧ W64 p6 ∧ Blk w' g 36 (K36 1 c1 th c3 c4 p0 p1 p2 p3 p4 p5 p6 c12 c13 c14 c15 c16 c17 c18 c19 c20 (.slice A21 n21 k21) c22 c23 c24 c25 c26 c27 c28 c29 c30 c31 c32 c33 c34 c35 c36 c37 c38 c39 c40) ∧ w.grownBy w' (some g) := by
 have hu27 := Try.underlying27
 have hu36 := Try.underlying36
 have hu40 := Try.underlying40
 have HS := Turned.refl g w
 go_enter Try.func21, Try.ntmps21
 go_wp2_with (first | (refine seg_new rfl (N := 3) rfl [.int .u64 g_0, .int .u64 g_1, .int .u64 g_2, .int .u64 g_3, .int .u64 g_4, .int .u64 g_5, .int .u64 g_6, .int .u64 g_7, .bool g_8, .bool g_9] 40 ?hr ?_; (case hr => rfl); intro g0 hg w1 hn hl; have Ng0_g := ne_new Bg hg; have GEg0 := HS.ge hg; clear hg; replace Bg := Bg.below hl; replace HS := HS.below hl; have Bg0 := hn; clear hl hn) | ((go_at_call 36); (with_reducible refine (parts_reno g _ ((Bg.cell 0).trans rfl)).mono ?_); rintro e w2 ⟨rfl, hd⟩; have hl := hd.below; clear hd; replace Bg := Bg.below hl; replace Bg0 := Bg0.below hl; replace HS := HS.below hl; clear hl; have kg_1 := Bg.at 1 rfl; have kg_2 := Bg.at 2 rfl))
 all_goals go_quiet (fail)
 all_goals (generalize hW : World.drewN w2 _ = w3; have hl : Below w2.heap.size w2 w3 := (by rw [← hW]; exact pw_below_drewN (Below.refl _ _) _); clear hW; replace Bg := Bg.below hl; replace Bg0 := Bg0.below hl; replace HS := HS.below hl; clear hl; clear kg_1 kg_2; have kg_5 := Bg.at 5 rfl; have zg_5 := Bg.frozen 5; have kg_6 := Bg.at 6 rfl; have zg_6 := Bg.frozen 6; have kg_7 := Bg.at 7 rfl; have zg_7 := Bg.frozen 7; have kg_8 := Bg.at 8 rfl; have zg_8 := Bg.frozen 8; have kg_9 := Bg.at 9 rfl; have zg_9 := Bg.frozen 9; have kg_10 := Bg.at 10 rfl; have zg_10 := Bg.frozen 10; have kg_11 := Bg.at 11 rfl; have zg_11 := Bg.frozen 11; have kg0_3 := Bg0.at 3 rfl; have kg0_4 := Bg0.at 4 rfl; have kg0_5 := Bg0.at 5 rfl)
 go_wp2
 refine start_ (n := 15) (S := fun w' => Blk w' g 36 (K36 1 c1 c2 c3 c4 c5 c6 c7 c8 c9 c10 c11 c12 c13 c14 c15 c16 c17 c18 c19 c20 (.slice A21 n21 k21) c22 c23 c24 c25 c26 c27 c28 c29 c30 c31 c32 c33 c34 c35 c36 c37 c38 c39 c40) ∧ w'.cell? ⟨g0, 3, none⟩ = some (.int .u64 g_3) ∧ w'.cell? ⟨g0, 4, none⟩ = some (.int .u64 g_4) ∧ w'.cell? ⟨g0, 5, none⟩ = some (.int .u64 g_5)) (ds := [14]) (bs 15 0) (by kernel_rfl) rfl rfl ⟨Bg.drew, ((Bg0.drew.cell 3).trans rfl), ((Bg0.drew.cell 4).trans rfl), ((Bg0.drew.cell 5).trans rfl)⟩ (fun hHeld => ?_)
 generalize hWd : World.drew w3 = w4 at hHeld ⊢
 have hl : Below w3.heap.size w3 w4 := (by rw [← hWd]; exact below_drew1 (Below.refl _ _))
 clear hWd
 replace Bg := Bg.below hl; replace Bg0 := Bg0.below hl; replace HS := HS.below hl; clear hl; replace kg_5 := Bg.at 5 rfl; replace zg_5 := Bg.frozen 5; replace kg_6 := Bg.at 6 rfl; replace zg_6 := Bg.frozen 6; replace kg_7 := Bg.at 7 rfl; replace zg_7 := Bg.frozen 7; replace kg_8 := Bg.at 8 rfl; replace zg_8 := Bg.frozen 8; replace kg_9 := Bg.at 9 rfl; replace zg_9 := Bg.frozen 9; replace kg_10 := Bg.at 10 rfl; replace zg_10 := Bg.frozen 10; replace kg_11 := Bg.at 11 rfl; replace zg_11 := Bg.frozen 11; replace kg0_3 := Bg0.at 3 rfl; replace kg0_4 := Bg0.at 4 rfl; replace kg0_5 := Bg0.at 5 rfl
 refine pu 0 23 (.pointer (some ⟨g, 0, none⟩)) 1 rfl rfl (by kernel_rfl) (fun _ _ _ h => h) (by rfl) (fun _ => by kernel_rfl) rfl ?_
 refine pu 1 24 (.pointer (some ⟨g, 0, none⟩)) 3 rfl rfl (by kernel_rfl) (fun _ _ _ h => h) (by rfl) (fun _ => by kernel_rfl) rfl ?_
 refine pu 2 25 (.pointer (some ⟨g, 0, none⟩)) 7 rfl rfl (by kernel_rfl) (fun _ _ _ h => h) (by rfl) (fun _ => by kernel_rfl) rfl ?_
 refine pu 3 26 (.pointer (some ⟨g, 5, none⟩)) 15 rfl rfl (by kernel_rfl) (fun _ _ _ h => h) (by rfl) (fun _ => by kernel_rfl) rfl ?_
 refine pu 5 28 (.pointer (some ⟨g0, 3, none⟩)) 47 rfl rfl (by kernel_rfl) (fun _ _ _ h => h) (by rfl) (fun _ => by kernel_rfl) rfl ?_
 refine pu 7 30 (.pointer (some ⟨g0, 4, none⟩)) 175 rfl rfl (by kernel_rfl) (fun _ _ _ h => h) (by rfl) (fun _ => by kernel_rfl) rfl ?_
 refine pu 9 32 (.pointer (some ⟨g0, 5, none⟩)) 687 rfl rfl (by kernel_rfl) (fun _ _ _ h => h) (by rfl) (fun _ => by kernel_rfl) rfl ?_
 refine norm_ (a' := ?_) ?_ ?_
 rotate_left
 ·simp only [Act.put, zA_, z0_, z1_, i64_w, i32_w]
  rfl
 refine take_ (i := 4) (N := some 27) (v := .agg #[.int .i64 c5, .int .u64 c6, .int .u64 c7, .int .u64 c8, .int .u64 c9, .int .u64 c10, .int .u64 c11]) (a' := ?_) (bs 15 703) rfl rfl (by kernel_rfl) (fun _ _ _ h => h) (Or.inl ⟨by rfl, ?_⟩) hHeld ?_ ?_
 ·rintro w' ⟨s0, s1, s2, s3⟩
  exact exec_seg_load 27 (.tmp 26) (by rfl) g 5 [.int .i64 c5, .int .u64 c6, .int .u64 c7, .int .u64 c8, .int .u64 c9, .int .u64 c10, .int .u64 c11] (by rfl) s0 (by rfl) Try.underlying27 (by rfl) (by kernel_rfl)
 rotate_left
 ·simp only [Act.put, zA_, z0_, z1_, i64_w, i32_w]
  rfl
 refine take_ (i := 6) (N := some 29) (v := ?_) (a' := ?_) (bs 15 767) rfl rfl (by kernel_rfl) (fun _ _ _ h => h) (Or.inl ⟨by rfl, ?_⟩) hHeld ?_ ?_
 rotate_left
 ·rintro w' ⟨s0, s1, s2, s3⟩
  go_simp
  with_reducible rfl
 rotate_left
 ·simp only [Act.put, zA_, z0_, z1_, i64_w, i32_w]
  rfl
 refine take_ (i := 8) (N := some 31) (v := ?_) (a' := ?_) (bs 15 1023) rfl rfl (by kernel_rfl) (fun _ _ _ h => h) (Or.inl ⟨by rfl, ?_⟩) hHeld ?_ ?_
 rotate_left
 ·rintro w' ⟨s0, s1, s2, s3⟩
  go_simp
  with_reducible rfl
 rotate_left
 ·simp only [Act.put, zA_, z0_, z1_, i64_w, i32_w]
  rfl
 refine take_ (i := 10) (N := some 33) (v := ?_) (a' := ?_) (bs 15 2047) rfl rfl (by kernel_rfl) (fun _ _ _ h => h) (Or.inl ⟨by rfl, ?_⟩) hHeld ?_ ?_
 rotate_left
 ·rintro w' ⟨s0, s1, s2, s3⟩
  go_simp
  with_reducible rfl
 rotate_left
 ·simp only [Act.put, zA_, z0_, z1_, i64_w, i32_w]
  rfl
 refine one_ (i := 11) (N := some 34) (bs 15 4095) rfl rfl (by kernel_rfl) (by decide) (fun K hK => ?_)
 refine goes_ Try.func49 (by kernel_rfl) rfl #[.agg #[.int .i64 c5, .int .u64 c6, .int .u64 c7, .int .u64 c8, .int .u64 c9, .int .u64 c10, .int .u64 c11], .int .u64 g_3, .int .u64 g_4, .int .u64 g_5] (by rfl) rfl rfl (by simp only [List.map_toArray, List.map_cons, List.map_nil]; rfl) ?_
 with_reducible refine (sampleG c5 c6 c7 c8 c9 c10 c11 g_3 g_4 g_5 hp_c5 Wc6 Wc7 Wc8 Wc9 Wc10 Wc11 Wg_3 Wg_4 Wg_5 _).mono ?_
 rintro e w5 ⟨q0, q1, q2, q3, q4, q5, q6, rfl, hq0, Wq1, Wq2, Wq3, Wq4, Wq5, Wq6, hl⟩
 refine ⟨_, rfl, ?_⟩
 replace Bg := Bg.below hl; replace Bg0 := Bg0.below hl; replace HS := HS.below hl; clear hl; replace kg_5 := Bg.at 5 rfl; replace zg_5 := Bg.frozen 5; replace kg_6 := Bg.at 6 rfl; replace zg_6 := Bg.frozen 6; replace kg_7 := Bg.at 7 rfl; replace zg_7 := Bg.frozen 7; replace kg_8 := Bg.at 8 rfl; replace zg_8 := Bg.frozen 8; replace kg_9 := Bg.at 9 rfl; replace zg_9 := Bg.frozen 9; replace kg_10 := Bg.at 10 rfl; replace zg_10 := Bg.frozen 10; replace kg_11 := Bg.at 11 rfl; replace zg_11 := Bg.frozen 11; replace kg0_3 := Bg0.at 3 rfl; replace kg0_4 := Bg0.at 4 rfl; replace kg0_5 := Bg0.at 5 rfl
 refine hK.out _ _ ⟨Bg, ((Bg0.cell 3).trans rfl), ((Bg0.cell 4).trans rfl), ((Bg0.cell 5).trans rfl)⟩ (fun hHeld => ?_)
 clear hK K
 refine norm_ (a' := ?_) ?_ ?_
 rotate_left
 ·show Act.put _ (some 34) _ = _
  simp only [Act.put, zA_, z0_, z1_, i64_w, i32_w]
  rfl
 refine pu 12 35 (.pointer (some ⟨g, 0, none⟩)) 8191 rfl rfl (by kernel_rfl) (fun _ _ _ h => h) (by rfl) (fun _ => by kernel_rfl) rfl ?_
 refine pu 13 36 (.pointer (some ⟨g, 5, none⟩)) 16383 rfl rfl (by kernel_rfl) (fun _ _ _ h => h) (by rfl) (fun _ => by kernel_rfl) rfl ?_
 refine norm_ (a' := ?_) ?_ ?_
 rotate_left
 ·simp only [Act.put, zA_, z0_, z1_, i64_w, i32_w]
  rfl
 refine last_ (i := 14) (N := none) (bs 15 32767) rfl rfl (by kernel_rfl) (by decide) (fun K hK => ?_)
 refine skip_ (w1 := ?_) (by rfl) rfl ?_ ?_
 rotate_left
 ·go_simp
  rfl
 refine hK.out _ _ ?_
 clear hK K
 refine done_ (by kernel_rfl) ?_
 refine letter ?_
 intro w6 hW
 have Bn_ : Blk w6 g 36 (K36 1 c1 c2 c3 c4 q0 q1 q2 q3 q4 q5 q6 c12 c13 c14 c15 c16 c17 c18 c19 c20 (.slice A21 n21 k21) c22 c23 c24 c25 c26 c27 c28 c29 c30 c31 c32 c33 c34 c35 c36 c37 c38 c39 c40) := (by rw [hW]; (repeat (first | (with_reducible refine Blk.drewN ?_ _) | (with_reducible refine Blk.drew ?_))); refine Blk.set (l := (K36 1 c1 c2 c3 c4 q0 q1 q2 q3 q4 q5 c11 c12 c13 c14 c15 c16 c17 c18 c19 c20 (.slice A21 n21 k21) c22 c23 c24 c25 c26 c27 c28 c29 c30 c31 c32 c33 c34 c35 c36 c37 c38 c39 c40)) ?_ 11 _ rfl; (repeat (first | (with_reducible refine Blk.drewN ?_ _) | (with_reducible refine Blk.drew ?_))); refine Blk.set (l := (K36 1 c1 c2 c3 c4 q0 q1 q2 q3 q4 c10 c11 c12 c13 c14 c15 c16 c17 c18 c19 c20 (.slice A21 n21 k21) c22 c23 c24 c25 c26 c27 c28 c29 c30 c31 c32 c33 c34 c35 c36 c37 c38 c39 c40)) ?_ 10 _ rfl; (repeat (first | (with_reducible refine Blk.drewN ?_ _) | (with_reducible refine Blk.drew ?_))); refine Blk.set (l := (K36 1 c1 c2 c3 c4 q0 q1 q2 q3 c9 c10 c11 c12 c13 c14 c15 c16 c17 c18 c19 c20 (.slice A21 n21 k21) c22 c23 c24 c25 c26 c27 c28 c29 c30 c31 c32 c33 c34 c35 c36 c37 c38 c39 c40)) ?_ 9 _ rfl; (repeat (first | (with_reducible refine Blk.drewN ?_ _) | (with_reducible refine Blk.drew ?_))); refine Blk.set (l := (K36 1 c1 c2 c3 c4 q0 q1 q2 c8 c9 c10 c11 c12 c13 c14 c15 c16 c17 c18 c19 c20 (.slice A21 n21 k21) c22 c23 c24 c25 c26 c27 c28 c29 c30 c31 c32 c33 c34 c35 c36 c37 c38 c39 c40)) ?_ 8 _ rfl; (repeat (first | (with_reducible refine Blk.drewN ?_ _) | (with_reducible refine Blk.drew ?_))); refine Blk.set (l := (K36 1 c1 c2 c3 c4 q0 q1 c7 c8 c9 c10 c11 c12 c13 c14 c15 c16 c17 c18 c19 c20 (.slice A21 n21 k21) c22 c23 c24 c25 c26 c27 c28 c29 c30 c31 c32 c33 c34 c35 c36 c37 c38 c39 c40)) ?_ 7 _ rfl; (repeat (first | (with_reducible refine Blk.drewN ?_ _) | (with_reducible refine Blk.drew ?_))); refine Blk.set (l := (K36 1 c1 c2 c3 c4 q0 c6 c7 c8 c9 c10 c11 c12 c13 c14 c15 c16 c17 c18 c19 c20 (.slice A21 n21 k21) c22 c23 c24 c25 c26 c27 c28 c29 c30 c31 c32 c33 c34 c35 c36 c37 c38 c39 c40)) ?_ 6 _ rfl; (repeat (first | (with_reducible refine Blk.drewN ?_ _) | (with_reducible refine Blk.drew ?_))); refine Blk.set (l := (K36 1 c1 c2 c3 c4 c5 c6 c7 c8 c9 c10 c11 c12 c13 c14 c15 c16 c17 c18 c19 c20 (.slice A21 n21 k21) c22 c23 c24 c25 c26 c27 c28 c29 c30 c31 c32 c33 c34 c35 c36 c37 c38 c39 c40)) ?_ 5 _ rfl; (repeat (first | (with_reducible refine Blk.drewN ?_ _) | (with_reducible refine Blk.drew ?_))); exact Bg)
 replace Bg := Bn_
 clear Bn_
 have Bn_ : Blk w6 g0 40 [.int .u64 g_0, .int .u64 g_1, .int .u64 g_2, .int .u64 g_3, .int .u64 g_4, .int .u64 g_5, .int .u64 g_6, .int .u64 g_7, .bool g_8, .bool g_9] := (by rw [hW]; (repeat (first | (with_reducible refine Blk.drewN ?_ _) | (with_reducible refine Blk.drew ?_))); refine Blk.setFar ?_ Ng0_g; (repeat (first | (with_reducible refine Blk.drewN ?_ _) | (with_reducible refine Blk.drew ?_))); refine Blk.setFar ?_ Ng0_g; (repeat (first | (with_reducible refine Blk.drewN ?_ _) | (with_reducible refine Blk.drew ?_))); refine Blk.setFar ?_ Ng0_g; (repeat (first | (with_reducible refine Blk.drewN ?_ _) | (with_reducible refine Blk.drew ?_))); refine Blk.setFar ?_ Ng0_g; (repeat (first | (with_reducible refine Blk.drewN ?_ _) | (with_reducible refine Blk.drew ?_))); refine Blk.setFar ?_ Ng0_g; (repeat (first | (with_reducible refine Blk.drewN ?_ _) | (with_reducible refine Blk.drew ?_))); refine Blk.setFar ?_ Ng0_g; (repeat (first | (with_reducible refine Blk.drewN ?_ _) | (with_reducible refine Blk.drew ?_))); refine Blk.setFar ?_ Ng0_g; (repeat (first | (with_reducible refine Blk.drewN ?_ _) | (with_reducible refine Blk.drew ?_))); exact Bg0)
 replace Bg0 := Bn_
 clear Bn_
 have HS_ : Turned g w w6 := (by rw [hW]; repeat (first | (with_reducible exact HS) | (with_reducible refine Turned.drewN ?_ _) | (with_reducible refine Turned.drew ?_) | (with_reducible refine Turned.set ?_)))
 replace HS := HS_
 clear HS_ hW
 clear zg_5 kg_6 zg_6 kg_7 zg_7 kg_8 zg_8 kg_9 zg_9 kg_10 zg_10 kg_11 zg_11 kg0_3 kg0_4 kg0_5; replace kg_5 := Bg.at 5 rfl
 go_upto_if 42 with (fail)
 (try simp only [Act.put, zA_, z0_, z1_])
 go_cut [] (fun wc => Blk wc g 36 (K36 1 c1 c2 c3 c4 q0 q1 q2 q3 q4 q5 q6 c12 c13 c14 c15 c16 c17 c18 c19 c20 (.slice A21 n21 k21) c22 c23 c24 c25 c26 c27 c28 c29 c30 c31 c32 c33 c34 c35 c36 c37 c38 c39 c40) ∧ Blk wc g0 40 [.int .u64 g_0, .int .u64 g_1, .int .u64 g_2, .int .u64 g_3, .int .u64 g_4, .int .u64 g_5, .int .u64 g_6, .int .u64 g_7, .bool g_8, .bool g_9] ∧ Turned g w wc)
 case first =>
  rcases Bool.eq_false_or_eq_true (q0 == 2) with h1 | h1
  ·(try rw [h1])
   clear kg_5; have kg_1 := Bg.at 1 rfl
   go_wp2_with (first | (refine seg_store rfl rfl 23 (.tmp 47) (.tmp 46) rfl g 2 [.int .u64 c1] (K36 1 c1 c1 c3 c4 q0 q1 q2 q3 q4 q5 q6 c12 c13 c14 c15 c16 c17 c18 c19 c20 (.slice A21 n21 k21) c22 c23 c24 c25 c26 c27 c28 c29 c30 c31 c32 c33 c34 c35 c36 c37 c38 c39 c40) (.int .u64 c1) rfl rfl rfl Bg (by kernel_rfl) (nle rfl) rfl rfl ?_; intro w7 hn hw; replace Bg0 := Bg0.grown hw Ng0_g; replace HS := HS.same hw; replace Bg := hn; clear hw; clear kg_1; have kg0_1 := Bg0.at 1 rfl; clear hn))
   all_goals (go_ret; exact ⟨_, _, _, _, _, _, _, _, _, rfl, Wg_1, Wc1, hq0, Wq1, Wq2, Wq3, Wq4, Wq5, Wq6, Bg, HS.out⟩)
  ·(try rw [h1])
   clear kg_5
   go_wp2
   all_goals go_meet
   case rel => exact ⟨Bg, Bg0, HS⟩
 case rest =>
  clear kg_5 Bg Bg0 HS
  obtain ⟨Bg, Bg0, HS⟩ := hcut
  have kg0_1 := Bg0.at 1 rfl
  go_wp2
  refine start_ (n := 8) (S := fun w' => Blk w' g 36 (K36 1 c1 c2 c3 c4 q0 q1 q2 q3 q4 q5 q6 c12 c13 c14 c15 c16 c17 c18 c19 c20 (.slice A21 n21 k21) c22 c23 c24 c25 c26 c27 c28 c29 c30 c31 c32 c33 c34 c35 c36 c37 c38 c39 c40) ∧ w'.cell? ⟨g0, 1, none⟩ = some (.int .u64 g_1)) (ds := []) (bs 8 0) (by kernel_rfl) rfl rfl ⟨Bg.drew, ((Bg0.drew.cell 1).trans rfl)⟩ (fun hHeld => ?_)
  generalize hWd : World.drew wc = w61 at hHeld ⊢
  have hl : Below wc.heap.size wc w61 := (by rw [← hWd]; exact below_drew1 (Below.refl _ _))
  clear hWd
  replace Bg := Bg.below hl; replace Bg0 := Bg0.below hl; replace HS := HS.below hl; clear hl; replace kg0_1 := Bg0.at 1 rfl
  refine pu 0 50 (.pointer (some ⟨g, 0, none⟩)) 1 rfl rfl (by kernel_rfl) (fun _ _ _ h => h) (by rfl) (fun _ => by kernel_rfl) rfl ?_
  refine pu 1 51 (.pointer (some ⟨g, 0, none⟩)) 3 rfl rfl (by kernel_rfl) (fun _ _ _ h => h) (by rfl) (fun _ => by kernel_rfl) rfl ?_
  refine pu 2 52 (.pointer (some ⟨g, 5, none⟩)) 7 rfl rfl (by kernel_rfl) (fun _ _ _ h => h) (by rfl) (fun _ => by kernel_rfl) rfl ?_
  refine pu 4 54 (.pointer (some ⟨g0, 1, none⟩)) 23 rfl rfl (by kernel_rfl) (fun _ _ _ h => h) (by rfl) (fun _ => by kernel_rfl) rfl ?_
  refine norm_ (a' := ?_) ?_ ?_
  rotate_left
  ·simp only [Act.put, zA_, z0_, z1_, i64_w, i32_w]
   rfl
  refine take_ (i := 3) (N := some 53) (v := .agg #[.int .i64 q0, .int .u64 q1, .int .u64 q2, .int .u64 q3, .int .u64 q4, .int .u64 q5, .int .u64 q6]) (a' := ?_) (bs 8 31) rfl rfl (by kernel_rfl) (fun _ _ _ h => h) (Or.inl ⟨by rfl, ?_⟩) hHeld ?_ ?_
  ·rintro w' ⟨s0, s1⟩
   exact exec_seg_load 27 (.tmp 52) (by rfl) g 5 [.int .i64 q0, .int .u64 q1, .int .u64 q2, .int .u64 q3, .int .u64 q4, .int .u64 q5, .int .u64 q6] (by rfl) s0 (by rfl) Try.underlying27 (by rfl) (by kernel_rfl)
  rotate_left
  ·simp only [Act.put, zA_, z0_, z1_, i64_w, i32_w]
   rfl
  refine take_ (i := 5) (N := some 55) (v := ?_) (a' := ?_) (bs 8 63) rfl rfl (by kernel_rfl) (fun _ _ _ h => h) (Or.inl ⟨by rfl, ?_⟩) hHeld ?_ ?_
  rotate_left
  ·rintro w' ⟨s0, s1⟩
   go_simp
   with_reducible rfl
  rotate_left
  ·simp only [Act.put, zA_, z0_, z1_, i64_w, i32_w]
   rfl
  refine one_ (i := 6) (N := some 56) (bs 8 127) rfl rfl (by kernel_rfl) (by decide) (fun K hK => ?_)
  refine goes_ Try.func50 (by kernel_rfl) rfl #[.agg #[.int .i64 q0, .int .u64 q1, .int .u64 q2, .int .u64 q3, .int .u64 q4, .int .u64 q5, .int .u64 q6], .int .u64 g_1] (by rfl) rfl rfl (by simp only [List.map_toArray, List.map_cons, List.map_nil]; rfl) ?_
  with_reducible refine (growC q0 q1 q2 q3 q4 q5 q6 g_1 Wg_1 _).mono ?_
  rintro e w62 ⟨rfl, hl⟩
  refine ⟨_, rfl, ?_⟩
  replace Bg := Bg.below hl; replace Bg0 := Bg0.below hl; replace HS := HS.below hl; clear hl; replace kg0_1 := Bg0.at 1 rfl
  refine hK.out _ _ ⟨Bg, ((Bg0.cell 1).trans rfl)⟩ (fun hHeld => ?_)
  clear hK K
  refine norm_ (a' := ?_) ?_ ?_
  rotate_left
  ·show Act.put _ (some 56) _ = _
   simp only [Act.put, zA_, z0_, z1_, i64_w, i32_w]
   rfl
  refine pure_ (i := 7) (N := some 4) (v := ?_) (a' := ?_) (bs 8 255) rfl rfl (by kernel_rfl) (fun _ _ _ h => h) (Or.inl ⟨by rfl, ?_⟩) ?_ ?_
  rotate_left
  ·intro w'
   go_simp
   with_reducible rfl
  rotate_left
  ·simp only [Act.put, zA_, z0_, z1_, i64_w, i32_w]
   rfl
  refine done_ (by kernel_rfl) ?_
  clear kg0_1
  go_wp2
  all_goals (go_ret; exact ⟨_, _, _, _, _, _, _, _, _, rfl, (uGrow_w Wg_1), Wc2, hq0, Wq1, Wq2, Wq3, Wq4, Wq5, Wq6, Bg, HS.out⟩)
theorem slowH1_0 (g_0 g_1 g_2 g_3 g_4 g_5 g_6 g_7 c1 c2 c3 c4 c5 c6 c7 c8 c9 c10 c11 c12 c13 c14 c16 c17 c18 c19 c20 c22 c23 c24 c25 c26 c27 c28 c29 c30 c31 c32 c33 c34 c35 c36 c37 c39 c40 : Int) (g_8 g_9 c15 c38 : Bool) (A21 : Option Addr) (g n21 k21 : Nat)  (w : World) (h0 : (decide (c2 ≤ c1)) = true) (Bg : Blk w g 36 (K36 1 c1 c2 c3 c4 c5 c6 c7 c8 c9 c10 c11 c12 c13 c14 c15 c16 c17 c18 c19 c20 (.slice A21 n21 k21) c22 c23 c24 c25 c26 c27 c28 c29 c30 c31 c32 c33 c34 c35 c36 c37 c38 c39 c40)) :
  Calls Try.prog 21 #[.pointer (some ⟨g, 0, none⟩), .agg #[.int .u64 g_0, .int .u64 g_1, .int .u64 g_2, .int .u64 g_3, .int .u64 g_4, .int .u64 g_5, .int .u64 g_6, .int .u64 g_7, .bool g_8, .bool g_9]] w fun e w' => e = .returned (.int .u64 g_1) ∧ Blk w' g 36 (K36 1 c1 c2 c3 c4 c5 c6 c7 c8 c9 c10 c11 c12 c13 c14 c15 c16 c17 c18 c19 c20 (.slice A21 n21 k21) c22 c23 c24 c25 c26 c27 c28 c29 c30 c31 c32 c33 c34 c35 c36 c37 c38 c39 c40) ∧ w.grownBy w' (some g) := by
 have hu40 := Try.underlying40
 have HS := Turned.refl g w
 go_enter Try.func21, Try.ntmps21
 go_wp2_with (first | (refine seg_new rfl (N := 3) rfl [.int .u64 g_0, .int .u64 g_1, .int .u64 g_2, .int .u64 g_3, .int .u64 g_4, .int .u64 g_5, .int .u64 g_6, .int .u64 g_7, .bool g_8, .bool g_9] 40 ?hr ?_; (case hr => rfl); intro g0 hg w1 hn hl; have Ng0_g := ne_new Bg hg; have GEg0 := HS.ge hg; clear hg; replace Bg := Bg.below hl; replace HS := HS.below hl; have Bg0 := hn; clear hl hn) | ((go_at_call 36); (with_reducible refine (parts_reno g _ ((Bg.cell 0).trans rfl)).mono ?_); rintro e w2 ⟨rfl, hd⟩; have hl := hd.below; clear hd; replace Bg := Bg.below hl; replace Bg0 := Bg0.below hl; replace HS := HS.below hl; clear hl; have kg_1 := Bg.at 1 rfl; have kg_2 := Bg.at 2 rfl))
 all_goals go_quiet (fail)
 all_goals (generalize hW : World.drewN w2 _ = w3; have hl : Below w2.heap.size w2 w3 := (by rw [← hW]; exact pw_below_drewN (Below.refl _ _) _); clear hW; replace Bg := Bg.below hl; replace Bg0 := Bg0.below hl; replace HS := HS.below hl; clear hl; clear kg_1 kg_2; have kg0_1 := Bg0.at 1 rfl)
 go_wp2
 all_goals (go_ret; exact ⟨rfl, Bg, HS.out⟩)
set_option maxHeartbeats 1000000 in
theorem slowA1 (c1 : Int) (c2 : Int) (c3 : Int) (c4 : Int) (c5 : Int) (c6 : Int) (c7 : Int) (c8 : Int) (c9 : Int) (c10 : Int) (c11 : Int) (c12 : Int) (c13 : Int) (c14 : Int) (c15 : Bool) (c16 : Int) (c17 : Int) (c18 : Int) (c19 : Int) (c20 : Int) (A21 : Option Addr) (n21 : Nat) (k21 : Nat) (c22 : Int) (c23 : Int) (c24 : Int) (c25 : Int) (c26 : Int) (c27 : Int) (c28 : Int) (c29 : Int) (c30 : Int) (c31 : Int) (c32 : Int) (c33 : Int) (c34 : Int) (c35 : Int) (c36 : Int) (c37 : Int) (c38 : Bool) (c39 : Int) (c40 : Int) (g_0 : Int) (g_1 : Int) (g_2 : Int) (g_3 : Int) (g_4 : Int) (g_5 : Int) (g_6 : Int) (g_7 : Int) (g_8 : Bool) (g_9 : Bool) (Wc1 : W64 c1) (Wc2 : W64 c2) (Wc3 : W64 c3) (Wc4 : W64 c4) (Wc6 : W64 c6) (Wc7 : W64 c7) (Wc8 : W64 c8) (Wc9 : W64 c9) (Wc10 : W64 c10) (Wc11 : W64 c11) (Wc12 : W64 c12) (Wc13 : W64 c13) (Wc14 : W64 c14) (Wc16 : W64 c16) (Wc17 : W64 c17) (Wc18 : W64 c18) (Wc19 : W64 c19) (Wc22 : W64 c22) (Wc23 : W64 c23) (Wc24 : W64 c24) (Wc25 : W64 c25) (Wc26 : W64 c26) (Wc27 : W64 c27) (Wc28 : W64 c28) (Wc29 : W64 c29) (Wc30 : W64 c30) (Wc31 : W64 c31) (Wc32 : W64 c32) (Wc33 : W64 c33) (Wc34 : W64 c34) (Wc35 : W64 c35) (Wc36 : W64 c36) (Wc37 : W64 c37) (Wc39 : W64 c39) (Wc40 : W64 c40) (Wg_0 : W64 g_0) (Wg_1 : W64 g_1) (Wg_2 : W64 g_2) (Wg_3 : W64 g_3) (Wg_4 : W64 g_4) (Wg_5 : W64 g_5) (Wg_6 : W64 g_6) (Wg_7 : W64 g_7) (g : Nat) (hp_c5 : c5 = 0 ∨ c5 = 1 ∨ c5 = 2) (w : World) (Bg : Blk w g 36 (K36 1 c1 c2 c3 c4 c5 c6 c7 c8 c9 c10 c11 c12 c13 c14 c15 c16 c17 c18 c19 c20 (.slice A21 n21 k21) c22 c23 c24 c25 c26 c27 c28 c29 c30 c31 c32 c33 c34 c35 c36 c37 c38 c39 c40)) :
  Calls Try.prog 21 #[.pointer (some ⟨g, 0, none⟩), .agg #[.int .u64 g_0, .int .u64 g_1, .int .u64 g_2, .int .u64 g_3, .int .u64 g_4, .int .u64 g_5, .int .u64 g_6, .int .u64 g_7, .bool g_8, .bool g_9]] w fun e w' => ∃ (q th p0 p1 p2 p3 p4 p5 p6 : Int), e = .returned (.int .u64 q) ∧ W64 q ∧ W64 th ∧ (p0 = 0 ∨ p0 = 1 ∨ p0 = 2) ∧ W64 p1 ∧ W64 p2 ∧ W64 p3 ∧ W64 p4 ∧ W64 p5 ∧ W64 p6 ∧ Blk w' g 36 (K36 1 c1 th c3 c4 p0 p1 p2 p3 p4 p5 p6 c12 c13 c14 c15 c16 c17 c18 c19 c20 (.slice A21 n21 k21) c22 c23 c24 c25 c26 c27 c28 c29 c30 c31 c32 c33 c34 c35 c36 c37 c38 c39 c40) ∧ w.grownBy w' (some g) := by
 by_cases h : c2 ≤ c1
 ·refine (slowH1_0 g_0 g_1 g_2 g_3 g_4 g_5 g_6 g_7 c1 c2 c3 c4 c5 c6 c7 c8 c9 c10 c11 c12 c13 c14 c16 c17 c18 c19 c20 c22 c23 c24 c25 c26 c27 c28 c29 c30 c31 c32 c33 c34 c35 c36 c37 c39 c40 g_8 g_9 c15 c38 A21 g n21 k21 w (decide_eq_true h) Bg).mono ?_
  rintro e w' ⟨rfl, hn, hw⟩
  exact ⟨_, _, _, _, _, _, _, _, _, rfl, Wg_1, Wc2, hp_c5, Wc6, Wc7, Wc8, Wc9, Wc10, Wc11, hn, hw⟩
 exact slowG1 g_0 g_1 g_2 g_3 g_4 g_5 g_6 g_7 g_8 g_9 c1 c2 c3 c4 c5 c6 c7 c8 c9 c10 c11 c12 c13 c14 c15 c16 c17 c18 c19 c20 c22 c23 c24 c25 c26 c27 c28 c29 c30 c31 c32 c33 c34 c35 c36 c37 c38 c39 c40 Wg_0 Wg_1 Wg_2 Wg_3 Wg_4 Wg_5 Wg_6 Wg_7 Wc1 Wc2 Wc3 Wc4 Wc6 Wc7 Wc8 Wc9 Wc10 Wc11 Wc12 Wc13 Wc14 Wc16 Wc17 Wc18 Wc19 Wc22 Wc23 Wc24 Wc25 Wc26 Wc27 Wc28 Wc29 Wc30 Wc31 Wc32 Wc33 Wc34 Wc35 Wc36 Wc37 Wc39 Wc40 g A21 n21 k21 hp_c5 (decide_eq_false h) w Bg
theorem slowG2 (g_0 : Int) (g_1 : Int) (g_2 : Int) (g_3 : Int) (g_4 : Int) (g_5 : Int) (g_6 : Int) (g_7 : Int) (g_8 : Bool) (g_9 : Bool) (c1 : Int) (c2 : Int) (c3 : Int) (c4 : Int) (c5 : Int) (c6 : Int) (c7 : Int) (c8 : Int) (c9 : Int) (c10 : Int) (c11 : Int) (c12 : Int) (c13 : Int) (c14 : Int) (c15 : Bool) (c16 : Int) (c17 : Int) (c18 : Int) (c19 : Int) (c20 : Int) (c22 : Int) (c23 : Int) (c24 : Int) (c25 : Int) (c26 : Int) (c27 : Int) (c28 : Int) (c29 : Int) (c30 : Int) (c31 : Int) (c32 : Int) (c33 : Int) (c34 : Int) (c35 : Int) (c36 : Int) (c37 : Int) (c38 : Bool) (c39 : Int) (c40 : Int) (Wg_0 : W64 g_0) (Wg_1 : W64 g_1) (Wg_2 : W64 g_2) (Wg_3 : W64 g_3) (Wg_4 : W64 g_4) (Wg_5 : W64 g_5) (Wg_6 : W64 g_6) (Wg_7 : W64 g_7) (Wc1 : W64 c1) (Wc2 : W64 c2) (Wc3 : W64 c3) (Wc4 : W64 c4) (Wc6 : W64 c6) (Wc7 : W64 c7) (Wc8 : W64 c8) (Wc9 : W64 c9) (Wc10 : W64 c10) (Wc11 : W64 c11) (Wc12 : W64 c12) (Wc13 : W64 c13) (Wc14 : W64 c14) (Wc16 : W64 c16) (Wc17 : W64 c17) (Wc18 : W64 c18) (Wc19 : W64 c19) (Wc22 : W64 c22) (Wc23 : W64 c23) (Wc24 : W64 c24) (Wc25 : W64 c25) (Wc26 : W64 c26) (Wc27 : W64 c27) (Wc28 : W64 c28) (Wc29 : W64 c29) (Wc30 : W64 c30) (Wc31 : W64 c31) (Wc32 : W64 c32) (Wc33 : W64 c33) (Wc34 : W64 c34) (Wc35 : W64 c35) (Wc36 : W64 c36) (Wc37 : W64 c37) (Wc39 : W64 c39) (Wc40 : W64 c40) (g : Nat) (A21 : Option Addr) (n21 : Nat) (k21 : Nat) (hp_c5 : c5 = 0 ∨ c5 = 1 ∨ c5 = 2) (h0 : (decide (c13 ≤ c12)) = false) (w : World) (Bg : Blk w g 36 (K36 2 c1 c2 c3 c4 c5 c6 c7 c8 c9 c10 c11 c12 c13 c14 c15 c16 c17 c18 c19 c20 (.slice A21 n21 k21) c22 c23 c24 c25 c26 c27 c28 c29 c30 c31 c32 c33 c34 c35 c36 c37 c38 c39 c40)) :
  Calls Try.prog 21 #[.pointer (some ⟨g, 0, none⟩), .agg #[.int .u64 g_0, .int .u64 g_1, .int .u64 g_2, .int .u64 g_3, .int .u64 g_4, .int .u64 g_5, .int .u64 g_6, .int .u64 g_7, .bool g_8, .bool g_9]] w fun e w' => ∃ (q th p0 p1 p2 p3 p4 p5 p6 : Int), e = .returned (.int .u64 q) ∧ W64 q ∧ W64 th ∧ (p0 = 0 ∨ p0 = 1 ∨ p0 = 2) ∧ W64 p1 ∧ W64 p2 ∧ W64 p3 ∧ W64 p4 ∧ W64 p5 ∧ W64 p6 ∧ Blk w' g 36 (K36 2 c1 c2 c3 c4 p0 p1 p2 p3 p4 p5 p6 c12 th c14 c15 c16 c17 c18 c19 c20 (.slice A21 n21 k21) c22 c23 c24 c25 c26 c27 c28 c29 c30 c31 c32 c33 c34 c35 c36 c37 c38 c39 c40) ∧ w.grownBy w' (some g) := by
 have hu27 := Try.underlying27
 have hu36 := Try.underlying36
 have hu40 := Try.underlying40
 have HS := Turned.refl g w
 go_enter Try.func21, Try.ntmps21
 go_wp2_with (first | (refine seg_new rfl (N := 3) rfl [.int .u64 g_0, .int .u64 g_1, .int .u64 g_2, .int .u64 g_3, .int .u64 g_4, .int .u64 g_5, .int .u64 g_6, .int .u64 g_7, .bool g_8, .bool g_9] 40 ?hr ?_; (case hr => rfl); intro g0 hg w1 hn hl; have Ng0_g := ne_new Bg hg; have GEg0 := HS.ge hg; clear hg; replace Bg := Bg.below hl; replace HS := HS.below hl; have Bg0 := hn; clear hl hn) | ((go_at_call 36); (with_reducible refine (parts_cubic g _ ((Bg.cell 0).trans rfl)).mono ?_); rintro e w2 ⟨rfl, hd⟩; have hl := hd.below; clear hd; replace Bg := Bg.below hl; replace Bg0 := Bg0.below hl; replace HS := HS.below hl; clear hl; have kg_12 := Bg.at 12 rfl; have kg_13 := Bg.at 13 rfl))
 all_goals go_quiet (fail)
 all_goals (generalize hW : World.drewN w2 _ = w3; have hl : Below w2.heap.size w2 w3 := (by rw [← hW]; exact pw_below_drewN (Below.refl _ _) _); clear hW; replace Bg := Bg.below hl; replace Bg0 := Bg0.below hl; replace HS := HS.below hl; clear hl; clear kg_12 kg_13; have kg_5 := Bg.at 5 rfl; have zg_5 := Bg.frozen 5; have kg_6 := Bg.at 6 rfl; have zg_6 := Bg.frozen 6; have kg_7 := Bg.at 7 rfl; have zg_7 := Bg.frozen 7; have kg_8 := Bg.at 8 rfl; have zg_8 := Bg.frozen 8; have kg_9 := Bg.at 9 rfl; have zg_9 := Bg.frozen 9; have kg_10 := Bg.at 10 rfl; have zg_10 := Bg.frozen 10; have kg_11 := Bg.at 11 rfl; have zg_11 := Bg.frozen 11; have kg0_3 := Bg0.at 3 rfl; have kg0_4 := Bg0.at 4 rfl; have kg0_5 := Bg0.at 5 rfl)
 go_wp2
 refine start_ (n := 15) (S := fun w' => Blk w' g 36 (K36 2 c1 c2 c3 c4 c5 c6 c7 c8 c9 c10 c11 c12 c13 c14 c15 c16 c17 c18 c19 c20 (.slice A21 n21 k21) c22 c23 c24 c25 c26 c27 c28 c29 c30 c31 c32 c33 c34 c35 c36 c37 c38 c39 c40) ∧ w'.cell? ⟨g0, 3, none⟩ = some (.int .u64 g_3) ∧ w'.cell? ⟨g0, 4, none⟩ = some (.int .u64 g_4) ∧ w'.cell? ⟨g0, 5, none⟩ = some (.int .u64 g_5)) (ds := [14]) (bs 15 0) (by kernel_rfl) rfl rfl ⟨Bg.drew, ((Bg0.drew.cell 3).trans rfl), ((Bg0.drew.cell 4).trans rfl), ((Bg0.drew.cell 5).trans rfl)⟩ (fun hHeld => ?_)
 generalize hWd : World.drew w3 = w4 at hHeld ⊢
 have hl : Below w3.heap.size w3 w4 := (by rw [← hWd]; exact below_drew1 (Below.refl _ _))
 clear hWd
 replace Bg := Bg.below hl; replace Bg0 := Bg0.below hl; replace HS := HS.below hl; clear hl; replace kg_5 := Bg.at 5 rfl; replace zg_5 := Bg.frozen 5; replace kg_6 := Bg.at 6 rfl; replace zg_6 := Bg.frozen 6; replace kg_7 := Bg.at 7 rfl; replace zg_7 := Bg.frozen 7; replace kg_8 := Bg.at 8 rfl; replace zg_8 := Bg.frozen 8; replace kg_9 := Bg.at 9 rfl; replace zg_9 := Bg.frozen 9; replace kg_10 := Bg.at 10 rfl; replace zg_10 := Bg.frozen 10; replace kg_11 := Bg.at 11 rfl; replace zg_11 := Bg.frozen 11; replace kg0_3 := Bg0.at 3 rfl; replace kg0_4 := Bg0.at 4 rfl; replace kg0_5 := Bg0.at 5 rfl
 refine pu 0 23 (.pointer (some ⟨g, 0, none⟩)) 1 rfl rfl (by kernel_rfl) (fun _ _ _ h => h) (by rfl) (fun _ => by kernel_rfl) rfl ?_
 refine pu 1 24 (.pointer (some ⟨g, 0, none⟩)) 3 rfl rfl (by kernel_rfl) (fun _ _ _ h => h) (by rfl) (fun _ => by kernel_rfl) rfl ?_
 refine pu 2 25 (.pointer (some ⟨g, 0, none⟩)) 7 rfl rfl (by kernel_rfl) (fun _ _ _ h => h) (by rfl) (fun _ => by kernel_rfl) rfl ?_
 refine pu 3 26 (.pointer (some ⟨g, 5, none⟩)) 15 rfl rfl (by kernel_rfl) (fun _ _ _ h => h) (by rfl) (fun _ => by kernel_rfl) rfl ?_
 refine pu 5 28 (.pointer (some ⟨g0, 3, none⟩)) 47 rfl rfl (by kernel_rfl) (fun _ _ _ h => h) (by rfl) (fun _ => by kernel_rfl) rfl ?_
 refine pu 7 30 (.pointer (some ⟨g0, 4, none⟩)) 175 rfl rfl (by kernel_rfl) (fun _ _ _ h => h) (by rfl) (fun _ => by kernel_rfl) rfl ?_
 refine pu 9 32 (.pointer (some ⟨g0, 5, none⟩)) 687 rfl rfl (by kernel_rfl) (fun _ _ _ h => h) (by rfl) (fun _ => by kernel_rfl) rfl ?_
 refine norm_ (a' := ?_) ?_ ?_
 rotate_left
 ·simp only [Act.put, zA_, z0_, z1_, i64_w, i32_w]
  rfl
 refine take_ (i := 4) (N := some 27) (v := .agg #[.int .i64 c5, .int .u64 c6, .int .u64 c7, .int .u64 c8, .int .u64 c9, .int .u64 c10, .int .u64 c11]) (a' := ?_) (bs 15 703) rfl rfl (by kernel_rfl) (fun _ _ _ h => h) (Or.inl ⟨by rfl, ?_⟩) hHeld ?_ ?_
 ·rintro w' ⟨s0, s1, s2, s3⟩
  exact exec_seg_load 27 (.tmp 26) (by rfl) g 5 [.int .i64 c5, .int .u64 c6, .int .u64 c7, .int .u64 c8, .int .u64 c9, .int .u64 c10, .int .u64 c11] (by rfl) s0 (by rfl) Try.underlying27 (by rfl) (by kernel_rfl)
 rotate_left
 ·simp only [Act.put, zA_, z0_, z1_, i64_w, i32_w]
  rfl
 refine take_ (i := 6) (N := some 29) (v := ?_) (a' := ?_) (bs 15 767) rfl rfl (by kernel_rfl) (fun _ _ _ h => h) (Or.inl ⟨by rfl, ?_⟩) hHeld ?_ ?_
 rotate_left
 ·rintro w' ⟨s0, s1, s2, s3⟩
  go_simp
  with_reducible rfl
 rotate_left
 ·simp only [Act.put, zA_, z0_, z1_, i64_w, i32_w]
  rfl
 refine take_ (i := 8) (N := some 31) (v := ?_) (a' := ?_) (bs 15 1023) rfl rfl (by kernel_rfl) (fun _ _ _ h => h) (Or.inl ⟨by rfl, ?_⟩) hHeld ?_ ?_
 rotate_left
 ·rintro w' ⟨s0, s1, s2, s3⟩
  go_simp
  with_reducible rfl
 rotate_left
 ·simp only [Act.put, zA_, z0_, z1_, i64_w, i32_w]
  rfl
 refine take_ (i := 10) (N := some 33) (v := ?_) (a' := ?_) (bs 15 2047) rfl rfl (by kernel_rfl) (fun _ _ _ h => h) (Or.inl ⟨by rfl, ?_⟩) hHeld ?_ ?_
 rotate_left
 ·rintro w' ⟨s0, s1, s2, s3⟩
  go_simp
  with_reducible rfl
 rotate_left
 ·simp only [Act.put, zA_, z0_, z1_, i64_w, i32_w]
  rfl
 refine one_ (i := 11) (N := some 34) (bs 15 4095) rfl rfl (by kernel_rfl) (by decide) (fun K hK => ?_)
 refine goes_ Try.func49 (by kernel_rfl) rfl #[.agg #[.int .i64 c5, .int .u64 c6, .int .u64 c7, .int .u64 c8, .int .u64 c9, .int .u64 c10, .int .u64 c11], .int .u64 g_3, .int .u64 g_4, .int .u64 g_5] (by rfl) rfl rfl (by simp only [List.map_toArray, List.map_cons, List.map_nil]; rfl) ?_
 with_reducible refine (sampleG c5 c6 c7 c8 c9 c10 c11 g_3 g_4 g_5 hp_c5 Wc6 Wc7 Wc8 Wc9 Wc10 Wc11 Wg_3 Wg_4 Wg_5 _).mono ?_
 rintro e w5 ⟨q0, q1, q2, q3, q4, q5, q6, rfl, hq0, Wq1, Wq2, Wq3, Wq4, Wq5, Wq6, hl⟩
 refine ⟨_, rfl, ?_⟩
 replace Bg := Bg.below hl; replace Bg0 := Bg0.below hl; replace HS := HS.below hl; clear hl; replace kg_5 := Bg.at 5 rfl; replace zg_5 := Bg.frozen 5; replace kg_6 := Bg.at 6 rfl; replace zg_6 := Bg.frozen 6; replace kg_7 := Bg.at 7 rfl; replace zg_7 := Bg.frozen 7; replace kg_8 := Bg.at 8 rfl; replace zg_8 := Bg.frozen 8; replace kg_9 := Bg.at 9 rfl; replace zg_9 := Bg.frozen 9; replace kg_10 := Bg.at 10 rfl; replace zg_10 := Bg.frozen 10; replace kg_11 := Bg.at 11 rfl; replace zg_11 := Bg.frozen 11; replace kg0_3 := Bg0.at 3 rfl; replace kg0_4 := Bg0.at 4 rfl; replace kg0_5 := Bg0.at 5 rfl
 refine hK.out _ _ ⟨Bg, ((Bg0.cell 3).trans rfl), ((Bg0.cell 4).trans rfl), ((Bg0.cell 5).trans rfl)⟩ (fun hHeld => ?_)
 clear hK K
 refine norm_ (a' := ?_) ?_ ?_
 rotate_left
 ·show Act.put _ (some 34) _ = _
  simp only [Act.put, zA_, z0_, z1_, i64_w, i32_w]
  rfl
 refine pu 12 35 (.pointer (some ⟨g, 0, none⟩)) 8191 rfl rfl (by kernel_rfl) (fun _ _ _ h => h) (by rfl) (fun _ => by kernel_rfl) rfl ?_
 refine pu 13 36 (.pointer (some ⟨g, 5, none⟩)) 16383 rfl rfl (by kernel_rfl) (fun _ _ _ h => h) (by rfl) (fun _ => by kernel_rfl) rfl ?_
 refine norm_ (a' := ?_) ?_ ?_
 rotate_left
 ·simp only [Act.put, zA_, z0_, z1_, i64_w, i32_w]
  rfl
 refine last_ (i := 14) (N := none) (bs 15 32767) rfl rfl (by kernel_rfl) (by decide) (fun K hK => ?_)
 refine skip_ (w1 := ?_) (by rfl) rfl ?_ ?_
 rotate_left
 ·go_simp
  rfl
 refine hK.out _ _ ?_
 clear hK K
 refine done_ (by kernel_rfl) ?_
 refine letter ?_
 intro w6 hW
 have Bn_ : Blk w6 g 36 (K36 2 c1 c2 c3 c4 q0 q1 q2 q3 q4 q5 q6 c12 c13 c14 c15 c16 c17 c18 c19 c20 (.slice A21 n21 k21) c22 c23 c24 c25 c26 c27 c28 c29 c30 c31 c32 c33 c34 c35 c36 c37 c38 c39 c40) := (by rw [hW]; (repeat (first | (with_reducible refine Blk.drewN ?_ _) | (with_reducible refine Blk.drew ?_))); refine Blk.set (l := (K36 2 c1 c2 c3 c4 q0 q1 q2 q3 q4 q5 c11 c12 c13 c14 c15 c16 c17 c18 c19 c20 (.slice A21 n21 k21) c22 c23 c24 c25 c26 c27 c28 c29 c30 c31 c32 c33 c34 c35 c36 c37 c38 c39 c40)) ?_ 11 _ rfl; (repeat (first | (with_reducible refine Blk.drewN ?_ _) | (with_reducible refine Blk.drew ?_))); refine Blk.set (l := (K36 2 c1 c2 c3 c4 q0 q1 q2 q3 q4 c10 c11 c12 c13 c14 c15 c16 c17 c18 c19 c20 (.slice A21 n21 k21) c22 c23 c24 c25 c26 c27 c28 c29 c30 c31 c32 c33 c34 c35 c36 c37 c38 c39 c40)) ?_ 10 _ rfl; (repeat (first | (with_reducible refine Blk.drewN ?_ _) | (with_reducible refine Blk.drew ?_))); refine Blk.set (l := (K36 2 c1 c2 c3 c4 q0 q1 q2 q3 c9 c10 c11 c12 c13 c14 c15 c16 c17 c18 c19 c20 (.slice A21 n21 k21) c22 c23 c24 c25 c26 c27 c28 c29 c30 c31 c32 c33 c34 c35 c36 c37 c38 c39 c40)) ?_ 9 _ rfl; (repeat (first | (with_reducible refine Blk.drewN ?_ _) | (with_reducible refine Blk.drew ?_))); refine Blk.set (l := (K36 2 c1 c2 c3 c4 q0 q1 q2 c8 c9 c10 c11 c12 c13 c14 c15 c16 c17 c18 c19 c20 (.slice A21 n21 k21) c22 c23 c24 c25 c26 c27 c28 c29 c30 c31 c32 c33 c34 c35 c36 c37 c38 c39 c40)) ?_ 8 _ rfl; (repeat (first | (with_reducible refine Blk.drewN ?_ _) | (with_reducible refine Blk.drew ?_))); refine Blk.set (l := (K36 2 c1 c2 c3 c4 q0 q1 c7 c8 c9 c10 c11 c12 c13 c14 c15 c16 c17 c18 c19 c20 (.slice A21 n21 k21) c22 c23 c24 c25 c26 c27 c28 c29 c30 c31 c32 c33 c34 c35 c36 c37 c38 c39 c40)) ?_ 7 _ rfl; (repeat (first | (with_reducible refine Blk.drewN ?_ _) | (with_reducible refine Blk.drew ?_))); refine Blk.set (l := (K36 2 c1 c2 c3 c4 q0 c6 c7 c8 c9 c10 c11 c12 c13 c14 c15 c16 c17 c18 c19 c20 (.slice A21 n21 k21) c22 c23 c24 c25 c26 c27 c28 c29 c30 c31 c32 c33 c34 c35 c36 c37 c38 c39 c40)) ?_ 6 _ rfl; (repeat (first | (with_reducible refine Blk.drewN ?_ _) | (with_reducible refine Blk.drew ?_))); refine Blk.set (l := (K36 2 c1 c2 c3 c4 c5 c6 c7 c8 c9 c10 c11 c12 c13 c14 c15 c16 c17 c18 c19 c20 (.slice A21 n21 k21) c22 c23 c24 c25 c26 c27 c28 c29 c30 c31 c32 c33 c34 c35 c36 c37 c38 c39 c40)) ?_ 5 _ rfl; (repeat (first | (with_reducible refine Blk.drewN ?_ _) | (with_reducible refine Blk.drew ?_))); exact Bg)
 replace Bg := Bn_
 clear Bn_
 have Bn_ : Blk w6 g0 40 [.int .u64 g_0, .int .u64 g_1, .int .u64 g_2, .int .u64 g_3, .int .u64 g_4, .int .u64 g_5, .int .u64 g_6, .int .u64 g_7, .bool g_8, .bool g_9] := (by rw [hW]; (repeat (first | (with_reducible refine Blk.drewN ?_ _) | (with_reducible refine Blk.drew ?_))); refine Blk.setFar ?_ Ng0_g; (repeat (first | (with_reducible refine Blk.drewN ?_ _) | (with_reducible refine Blk.drew ?_))); refine Blk.setFar ?_ Ng0_g; (repeat (first | (with_reducible refine Blk.drewN ?_ _) | (with_reducible refine Blk.drew ?_))); refine Blk.setFar ?_ Ng0_g; (repeat (first | (with_reducible refine Blk.drewN ?_ _) | (with_reducible refine Blk.drew ?_))); refine Blk.setFar ?_ Ng0_g; (repeat (first | (with_reducible refine Blk.drewN ?_ _) | (with_reducible refine Blk.drew ?_))); refine Blk.setFar ?_ Ng0_g; (repeat (first | (with_reducible refine Blk.drewN ?_ _) | (with_reducible refine Blk.drew ?_))); refine Blk.setFar ?_ Ng0_g; (repeat (first | (with_reducible refine Blk.drewN ?_ _) | (with_reducible refine Blk.drew ?_))); refine Blk.setFar ?_ Ng0_g; (repeat (first | (with_reducible refine Blk.drewN ?_ _) | (with_reducible refine Blk.drew ?_))); exact Bg0)
 replace Bg0 := Bn_
 clear Bn_
 have HS_ : Turned g w w6 := (by rw [hW]; repeat (first | (with_reducible exact HS) | (with_reducible refine Turned.drewN ?_ _) | (with_reducible refine Turned.drew ?_) | (with_reducible refine Turned.set ?_)))
 replace HS := HS_
 clear HS_ hW
 clear zg_5 kg_6 zg_6 kg_7 zg_7 kg_8 zg_8 kg_9 zg_9 kg_10 zg_10 kg_11 zg_11 kg0_3 kg0_4 kg0_5; replace kg_5 := Bg.at 5 rfl
 go_upto_if 42 with (fail)
 (try simp only [Act.put, zA_, z0_, z1_])
 go_cut [] (fun wc => Blk wc g 36 (K36 2 c1 c2 c3 c4 q0 q1 q2 q3 q4 q5 q6 c12 c13 c14 c15 c16 c17 c18 c19 c20 (.slice A21 n21 k21) c22 c23 c24 c25 c26 c27 c28 c29 c30 c31 c32 c33 c34 c35 c36 c37 c38 c39 c40) ∧ Blk wc g0 40 [.int .u64 g_0, .int .u64 g_1, .int .u64 g_2, .int .u64 g_3, .int .u64 g_4, .int .u64 g_5, .int .u64 g_6, .int .u64 g_7, .bool g_8, .bool g_9] ∧ Turned g w wc)
 case first =>
  rcases Bool.eq_false_or_eq_true (q0 == 2) with h1 | h1
  ·(try rw [h1])
   clear kg_5; have kg_12 := Bg.at 12 rfl
   go_wp2_with (first | (refine seg_store rfl rfl 23 (.tmp 47) (.tmp 46) rfl g 13 [.int .u64 c12] (K36 2 c1 c2 c3 c4 q0 q1 q2 q3 q4 q5 q6 c12 c12 c14 c15 c16 c17 c18 c19 c20 (.slice A21 n21 k21) c22 c23 c24 c25 c26 c27 c28 c29 c30 c31 c32 c33 c34 c35 c36 c37 c38 c39 c40) (.int .u64 c12) rfl rfl rfl Bg (by kernel_rfl) (nle rfl) rfl rfl ?_; intro w7 hn hw; replace Bg0 := Bg0.grown hw Ng0_g; replace HS := HS.same hw; replace Bg := hn; clear hw; clear kg_12; have kg0_1 := Bg0.at 1 rfl; clear hn))
   all_goals (go_ret; exact ⟨_, _, _, _, _, _, _, _, _, rfl, Wg_1, Wc12, hq0, Wq1, Wq2, Wq3, Wq4, Wq5, Wq6, Bg, HS.out⟩)
  ·(try rw [h1])
   clear kg_5
   go_wp2
   all_goals go_meet
   case rel => exact ⟨Bg, Bg0, HS⟩
 case rest =>
  clear kg_5 Bg Bg0 HS
  obtain ⟨Bg, Bg0, HS⟩ := hcut
  have kg0_1 := Bg0.at 1 rfl
  go_wp2
  refine start_ (n := 8) (S := fun w' => Blk w' g 36 (K36 2 c1 c2 c3 c4 q0 q1 q2 q3 q4 q5 q6 c12 c13 c14 c15 c16 c17 c18 c19 c20 (.slice A21 n21 k21) c22 c23 c24 c25 c26 c27 c28 c29 c30 c31 c32 c33 c34 c35 c36 c37 c38 c39 c40) ∧ w'.cell? ⟨g0, 1, none⟩ = some (.int .u64 g_1)) (ds := []) (bs 8 0) (by kernel_rfl) rfl rfl ⟨Bg.drew, ((Bg0.drew.cell 1).trans rfl)⟩ (fun hHeld => ?_)
  generalize hWd : World.drew wc = w61 at hHeld ⊢
  have hl : Below wc.heap.size wc w61 := (by rw [← hWd]; exact below_drew1 (Below.refl _ _))
  clear hWd
  replace Bg := Bg.below hl; replace Bg0 := Bg0.below hl; replace HS := HS.below hl; clear hl; replace kg0_1 := Bg0.at 1 rfl
  refine pu 0 50 (.pointer (some ⟨g, 0, none⟩)) 1 rfl rfl (by kernel_rfl) (fun _ _ _ h => h) (by rfl) (fun _ => by kernel_rfl) rfl ?_
  refine pu 1 51 (.pointer (some ⟨g, 0, none⟩)) 3 rfl rfl (by kernel_rfl) (fun _ _ _ h => h) (by rfl) (fun _ => by kernel_rfl) rfl ?_
  refine pu 2 52 (.pointer (some ⟨g, 5, none⟩)) 7 rfl rfl (by kernel_rfl) (fun _ _ _ h => h) (by rfl) (fun _ => by kernel_rfl) rfl ?_
  refine pu 4 54 (.pointer (some ⟨g0, 1, none⟩)) 23 rfl rfl (by kernel_rfl) (fun _ _ _ h => h) (by rfl) (fun _ => by kernel_rfl) rfl ?_
  refine norm_ (a' := ?_) ?_ ?_
  rotate_left
  ·simp only [Act.put, zA_, z0_, z1_, i64_w, i32_w]
   rfl
  refine take_ (i := 3) (N := some 53) (v := .agg #[.int .i64 q0, .int .u64 q1, .int .u64 q2, .int .u64 q3, .int .u64 q4, .int .u64 q5, .int .u64 q6]) (a' := ?_) (bs 8 31) rfl rfl (by kernel_rfl) (fun _ _ _ h => h) (Or.inl ⟨by rfl, ?_⟩) hHeld ?_ ?_
  ·rintro w' ⟨s0, s1⟩
   exact exec_seg_load 27 (.tmp 52) (by rfl) g 5 [.int .i64 q0, .int .u64 q1, .int .u64 q2, .int .u64 q3, .int .u64 q4, .int .u64 q5, .int .u64 q6] (by rfl) s0 (by rfl) Try.underlying27 (by rfl) (by kernel_rfl)
  rotate_left
  ·simp only [Act.put, zA_, z0_, z1_, i64_w, i32_w]
   rfl
  refine take_ (i := 5) (N := some 55) (v := ?_) (a' := ?_) (bs 8 63) rfl rfl (by kernel_rfl) (fun _ _ _ h => h) (Or.inl ⟨by rfl, ?_⟩) hHeld ?_ ?_
  rotate_left
  ·rintro w' ⟨s0, s1⟩
   go_simp
   with_reducible rfl
  rotate_left
  ·simp only [Act.put, zA_, z0_, z1_, i64_w, i32_w]
   rfl
  refine one_ (i := 6) (N := some 56) (bs 8 127) rfl rfl (by kernel_rfl) (by decide) (fun K hK => ?_)
  refine goes_ Try.func50 (by kernel_rfl) rfl #[.agg #[.int .i64 q0, .int .u64 q1, .int .u64 q2, .int .u64 q3, .int .u64 q4, .int .u64 q5, .int .u64 q6], .int .u64 g_1] (by rfl) rfl rfl (by simp only [List.map_toArray, List.map_cons, List.map_nil]; rfl) ?_
  with_reducible refine (growC q0 q1 q2 q3 q4 q5 q6 g_1 Wg_1 _).mono ?_
  rintro e w62 ⟨rfl, hl⟩
  refine ⟨_, rfl, ?_⟩
  replace Bg := Bg.below hl; replace Bg0 := Bg0.below hl; replace HS := HS.below hl; clear hl; replace kg0_1 := Bg0.at 1 rfl
  refine hK.out _ _ ⟨Bg, ((Bg0.cell 1).trans rfl)⟩ (fun hHeld => ?_)
  clear hK K
  refine norm_ (a' := ?_) ?_ ?_
  rotate_left
  ·show Act.put _ (some 56) _ = _
   simp only [Act.put, zA_, z0_, z1_, i64_w, i32_w]
   rfl
  refine pure_ (i := 7) (N := some 4) (v := ?_) (a' := ?_) (bs 8 255) rfl rfl (by kernel_rfl) (fun _ _ _ h => h) (Or.inl ⟨by rfl, ?_⟩) ?_ ?_
  rotate_left
  ·intro w'
   go_simp
   with_reducible rfl
  rotate_left
  ·simp only [Act.put, zA_, z0_, z1_, i64_w, i32_w]
   rfl
  refine done_ (by kernel_rfl) ?_
  clear kg0_1
  go_wp2
  all_goals (go_ret; exact ⟨_, _, _, _, _, _, _, _, _, rfl, (uGrow_w Wg_1), Wc13, hq0, Wq1, Wq2, Wq3, Wq4, Wq5, Wq6, Bg, HS.out⟩)
theorem slowH2_0 (g_0 g_1 g_2 g_3 g_4 g_5 g_6 g_7 c1 c2 c3 c4 c5 c6 c7 c8 c9 c10 c11 c12 c13 c14 c16 c17 c18 c19 c20 c22 c23 c24 c25 c26 c27 c28 c29 c30 c31 c32 c33 c34 c35 c36 c37 c39 c40 : Int) (g_8 g_9 c15 c38 : Bool) (A21 : Option Addr) (g n21 k21 : Nat)  (w : World) (h0 : (decide (c13 ≤ c12)) = true) (Bg : Blk w g 36 (K36 2 c1 c2 c3 c4 c5 c6 c7 c8 c9 c10 c11 c12 c13 c14 c15 c16 c17 c18 c19 c20 (.slice A21 n21 k21) c22 c23 c24 c25 c26 c27 c28 c29 c30 c31 c32 c33 c34 c35 c36 c37 c38 c39 c40)) :
  Calls Try.prog 21 #[.pointer (some ⟨g, 0, none⟩), .agg #[.int .u64 g_0, .int .u64 g_1, .int .u64 g_2, .int .u64 g_3, .int .u64 g_4, .int .u64 g_5, .int .u64 g_6, .int .u64 g_7, .bool g_8, .bool g_9]] w fun e w' => e = .returned (.int .u64 g_1) ∧ Blk w' g 36 (K36 2 c1 c2 c3 c4 c5 c6 c7 c8 c9 c10 c11 c12 c13 c14 c15 c16 c17 c18 c19 c20 (.slice A21 n21 k21) c22 c23 c24 c25 c26 c27 c28 c29 c30 c31 c32 c33 c34 c35 c36 c37 c38 c39 c40) ∧ w.grownBy w' (some g) := by
 have hu40 := Try.underlying40
 have HS := Turned.refl g w
 go_enter Try.func21, Try.ntmps21
 go_wp2_with (first | (refine seg_new rfl (N := 3) rfl [.int .u64 g_0, .int .u64 g_1, .int .u64 g_2, .int .u64 g_3, .int .u64 g_4, .int .u64 g_5, .int .u64 g_6, .int .u64 g_7, .bool g_8, .bool g_9] 40 ?hr ?_; (case hr => rfl); intro g0 hg w1 hn hl; have Ng0_g := ne_new Bg hg; have GEg0 := HS.ge hg; clear hg; replace Bg := Bg.below hl; replace HS := HS.below hl; have Bg0 := hn; clear hl hn) | ((go_at_call 36); (with_reducible refine (parts_cubic g _ ((Bg.cell 0).trans rfl)).mono ?_); rintro e w2 ⟨rfl, hd⟩; have hl := hd.below; clear hd; replace Bg := Bg.below hl; replace Bg0 := Bg0.below hl; replace HS := HS.below hl; clear hl; have kg_12 := Bg.at 12 rfl; have kg_13 := Bg.at 13 rfl))
 all_goals go_quiet (fail)
 all_goals (generalize hW : World.drewN w2 _ = w3; have hl : Below w2.heap.size w2 w3 := (by rw [← hW]; exact pw_below_drewN (Below.refl _ _) _); clear hW; replace Bg := Bg.below hl; replace Bg0 := Bg0.below hl; replace HS := HS.below hl; clear hl; clear kg_12 kg_13; have kg0_1 := Bg0.at 1 rfl)
 go_wp2
 all_goals (go_ret; exact ⟨rfl, Bg, HS.out⟩)
set_option maxHeartbeats 1000000 in
theorem slowA2 (c1 : Int) (c2 : Int) (c3 : Int) (c4 : Int) (c5 : Int) (c6 : Int) (c7 : Int) (c8 : Int) (c9 : Int) (c10 : Int) (c11 : Int) (c12 : Int) (c13 : Int) (c14 : Int) (c15 : Bool) (c16 : Int) (c17 : Int) (c18 : Int) (c19 : Int) (c20 : Int) (A21 : Option Addr) (n21 : Nat) (k21 : Nat) (c22 : Int) (c23 : Int) (c24 : Int) (c25 : Int) (c26 : Int) (c27 : Int) (c28 : Int) (c29 : Int) (c30 : Int) (c31 : Int) (c32 : Int) (c33 : Int) (c34 : Int) (c35 : Int) (c36 : Int) (c37 : Int) (c38 : Bool) (c39 : Int) (c40 : Int) (g_0 : Int) (g_1 : Int) (g_2 : Int) (g_3 : Int) (g_4 : Int) (g_5 : Int) (g_6 : Int) (g_7 : Int) (g_8 : Bool) (g_9 : Bool) (Wc1 : W64 c1) (Wc2 : W64 c2) (Wc3 : W64 c3) (Wc4 : W64 c4) (Wc6 : W64 c6) (Wc7 : W64 c7) (Wc8 : W64 c8) (Wc9 : W64 c9) (Wc10 : W64 c10) (Wc11 : W64 c11) (Wc12 : W64 c12) (Wc13 : W64 c13) (Wc14 : W64 c14) (Wc16 : W64 c16) (Wc17 : W64 c17) (Wc18 : W64 c18) (Wc19 : W64 c19) (Wc22 : W64 c22) (Wc23 : W64 c23) (Wc24 : W64 c24) (Wc25 : W64 c25) (Wc26 : W64 c26) (Wc27 : W64 c27) (Wc28 : W64 c28) (Wc29 : W64 c29) (Wc30 : W64 c30) (Wc31 : W64 c31) (Wc32 : W64 c32) (Wc33 : W64 c33) (Wc34 : W64 c34) (Wc35 : W64 c35) (Wc36 : W64 c36) (Wc37 : W64 c37) (Wc39 : W64 c39) (Wc40 : W64 c40) (Wg_0 : W64 g_0) (Wg_1 : W64 g_1) (Wg_2 : W64 g_2) (Wg_3 : W64 g_3) (Wg_4 : W64 g_4) (Wg_5 : W64 g_5) (Wg_6 : W64 g_6) (Wg_7 : W64 g_7) (g : Nat) (hp_c5 : c5 = 0 ∨ c5 = 1 ∨ c5 = 2) (w : World) (Bg : Blk w g 36 (K36 2 c1 c2 c3 c4 c5 c6 c7 c8 c9 c10 c11 c12 c13 c14 c15 c16 c17 c18 c19 c20 (.slice A21 n21 k21) c22 c23 c24 c25 c26 c27 c28 c29 c30 c31 c32 c33 c34 c35 c36 c37 c38 c39 c40)) :
  Calls Try.prog 21 #[.pointer (some ⟨g, 0, none⟩), .agg #[.int .u64 g_0, .int .u64 g_1, .int .u64 g_2, .int .u64 g_3, .int .u64 g_4, .int .u64 g_5, .int .u64 g_6, .int .u64 g_7, .bool g_8, .bool g_9]] w fun e w' => ∃ (q th p0 p1 p2 p3 p4 p5 p6 : Int), e = .returned (.int .u64 q) ∧ W64 q ∧ W64 th ∧ (p0 = 0 ∨ p0 = 1 ∨ p0 = 2) ∧ W64 p1 ∧ W64 p2 ∧ W64 p3 ∧ W64 p4 ∧ W64 p5 ∧ W64 p6 ∧ Blk w' g 36 (K36 2 c1 c2 c3 c4 p0 p1 p2 p3 p4 p5 p6 c12 th c14 c15 c16 c17 c18 c19 c20 (.slice A21 n21 k21) c22 c23 c24 c25 c26 c27 c28 c29 c30 c31 c32 c33 c34 c35 c36 c37 c38 c39 c40) ∧ w.grownBy w' (some g) := by
 by_cases h : c13 ≤ c12
 ·refine (slowH2_0 g_0 g_1 g_2 g_3 g_4 g_5 g_6 g_7 c1 c2 c3 c4 c5 c6 c7 c8 c9 c10 c11 c12 c13 c14 c16 c17 c18 c19 c20 c22 c23 c24 c25 c26 c27 c28 c29 c30 c31 c32 c33 c34 c35 c36 c37 c39 c40 g_8 g_9 c15 c38 A21 g n21 k21 w (decide_eq_true h) Bg).mono ?_
  rintro e w' ⟨rfl, hn, hw⟩
  exact ⟨_, _, _, _, _, _, _, _, _, rfl, Wg_1, Wc13, hp_c5, Wc6, Wc7, Wc8, Wc9, Wc10, Wc11, hn, hw⟩
 exact slowG2 g_0 g_1 g_2 g_3 g_4 g_5 g_6 g_7 g_8 g_9 c1 c2 c3 c4 c5 c6 c7 c8 c9 c10 c11 c12 c13 c14 c15 c16 c17 c18 c19 c20 c22 c23 c24 c25 c26 c27 c28 c29 c30 c31 c32 c33 c34 c35 c36 c37 c38 c39 c40 Wg_0 Wg_1 Wg_2 Wg_3 Wg_4 Wg_5 Wg_6 Wg_7 Wc1 Wc2 Wc3 Wc4 Wc6 Wc7 Wc8 Wc9 Wc10 Wc11 Wc12 Wc13 Wc14 Wc16 Wc17 Wc18 Wc19 Wc22 Wc23 Wc24 Wc25 Wc26 Wc27 Wc28 Wc29 Wc30 Wc31 Wc32 Wc33 Wc34 Wc35 Wc36 Wc37 Wc39 Wc40 g A21 n21 k21 hp_c5 (decide_eq_false h) w Bg
end Go.Proofs.Ytpgffmnbdggpnaa.PCv
end
