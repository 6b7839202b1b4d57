/- What bytes that came make of chapter 12's window. -/
import Derived.Deep.DeepMust
import Derived.Test.YtpgffmnbdggpnaaKB
import Derived.Test.YtpgffmnbdggpnaaKW
namespace Go.Proofs.Ytpgffmnbdggpnaa.PCv
open Go.RowKit Go.Proofs.YtpgffmnbdggpnaaW.PrintWords Go.Proofs.YtpgffmnbdggpnaaW.PrintLast Go.Proofs.YtpgffmnbdggpnaaW.PrintMore
set_option linter.unusedVariables false
set_option linter.unusedSimpArgs false
set_option maxRecDepth 100000 in
set_option maxHeartbeats 4000000 in
theorem cubic_ack_0 (r0 r1 r2 r4 r5 r6 r7 by_ at_ now took : Int) (b3 : Bool)  (w : World) :
    Calls Try.prog 12 #[.agg #[.int .u64 r0, .int .u64 r1, .int .u64 r2, .bool b3, .int .u64 r4, .int .u64 r5, .int .u64 r6, .int .u64 r7], .int .u64 by_, .int .u64 at_, .int .u64 now, .int .u64 took, .bool true] w fun e w' => e = .returned (.agg #[.int .u64 r0, .int .u64 r1, .int .u64 r2, .bool b3, .int .u64 r4, .int .u64 r5, .int .u64 r6, .int .u64 r7]) ∧ Below w.heap.size w w' := by
  have hu29 := Try.underlying29
  have HS := Since.refl w
  go_enter Try.func12, Try.ntmps12
  go_wp2_with (first | ((with_reducible refine gate_dst (N := 6) rfl ?_); refine seg_new rfl (N := 6) rfl [.int .u64 r0, .int .u64 r1, .int .u64 r2, .bool b3, .int .u64 r4, .int .u64 r5, .int .u64 r6, .int .u64 r7] 29 ?hr ?_; (case hr => first | (go_simp; done) | (go_simp; rfl) | kernel_rfl); intro g0 hg w1 hn hl; have GEg0 := ge_new HS hg; clear hg; replace HS := HS.below hl; have Bg0 := hn; clear hl hn) | ((with_reducible refine gate_dst (N := 12) rfl ?_); refine seg_new rfl (N := 12) rfl [.int .u64 0, .int .u64 0, .int .u64 0, .bool false, .int .u64 0, .int .u64 0, .int .u64 0, .int .u64 0] 29 ?hr ?_; (case hr => first | (go_simp; done) | (go_simp; rfl) | kernel_rfl); intro g1 hg w2 hn hl; have Ng1_g0 := ne_new Bg0 hg; have GEg1 := ge_new HS hg; clear hg; replace Bg0 := Bg0.below hl; replace HS := HS.below hl; have Bg1 := hn; clear hl hn) | ((with_reducible refine gate_dst (N := 22) rfl ?_); refine seg_load rfl (N := 22) rfl 29 (.tmp 6) rfl g0 0 [.int .u64 r0, .int .u64 r1, .int .u64 r2, .bool b3, .int .u64 r4, .int .u64 r5, .int .u64 r6, .int .u64 r7] ?hx Bg0 rfl Try.underlying29 rfl (by kernel_rfl) ?_; (case hx => first | rfl | (go_simp; done) | (go_simp; rfl))) | ((with_reducible refine gate_ (.store 29 (.tmp 12) (.tmp 22)) rfl ?_); refine seg_store rfl rfl 29 (.tmp 12) (.tmp 22) rfl g1 0 [.int .u64 r0, .int .u64 r1, .int .u64 r2, .bool b3, .int .u64 r4, .int .u64 r5, .int .u64 r6, .int .u64 r7] [.int .u64 r0, .int .u64 r1, .int .u64 r2, .bool b3, .int .u64 r4, .int .u64 r5, .int .u64 r6, .int .u64 r7] (.agg #[.int .u64 r0, .int .u64 r1, .int .u64 r2, .bool b3, .int .u64 r4, .int .u64 r5, .int .u64 r6, .int .u64 r7]) ?hx ?hy rfl Bg1 (by kernel_rfl) (Nat.le_of_ble_eq_true rfl) rfl rfl ?_; (case hx => first | rfl | (go_simp; done) | (go_simp; rfl)); (case hy => first | rfl | (go_simp; done) | (go_simp; rfl)); intro w3 hn hw; replace Bg0 := Bg0.grown hw Ng1_g0.symm; replace HS := HS.grown hw GEg1; replace Bg1 := hn; clear hw; clear hn))
  all_goals exact bodyPost_ret (results_cell1 rfl _ _ g1 29 [.int .u64 r0, .int .u64 r1, .int .u64 r2, .bool b3, .int .u64 r4, .int .u64 r5, .int .u64 r6, .int .u64 r7] _ rfl Bg1 Try.underlying29 rfl (by kernel_rfl)) rfl ⟨rfl, HS.out⟩
set_option maxRecDepth 100000 in
set_option maxHeartbeats 4000000 in
theorem cubic_ack_1 (r0 r1 r2 r4 r5 r6 r7 by_ at_ now took : Int) (b3 : Bool)  (w : World) (h0 : (decide (at_ < r2)) = true) :
    Calls Try.prog 12 #[.agg #[.int .u64 r0, .int .u64 r1, .int .u64 r2, .bool b3, .int .u64 r4, .int .u64 r5, .int .u64 r6, .int .u64 r7], .int .u64 by_, .int .u64 at_, .int .u64 now, .int .u64 took, .bool false] w fun e w' => e = .returned (.agg #[.int .u64 r0, .int .u64 r1, .int .u64 r2, .bool b3, .int .u64 r4, .int .u64 r5, .int .u64 r6, .int .u64 r7]) ∧ Below w.heap.size w w' := by
  have hu29 := Try.underlying29
  have HS := Since.refl w
  go_enter Try.func12, Try.ntmps12
  go_wp2_with (first | ((with_reducible refine gate_dst (N := 6) rfl ?_); refine seg_new rfl (N := 6) rfl [.int .u64 r0, .int .u64 r1, .int .u64 r2, .bool b3, .int .u64 r4, .int .u64 r5, .int .u64 r6, .int .u64 r7] 29 ?hr ?_; (case hr => first | (go_simp; done) | (go_simp; rfl) | kernel_rfl); intro g0 hg w1 hn hl; have GEg0 := ge_new HS hg; clear hg; replace HS := HS.below hl; have Bg0 := hn; clear hl hn) | ((with_reducible refine gate_dst (N := 12) rfl ?_); refine seg_new rfl (N := 12) rfl [.int .u64 0, .int .u64 0, .int .u64 0, .bool false, .int .u64 0, .int .u64 0, .int .u64 0, .int .u64 0] 29 ?hr ?_; (case hr => first | (go_simp; done) | (go_simp; rfl) | kernel_rfl); intro g1 hg w2 hn hl; have Ng1_g0 := ne_new Bg0 hg; have GEg1 := ge_new HS hg; clear hg; replace Bg0 := Bg0.below hl; replace HS := HS.below hl; have Bg1 := hn; clear hl hn; have kg0_2 := Bg0.at 2 rfl) | ((with_reducible refine gate_dst (N := 22) rfl ?_); refine seg_load rfl (N := 22) rfl 29 (.tmp 6) rfl g0 0 [.int .u64 r0, .int .u64 r1, .int .u64 r2, .bool b3, .int .u64 r4, .int .u64 r5, .int .u64 r6, .int .u64 r7] ?hx Bg0 rfl Try.underlying29 rfl (by kernel_rfl) ?_; (case hx => first | rfl | (go_simp; done) | (go_simp; rfl))) | ((with_reducible refine gate_ (.store 29 (.tmp 12) (.tmp 22)) rfl ?_); refine seg_store rfl rfl 29 (.tmp 12) (.tmp 22) rfl g1 0 [.int .u64 r0, .int .u64 r1, .int .u64 r2, .bool b3, .int .u64 r4, .int .u64 r5, .int .u64 r6, .int .u64 r7] [.int .u64 r0, .int .u64 r1, .int .u64 r2, .bool b3, .int .u64 r4, .int .u64 r5, .int .u64 r6, .int .u64 r7] (.agg #[.int .u64 r0, .int .u64 r1, .int .u64 r2, .bool b3, .int .u64 r4, .int .u64 r5, .int .u64 r6, .int .u64 r7]) ?hx ?hy rfl Bg1 (by kernel_rfl) (Nat.le_of_ble_eq_true rfl) rfl rfl ?_; (case hx => first | rfl | (go_simp; done) | (go_simp; rfl)); (case hy => first | rfl | (go_simp; done) | (go_simp; rfl)); intro w3 hn hw; replace Bg0 := Bg0.grown hw Ng1_g0.symm; replace HS := HS.grown hw GEg1; replace Bg1 := hn; clear hw; clear kg0_2; clear hn))
  all_goals exact bodyPost_ret (results_cell1 rfl _ _ g1 29 [.int .u64 r0, .int .u64 r1, .int .u64 r2, .bool b3, .int .u64 r4, .int .u64 r5, .int .u64 r6, .int .u64 r7] _ rfl Bg1 Try.underlying29 rfl (by kernel_rfl)) rfl ⟨rfl, HS.out⟩
set_option maxRecDepth 100000 in
set_option maxHeartbeats 4000000 in
theorem cubic_ack_2 (r0 r1 r2 r4 r5 r6 r7 by_ at_ now took : Int) (b3 : Bool) (Wr0 : W64 r0) (Wby_ : W64 by_) (w : World) (h0 : (decide (at_ < r2)) = false) (h1 : (decide (r0 < r1)) = true) :
    Calls Try.prog 12 #[.agg #[.int .u64 r0, .int .u64 r1, .int .u64 r2, .bool b3, .int .u64 r4, .int .u64 r5, .int .u64 r6, .int .u64 r7], .int .u64 by_, .int .u64 at_, .int .u64 now, .int .u64 took, .bool false] w fun e w' => e = .returned (.agg #[.int .u64 (uHeld (uAdd r0 by_)), .int .u64 r1, .int .u64 r2, .bool b3, .int .u64 r4, .int .u64 r5, .int .u64 r6, .int .u64 r7]) ∧ Below w.heap.size w w' := by
  have hu29 := Try.underlying29
  have HS := Since.refl w
  go_enter Try.func12, Try.ntmps12
  go_wp2_with (first | ((with_reducible refine gate_dst (N := 6) rfl ?_); refine seg_new rfl (N := 6) rfl [.int .u64 r0, .int .u64 r1, .int .u64 r2, .bool b3, .int .u64 r4, .int .u64 r5, .int .u64 r6, .int .u64 r7] 29 ?hr ?_; (case hr => first | (go_simp; done) | (go_simp; rfl) | kernel_rfl); intro g0 hg w1 hn hl; have GEg0 := ge_new HS hg; clear hg; replace HS := HS.below hl; have Bg0 := hn; clear hl hn) | ((with_reducible refine gate_dst (N := 12) rfl ?_); refine seg_new rfl (N := 12) rfl [.int .u64 0, .int .u64 0, .int .u64 0, .bool false, .int .u64 0, .int .u64 0, .int .u64 0, .int .u64 0] 29 ?hr ?_; (case hr => first | (go_simp; done) | (go_simp; rfl) | kernel_rfl); intro g1 hg w2 hn hl; have Ng1_g0 := ne_new Bg0 hg; have GEg1 := ge_new HS hg; clear hg; replace Bg0 := Bg0.below hl; replace HS := HS.below hl; have Bg1 := hn; clear hl hn; have kg0_0 := Bg0.at 0 rfl; have kg0_1 := Bg0.at 1 rfl; have kg0_2 := Bg0.at 2 rfl) | ((go_at_call 25); (with_reducible refine (fix_Add.C r0 by_ Wr0 Wby_ _).mono ?_); rintro e w3 ⟨rfl, hd⟩; have hl := hd.below; clear hd; replace Bg0 := Bg0.below hl; replace Bg1 := Bg1.below hl; replace HS := HS.below hl; clear hl; clear kg0_0 kg0_1 kg0_2) | ((go_at_call 24); (with_reducible refine (reno_Held.C (uAdd r0 by_) _).mono ?_); rintro e w4 ⟨rfl, hd⟩; have hl := hd.below; clear hd; replace Bg0 := Bg0.below hl; replace Bg1 := Bg1.below hl; replace HS := HS.below hl; clear hl) | ((with_reducible refine gate_ (.store 23 (.tmp 34) (.tmp 33)) rfl ?_); refine seg_store rfl rfl 23 (.tmp 34) (.tmp 33) rfl g0 0 [.int .u64 (uHeld (uAdd r0 by_))] [.int .u64 (uHeld (uAdd r0 by_)), .int .u64 r1, .int .u64 r2, .bool b3, .int .u64 r4, .int .u64 r5, .int .u64 r6, .int .u64 r7] (.int .u64 (uHeld (uAdd r0 by_))) ?hx ?hy rfl Bg0 (by kernel_rfl) (Nat.le_of_ble_eq_true rfl) rfl rfl ?_; (case hx => first | rfl | (go_simp; done) | (go_simp; rfl)); (case hy => first | rfl | (go_simp; done) | (go_simp; rfl)); intro w5 hn hw; replace Bg1 := Bg1.grown hw Ng1_g0; replace HS := HS.grown hw GEg0; replace Bg0 := hn; clear hw; clear hn) | ((with_reducible refine gate_dst (N := 35) rfl ?_); refine seg_load rfl (N := 35) rfl 29 (.tmp 6) rfl g0 0 [.int .u64 (uHeld (uAdd r0 by_)), .int .u64 r1, .int .u64 r2, .bool b3, .int .u64 r4, .int .u64 r5, .int .u64 r6, .int .u64 r7] ?hx Bg0 rfl Try.underlying29 rfl (by kernel_rfl) ?_; (case hx => first | rfl | (go_simp; done) | (go_simp; rfl))) | ((with_reducible refine gate_ (.store 29 (.tmp 12) (.tmp 35)) rfl ?_); refine seg_store rfl rfl 29 (.tmp 12) (.tmp 35) rfl g1 0 [.int .u64 (uHeld (uAdd r0 by_)), .int .u64 r1, .int .u64 r2, .bool b3, .int .u64 r4, .int .u64 r5, .int .u64 r6, .int .u64 r7] [.int .u64 (uHeld (uAdd r0 by_)), .int .u64 r1, .int .u64 r2, .bool b3, .int .u64 r4, .int .u64 r5, .int .u64 r6, .int .u64 r7] (.agg #[.int .u64 (uHeld (uAdd r0 by_)), .int .u64 r1, .int .u64 r2, .bool b3, .int .u64 r4, .int .u64 r5, .int .u64 r6, .int .u64 r7]) ?hx ?hy rfl Bg1 (by kernel_rfl) (Nat.le_of_ble_eq_true rfl) rfl rfl ?_; (case hx => first | rfl | (go_simp; done) | (go_simp; rfl)); (case hy => first | rfl | (go_simp; done) | (go_simp; rfl)); intro w6 hn hw; replace Bg0 := Bg0.grown hw Ng1_g0.symm; replace HS := HS.grown hw GEg1; replace Bg1 := hn; clear hw; clear hn))
  all_goals exact bodyPost_ret (results_cell1 rfl _ _ g1 29 [.int .u64 (uHeld (uAdd r0 by_)), .int .u64 r1, .int .u64 r2, .bool b3, .int .u64 r4, .int .u64 r5, .int .u64 r6, .int .u64 r7] _ rfl Bg1 Try.underlying29 rfl (by kernel_rfl)) rfl ⟨rfl, HS.out⟩
set_option maxRecDepth 100000 in
set_option maxHeartbeats 4000000 in
theorem cubic_ack_3 (r0 r1 r2 r4 r5 r6 r7 by_ at_ now took : Int) (Wr0 : W64 r0) (Wr4 : W64 r4) (Wr5 : W64 r5) (Wr6 : W64 r6) (Wr7 : W64 r7) (Wby_ : W64 by_) (Wnow : W64 now) (Wtook : W64 took) (w : World) (h0 : (decide (at_ < r2)) = false) (h1 : (decide (r0 < r1)) = false) :
    Calls Try.prog 12 #[.agg #[.int .u64 r0, .int .u64 r1, .int .u64 r2, .bool true, .int .u64 r4, .int .u64 r5, .int .u64 r6, .int .u64 r7], .int .u64 by_, .int .u64 at_, .int .u64 now, .int .u64 took, .bool false] w fun e w' => e = .returned (.agg #[.int .u64 (uHeld (max (uAdd r7 (uMulDiv by_ 635 r0)) (uAdd r0 (uMulDiv (IntKind.u64.wrap ((uTarget r0 r5 r6 (uAdd (uSub now r4) took)) - r0)) by_ r0)))), .int .u64 r1, .int .u64 r2, .bool true, .int .u64 r4, .int .u64 r5, .int .u64 r6, .int .u64 (uAdd r7 (uMulDiv by_ 635 r0))]) ∧ Below w.heap.size w w' := by
  have hu29 := Try.underlying29
  have HS := Since.refl w
  go_enter Try.func12, Try.ntmps12
  go_wp2_with (first | ((with_reducible refine gate_dst (N := 6) rfl ?_); refine seg_new rfl (N := 6) rfl [.int .u64 r0, .int .u64 r1, .int .u64 r2, .bool true, .int .u64 r4, .int .u64 r5, .int .u64 r6, .int .u64 r7] 29 ?hr ?_; (case hr => first | (go_simp; done) | (go_simp; rfl) | kernel_rfl); intro g0 hg w1 hn hl; have GEg0 := ge_new HS hg; clear hg; replace HS := HS.below hl; have Bg0 := hn; clear hl hn) | ((with_reducible refine gate_dst (N := 12) rfl ?_); refine seg_new rfl (N := 12) rfl [.int .u64 0, .int .u64 0, .int .u64 0, .bool false, .int .u64 0, .int .u64 0, .int .u64 0, .int .u64 0] 29 ?hr ?_; (case hr => first | (go_simp; done) | (go_simp; rfl) | kernel_rfl); intro g1 hg w2 hn hl; have Ng1_g0 := ne_new Bg0 hg; have GEg1 := ge_new HS hg; clear hg; replace Bg0 := Bg0.below hl; replace HS := HS.below hl; have Bg1 := hn; clear hl hn; have kg0_0 := Bg0.at 0 rfl; have kg0_1 := Bg0.at 1 rfl; have kg0_2 := Bg0.at 2 rfl; have kg0_3 := Bg0.at 3 rfl; have kg0_7 := Bg0.at 7 rfl; have zg0_7 := Bg0.frozen 7))
  refine start_ (n := 9) (S := fun w' => w'.cell? ⟨g0, 7, none⟩ = some (.int .u64 r7) ∧ w'.cell? ⟨g0, 0, none⟩ = some (.int .u64 r0)) (ds := [8]) (bs 9 0) (by kernel_rfl) rfl rfl ⟨((Bg0.drew.cell 7).trans rfl), ((Bg0.drew.cell 0).trans rfl)⟩ (fun hHeld => ?_)
  generalize hWd : World.drew w2 = w3 at hHeld ⊢
  have hl : Below w2.heap.size w2 w3 := (by rw [← hWd]; exact below_drew1 (Below.refl _ _))
  clear hWd
  replace Bg0 := Bg0.below hl; replace Bg1 := Bg1.below hl; replace HS := HS.below hl; clear hl; replace kg0_0 := Bg0.at 0 rfl; replace kg0_1 := Bg0.at 1 rfl; replace kg0_2 := Bg0.at 2 rfl; replace kg0_3 := Bg0.at 3 rfl; replace kg0_7 := Bg0.at 7 rfl; replace zg0_7 := Bg0.frozen 7
  refine pu 0 65 (.pointer (some ⟨g0, 7, none⟩)) 1 rfl rfl (by kernel_rfl) (fun _ _ _ h => h) (by rfl) (fun _ => by kernel_rfl) rfl ?_
  refine pu 2 67 (.int .u64 by_) 5 rfl rfl (by kernel_rfl) (fun _ _ _ h => h) (by rfl) (fun _ => by kernel_rfl) rfl ?_
  refine pu 3 68 (.pointer (some ⟨g0, 0, none⟩)) 13 rfl rfl (by kernel_rfl) (fun _ _ _ h => h) (by rfl) (fun _ => by kernel_rfl) rfl ?_
  refine norm_ (a' := ?_) ?_ ?_
  rotate_left
  · simp only [Act.put, List.setIfInBounds_toArray, List.set_cons_zero, List.set_cons_succ, i64_w, i32_w]
    rfl
  refine take_ (i := 1) (N := some 66) (v := ?_) (a' := ?_) (bs 9 15) rfl rfl (by kernel_rfl) (fun _ _ _ h => h) (Or.inl ⟨by rfl, ?_⟩) hHeld ?_ ?_
  rotate_left
  · rintro w' ⟨s0, s1⟩
    go_simp
    with_reducible rfl
  rotate_left
  · simp only [Act.put, List.setIfInBounds_toArray, List.set_cons_zero, List.set_cons_succ, i64_w, i32_w]
    rfl
  refine take_ (i := 4) (N := some 69) (v := ?_) (a' := ?_) (bs 9 31) rfl rfl (by kernel_rfl) (fun _ _ _ h => h) (Or.inl ⟨by rfl, ?_⟩) hHeld ?_ ?_
  rotate_left
  · rintro w' ⟨s0, s1⟩
    go_simp
    with_reducible rfl
  rotate_left
  · simp only [Act.put, List.setIfInBounds_toArray, List.set_cons_zero, List.set_cons_succ, i64_w, i32_w]
    rfl
  refine one_ (i := 5) (N := some 70) (bs 9 63) rfl rfl (by kernel_rfl) (by decide) (fun K hK => ?_)
  refine goes_ Try.func20 (by kernel_rfl) rfl #[.int .u64 by_, .int .u64 635, .int .u64 r0] (by rfl) rfl rfl (by simp only [List.map_toArray, List.map_cons, List.map_nil]; rfl) ?_
  with_reducible refine (fix_MulDivT.C by_ 635 r0 Wby_ (by decide) Wr0 _).mono ?_
  rintro e w4 ⟨rfl, hd⟩
  refine ⟨_, rfl, ?_⟩
  have hl := hd.below
  clear hd
  replace Bg0 := Bg0.below hl; replace Bg1 := Bg1.below hl; replace HS := HS.below hl; clear hl; replace kg0_0 := Bg0.at 0 rfl; replace kg0_1 := Bg0.at 1 rfl; replace kg0_2 := Bg0.at 2 rfl; replace kg0_3 := Bg0.at 3 rfl; replace kg0_7 := Bg0.at 7 rfl; replace zg0_7 := Bg0.frozen 7
  refine hK.out _ _ ⟨((Bg0.cell 7).trans rfl), ((Bg0.cell 0).trans rfl)⟩ (fun hHeld => ?_)
  clear hK K
  refine norm_ (a' := ?_) ?_ ?_
  rotate_left
  · show Act.put _ (some 70) _ = _
    simp only [Act.put, List.setIfInBounds_toArray, List.set_cons_zero, List.set_cons_succ, i64_w, i32_w]
    rfl
  refine one_ (i := 6) (N := some 71) (bs 9 127) rfl rfl (by kernel_rfl) (by decide) (fun K hK => ?_)
  refine goes_ Try.func25 (by kernel_rfl) rfl #[.int .u64 r7, .int .u64 (uMulDiv by_ 635 r0)] (by rfl) rfl rfl (by simp only [List.map_toArray, List.map_cons, List.map_nil]; rfl) ?_
  with_reducible refine (fix_Add.C r7 (uMulDiv by_ 635 r0) Wr7 (uMulDiv_w Wby_ (by decide) Wr0) _).mono ?_
  rintro e w5 ⟨rfl, hd⟩
  refine ⟨_, rfl, ?_⟩
  have hl := hd.below
  clear hd
  replace Bg0 := Bg0.below hl; replace Bg1 := Bg1.below hl; replace HS := HS.below hl; clear hl; replace kg0_0 := Bg0.at 0 rfl; replace kg0_1 := Bg0.at 1 rfl; replace kg0_2 := Bg0.at 2 rfl; replace kg0_3 := Bg0.at 3 rfl; replace kg0_7 := Bg0.at 7 rfl; replace zg0_7 := Bg0.frozen 7
  refine hK.out _ _ ⟨((Bg0.cell 7).trans rfl), ((Bg0.cell 0).trans rfl)⟩ (fun hHeld => ?_)
  clear hK K
  refine norm_ (a' := ?_) ?_ ?_
  rotate_left
  · show Act.put _ (some 71) _ = _
    simp only [Act.put, List.setIfInBounds_toArray, List.set_cons_zero, List.set_cons_succ, i64_w, i32_w]
    rfl
  refine pu 7 72 (.pointer (some ⟨g0, 7, none⟩)) 255 rfl rfl (by kernel_rfl) (fun _ _ _ h => h) (by rfl) (fun _ => by kernel_rfl) rfl ?_
  refine norm_ (a' := ?_) ?_ ?_
  rotate_left
  · simp only [Act.put, List.setIfInBounds_toArray, List.set_cons_zero, List.set_cons_succ, i64_w, i32_w]
    rfl
  refine last_ (i := 8) (N := none) (bs 9 511) rfl rfl (by kernel_rfl) (by decide) (fun K hK => ?_)
  refine skip_ (w1 := ?_) (by rfl) rfl ?_ ?_
  rotate_left
  · go_simp
    rfl
  refine hK.out _ _ ?_
  clear hK K
  refine done_ (by kernel_rfl) ?_
  refine letter ?_
  intro w6 hW
  have Bn_ : Blk w6 g0 29 [.int .u64 r0, .int .u64 r1, .int .u64 r2, .bool true, .int .u64 r4, .int .u64 r5, .int .u64 r6, .int .u64 (uAdd r7 (uMulDiv by_ 635 r0))] := (by rw [hW]; (repeat (first | (with_reducible refine Blk.drewN ?_ _) | (with_reducible refine Blk.drew ?_))); refine Blk.set (l := [.int .u64 r0, .int .u64 r1, .int .u64 r2, .bool true, .int .u64 r4, .int .u64 r5, .int .u64 r6, .int .u64 r7]) ?_ 7 _ rfl; (repeat (first | (with_reducible refine Blk.drewN ?_ _) | (with_reducible refine Blk.drew ?_))); exact Bg0)
  replace Bg0 := Bn_
  clear Bn_
  have Bn_ : Blk w6 g1 29 [.int .u64 0, .int .u64 0, .int .u64 0, .bool false, .int .u64 0, .int .u64 0, .int .u64 0, .int .u64 0] := (by rw [hW]; (repeat (first | (with_reducible refine Blk.drewN ?_ _) | (with_reducible refine Blk.drew ?_))); refine Blk.setFar ?_ Ng1_g0; (repeat (first | (with_reducible refine Blk.drewN ?_ _) | (with_reducible refine Blk.drew ?_))); exact Bg1)
  replace Bg1 := Bn_
  clear Bn_
  have HS_ : Since w w6 := (by rw [hW]; repeat (first | (with_reducible exact HS) | (with_reducible refine Since.drewN ?_ _) | (with_reducible refine Since.drew ?_) | (with_reducible refine Since.set ?_ GEg0)))
  replace HS := HS_
  clear HS_ hW
  clear kg0_1 kg0_2 kg0_3 kg0_7 zg0_7; replace kg0_0 := Bg0.at 0 rfl; have kg0_4 := Bg0.at 4 rfl
  go_wp2
  refine start_ (n := 12) (S := fun w' => Blk w' g0 29 [.int .u64 r0, .int .u64 r1, .int .u64 r2, .bool true, .int .u64 r4, .int .u64 r5, .int .u64 r6, .int .u64 (uAdd r7 (uMulDiv by_ 635 r0))] ∧ w'.cell? ⟨g0, 4, none⟩ = some (.int .u64 r4) ∧ w'.cell? ⟨g0, 0, none⟩ = some (.int .u64 r0)) (ds := []) (bs 12 0) (by kernel_rfl) rfl rfl ⟨Bg0.drew, ((Bg0.drew.cell 4).trans rfl), ((Bg0.drew.cell 0).trans rfl)⟩ (fun hHeld => ?_)
  generalize hWd : World.drew w6 = w7 at hHeld ⊢
  have hl : Below w6.heap.size w6 w7 := (by rw [← hWd]; exact below_drew1 (Below.refl _ _))
  clear hWd
  replace Bg0 := Bg0.below hl; replace Bg1 := Bg1.below hl; replace HS := HS.below hl; clear hl; replace kg0_0 := Bg0.at 0 rfl; replace kg0_4 := Bg0.at 4 rfl
  refine pu 1 74 (.int .u64 now) 2 rfl rfl (by kernel_rfl) (fun _ _ _ h => h) (by rfl) (fun _ => by kernel_rfl) rfl ?_
  refine pu 2 75 (.pointer (some ⟨g0, 4, none⟩)) 6 rfl rfl (by kernel_rfl) (fun _ _ _ h => h) (by rfl) (fun _ => by kernel_rfl) rfl ?_
  refine pu 5 78 (.int .u64 took) 38 rfl rfl (by kernel_rfl) (fun _ _ _ h => h) (by rfl) (fun _ => by kernel_rfl) rfl ?_
  refine pu 8 81 (.pointer (some ⟨g0, 0, none⟩)) 294 rfl rfl (by kernel_rfl) (fun _ _ _ h => h) (by rfl) (fun _ => by kernel_rfl) rfl ?_
  refine norm_ (a' := ?_) ?_ ?_
  rotate_left
  · simp only [Act.put, List.setIfInBounds_toArray, List.set_cons_zero, List.set_cons_succ, i64_w, i32_w]
    rfl
  refine take_ (i := 0) (N := some 73) (v := .agg #[.int .u64 r0, .int .u64 r1, .int .u64 r2, .bool true, .int .u64 r4, .int .u64 r5, .int .u64 r6, .int .u64 (uAdd r7 (uMulDiv by_ 635 r0))]) (a' := ?_) (bs 12 295) rfl rfl (by kernel_rfl) (fun _ _ _ h => h) (Or.inl ⟨by rfl, ?_⟩) hHeld ?_ ?_
  · rintro w' ⟨s0, s1, s2⟩
    exact exec_seg_load 29 (.tmp 6) (by rfl) g0 0 [.int .u64 r0, .int .u64 r1, .int .u64 r2, .bool true, .int .u64 r4, .int .u64 r5, .int .u64 r6, .int .u64 (uAdd r7 (uMulDiv by_ 635 r0))] (by rfl) s0 (by rfl) Try.underlying29 (by rfl) (by kernel_rfl)
  rotate_left
  · simp only [Act.put, List.setIfInBounds_toArray, List.set_cons_zero, List.set_cons_succ, i64_w, i32_w]
    rfl
  refine take_ (i := 3) (N := some 76) (v := ?_) (a' := ?_) (bs 12 303) rfl rfl (by kernel_rfl) (fun _ _ _ h => h) (Or.inl ⟨by rfl, ?_⟩) hHeld ?_ ?_
  rotate_left
  · rintro w' ⟨s0, s1, s2⟩
    go_simp
    with_reducible rfl
  rotate_left
  · simp only [Act.put, List.setIfInBounds_toArray, List.set_cons_zero, List.set_cons_succ, i64_w, i32_w]
    rfl
  refine take_ (i := 9) (N := some 82) (v := ?_) (a' := ?_) (bs 12 815) rfl rfl (by kernel_rfl) (fun _ _ _ h => h) (Or.inl ⟨by rfl, ?_⟩) hHeld ?_ ?_
  rotate_left
  · rintro w' ⟨s0, s1, s2⟩
    go_simp
    with_reducible rfl
  rotate_left
  · simp only [Act.put, List.setIfInBounds_toArray, List.set_cons_zero, List.set_cons_succ, i64_w, i32_w]
    rfl
  refine one_ (i := 4) (N := some 77) (bs 12 831) rfl rfl (by kernel_rfl) (by decide) (fun K hK => ?_)
  refine goes_ Try.func29 (by kernel_rfl) rfl #[.int .u64 now, .int .u64 r4] (by rfl) rfl rfl (by simp only [List.map_toArray, List.map_cons, List.map_nil]; rfl) ?_
  with_reducible refine (fix_Sub.C now r4 Wnow Wr4 _).mono ?_
  rintro e w8 ⟨rfl, hd⟩
  refine ⟨_, rfl, ?_⟩
  have hl := hd.below
  clear hd
  replace Bg0 := Bg0.below hl; replace Bg1 := Bg1.below hl; replace HS := HS.below hl; clear hl; replace kg0_0 := Bg0.at 0 rfl; replace kg0_4 := Bg0.at 4 rfl
  refine hK.out _ _ ⟨Bg0, ((Bg0.cell 4).trans rfl), ((Bg0.cell 0).trans rfl)⟩ (fun hHeld => ?_)
  clear hK K
  refine norm_ (a' := ?_) ?_ ?_
  rotate_left
  · show Act.put _ (some 77) _ = _
    simp only [Act.put, List.setIfInBounds_toArray, List.set_cons_zero, List.set_cons_succ, i64_w, i32_w]
    rfl
  refine one_ (i := 6) (N := some 79) (bs 12 895) rfl rfl (by kernel_rfl) (by decide) (fun K hK => ?_)
  refine goes_ Try.func25 (by kernel_rfl) rfl #[.int .u64 (uSub now r4), .int .u64 took] (by rfl) rfl rfl (by simp only [List.map_toArray, List.map_cons, List.map_nil]; rfl) ?_
  with_reducible refine (fix_Add.C (uSub now r4) took (uSub_w Wnow Wr4) Wtook _).mono ?_
  rintro e w9 ⟨rfl, hd⟩
  refine ⟨_, rfl, ?_⟩
  have hl := hd.below
  clear hd
  replace Bg0 := Bg0.below hl; replace Bg1 := Bg1.below hl; replace HS := HS.below hl; clear hl; replace kg0_0 := Bg0.at 0 rfl; replace kg0_4 := Bg0.at 4 rfl
  refine hK.out _ _ ⟨Bg0, ((Bg0.cell 4).trans rfl), ((Bg0.cell 0).trans rfl)⟩ (fun hHeld => ?_)
  clear hK K
  refine norm_ (a' := ?_) ?_ ?_
  rotate_left
  · show Act.put _ (some 79) _ = _
    simp only [Act.put, List.setIfInBounds_toArray, List.set_cons_zero, List.set_cons_succ, i64_w, i32_w]
    rfl
  refine one_ (i := 7) (N := some 80) (bs 12 1023) rfl rfl (by kernel_rfl) (by decide) (fun K hK => ?_)
  refine goes_ Try.func28 (by kernel_rfl) rfl #[.agg #[.int .u64 r0, .int .u64 r1, .int .u64 r2, .bool true, .int .u64 r4, .int .u64 r5, .int .u64 r6, .int .u64 (uAdd r7 (uMulDiv by_ 635 r0))], .int .u64 (uAdd (uSub now r4) took)] (by rfl) rfl rfl (by simp only [List.map_toArray, List.map_cons, List.map_nil]; rfl) ?_
  with_reducible refine (targetC r0 r1 r2 true r4 r5 r6 (uAdd r7 (uMulDiv by_ 635 r0)) (uAdd (uSub now r4) took) Wr0 Wr5 Wr6 (uAdd_w (uSub_w Wnow Wr4) Wtook) _).mono ?_
  rintro e w10 ⟨rfl, hl⟩
  refine ⟨_, rfl, ?_⟩
  replace Bg0 := Bg0.below hl; replace Bg1 := Bg1.below hl; replace HS := HS.below hl; clear hl; replace kg0_0 := Bg0.at 0 rfl; replace kg0_4 := Bg0.at 4 rfl
  refine hK.out _ _ ⟨Bg0, ((Bg0.cell 4).trans rfl), ((Bg0.cell 0).trans rfl)⟩ (fun hHeld => ?_)
  clear hK K
  refine norm_ (a' := ?_) ?_ ?_
  rotate_left
  · show Act.put _ (some 80) _ = _
    simp only [Act.put, List.setIfInBounds_toArray, List.set_cons_zero, List.set_cons_succ, i64_w, i32_w]
    rfl
  refine pure_ (i := 10) (N := some 83) (v := ?_) (a' := ?_) (bs 12 2047) rfl rfl (by kernel_rfl) (fun _ _ _ h => h) (Or.inl ⟨by rfl, ?_⟩) ?_ ?_
  rotate_left
  · intro w'
    go_simp
    with_reducible rfl
  rotate_left
  · simp only [Act.put, List.setIfInBounds_toArray, List.set_cons_zero, List.set_cons_succ, i64_w, i32_w]
    rfl
  refine pure_ (i := 11) (N := some 13) (v := ?_) (a' := ?_) (bs 12 4095) rfl rfl (by kernel_rfl) (fun _ _ _ h => h) (Or.inl ⟨by rfl, ?_⟩) ?_ ?_
  rotate_left
  · intro w'
    go_simp
    with_reducible rfl
  rotate_left
  · simp only [Act.put, List.setIfInBounds_toArray, List.set_cons_zero, List.set_cons_succ, i64_w, i32_w]
    rfl
  refine done_ (by kernel_rfl) ?_
  refine letter ?_
  intro w11 hW
  have Bn_ : Blk w11 g0 29 [.int .u64 r0, .int .u64 r1, .int .u64 r2, .bool true, .int .u64 r4, .int .u64 r5, .int .u64 r6, .int .u64 (uAdd r7 (uMulDiv by_ 635 r0))] := (by rw [hW]; (repeat (first | (with_reducible refine Blk.drewN ?_ _) | (with_reducible refine Blk.drew ?_))); exact Bg0)
  replace Bg0 := Bn_
  clear Bn_
  have Bn_ : Blk w11 g1 29 [.int .u64 0, .int .u64 0, .int .u64 0, .bool false, .int .u64 0, .int .u64 0, .int .u64 0, .int .u64 0] := (by rw [hW]; (repeat (first | (with_reducible refine Blk.drewN ?_ _) | (with_reducible refine Blk.drew ?_))); exact Bg1)
  replace Bg1 := Bn_
  clear Bn_
  have HS_ : Since w w11 := (by rw [hW]; repeat (first | (with_reducible exact HS) | (with_reducible refine Since.drewN ?_ _) | (with_reducible refine Since.drew ?_)))
  replace HS := HS_
  clear HS_ hW
  clear kg0_4; replace kg0_0 := Bg0.at 0 rfl; have zg0_0 := Bg0.frozen 0; have kg0_7 := Bg0.at 7 rfl
  go_wp2
  refine start_ (n := 14) (S := fun w' => w'.cell? ⟨g0, 7, none⟩ = some (.int .u64 (uAdd r7 (uMulDiv by_ 635 r0))) ∧ w'.cell? ⟨g0, 0, none⟩ = some (.int .u64 r0)) (ds := [13]) (bs 14 0) (by kernel_rfl) rfl rfl ⟨((Bg0.drew.cell 7).trans rfl), ((Bg0.drew.cell 0).trans rfl)⟩ (fun hHeld => ?_)
  generalize hWd : World.drew w11 = w12 at hHeld ⊢
  have hl : Below w11.heap.size w11 w12 := (by rw [← hWd]; exact below_drew1 (Below.refl _ _))
  clear hWd
  replace Bg0 := Bg0.below hl; replace Bg1 := Bg1.below hl; replace HS := HS.below hl; clear hl; replace kg0_0 := Bg0.at 0 rfl; replace zg0_0 := Bg0.frozen 0; replace kg0_7 := Bg0.at 7 rfl
  refine pu 0 84 (.pointer (some ⟨g0, 7, none⟩)) 1 rfl rfl (by kernel_rfl) (fun _ _ _ h => h) (by rfl) (fun _ => by kernel_rfl) rfl ?_
  refine pu 2 86 (.pointer (some ⟨g0, 0, none⟩)) 5 rfl rfl (by kernel_rfl) (fun _ _ _ h => h) (by rfl) (fun _ => by kernel_rfl) rfl ?_
  refine pu 4 88 (.int .u64 (IntKind.u64.wrap ((uTarget r0 r5 r6 (uAdd (uSub now r4) took)) - r0))) 21 rfl rfl (by kernel_rfl) (fun _ _ _ h => h) (by rfl) (fun _ => by kernel_rfl) rfl ?_
  refine pu 5 89 (.int .u64 by_) 53 rfl rfl (by kernel_rfl) (fun _ _ _ h => h) (by rfl) (fun _ => by kernel_rfl) rfl ?_
  refine pu 6 90 (.pointer (some ⟨g0, 0, none⟩)) 117 rfl rfl (by kernel_rfl) (fun _ _ _ h => h) (by rfl) (fun _ => by kernel_rfl) rfl ?_
  refine norm_ (a' := ?_) ?_ ?_
  rotate_left
  · simp only [Act.put, List.setIfInBounds_toArray, List.set_cons_zero, List.set_cons_succ, i64_w, i32_w]
    rfl
  refine take_ (i := 1) (N := some 85) (v := ?_) (a' := ?_) (bs 14 119) rfl rfl (by kernel_rfl) (fun _ _ _ h => h) (Or.inl ⟨by rfl, ?_⟩) hHeld ?_ ?_
  rotate_left
  · rintro w' ⟨s0, s1⟩
    go_simp
    with_reducible rfl
  rotate_left
  · simp only [Act.put, List.setIfInBounds_toArray, List.set_cons_zero, List.set_cons_succ, i64_w, i32_w]
    rfl
  refine take_ (i := 3) (N := some 87) (v := ?_) (a' := ?_) (bs 14 127) rfl rfl (by kernel_rfl) (fun _ _ _ h => h) (Or.inl ⟨by rfl, ?_⟩) hHeld ?_ ?_
  rotate_left
  · rintro w' ⟨s0, s1⟩
    go_simp
    with_reducible rfl
  rotate_left
  · simp only [Act.put, List.setIfInBounds_toArray, List.set_cons_zero, List.set_cons_succ, i64_w, i32_w]
    rfl
  refine take_ (i := 7) (N := some 91) (v := ?_) (a' := ?_) (bs 14 255) rfl rfl (by kernel_rfl) (fun _ _ _ h => h) (Or.inl ⟨by rfl, ?_⟩) hHeld ?_ ?_
  rotate_left
  · rintro w' ⟨s0, s1⟩
    go_simp
    with_reducible rfl
  rotate_left
  · simp only [Act.put, List.setIfInBounds_toArray, List.set_cons_zero, List.set_cons_succ, i64_w, i32_w]
    rfl
  refine one_ (i := 8) (N := some 92) (bs 14 511) rfl rfl (by kernel_rfl) (by decide) (fun K hK => ?_)
  refine goes_ Try.func20 (by kernel_rfl) rfl #[.int .u64 (IntKind.u64.wrap ((uTarget r0 r5 r6 (uAdd (uSub now r4) took)) - r0)), .int .u64 by_, .int .u64 r0] (by rfl) rfl rfl (by simp only [List.map_toArray, List.map_cons, List.map_nil]; rfl) ?_
  with_reducible refine (fix_MulDivT.C (IntKind.u64.wrap ((uTarget r0 r5 r6 (uAdd (uSub now r4) took)) - r0)) by_ r0 (w64_wrap _) Wby_ Wr0 _).mono ?_
  rintro e w13 ⟨rfl, hd⟩
  refine ⟨_, rfl, ?_⟩
  have hl := hd.below
  clear hd
  replace Bg0 := Bg0.below hl; replace Bg1 := Bg1.below hl; replace HS := HS.below hl; clear hl; replace kg0_0 := Bg0.at 0 rfl; replace zg0_0 := Bg0.frozen 0; replace kg0_7 := Bg0.at 7 rfl
  refine hK.out _ _ ⟨((Bg0.cell 7).trans rfl), ((Bg0.cell 0).trans rfl)⟩ (fun hHeld => ?_)
  clear hK K
  refine norm_ (a' := ?_) ?_ ?_
  rotate_left
  · show Act.put _ (some 92) _ = _
    simp only [Act.put, List.setIfInBounds_toArray, List.set_cons_zero, List.set_cons_succ, i64_w, i32_w]
    rfl
  refine one_ (i := 9) (N := some 93) (bs 14 1023) rfl rfl (by kernel_rfl) (by decide) (fun K hK => ?_)
  refine goes_ Try.func25 (by kernel_rfl) rfl #[.int .u64 r0, .int .u64 (uMulDiv (IntKind.u64.wrap ((uTarget r0 r5 r6 (uAdd (uSub now r4) took)) - r0)) by_ r0)] (by rfl) rfl rfl (by simp only [List.map_toArray, List.map_cons, List.map_nil]; rfl) ?_
  with_reducible refine (fix_Add.C r0 (uMulDiv (IntKind.u64.wrap ((uTarget r0 r5 r6 (uAdd (uSub now r4) took)) - r0)) by_ r0) Wr0 (uMulDiv_w (w64_wrap _) Wby_ Wr0) _).mono ?_
  rintro e w14 ⟨rfl, hd⟩
  refine ⟨_, rfl, ?_⟩
  have hl := hd.below
  clear hd
  replace Bg0 := Bg0.below hl; replace Bg1 := Bg1.below hl; replace HS := HS.below hl; clear hl; replace kg0_0 := Bg0.at 0 rfl; replace zg0_0 := Bg0.frozen 0; replace kg0_7 := Bg0.at 7 rfl
  refine hK.out _ _ ⟨((Bg0.cell 7).trans rfl), ((Bg0.cell 0).trans rfl)⟩ (fun hHeld => ?_)
  clear hK K
  refine norm_ (a' := ?_) ?_ ?_
  rotate_left
  · show Act.put _ (some 93) _ = _
    simp only [Act.put, List.setIfInBounds_toArray, List.set_cons_zero, List.set_cons_succ, i64_w, i32_w]
    rfl
  refine pure_ (i := 10) (N := some 94) (v := ?_) (a' := ?_) (bs 14 2047) rfl rfl (by kernel_rfl) (fun _ _ _ h => h) (Or.inl ⟨by rfl, ?_⟩) ?_ ?_
  rotate_left
  · intro w'
    go_simp
    with_reducible rfl
  rotate_left
  · simp only [Act.put, List.setIfInBounds_toArray, List.set_cons_zero, List.set_cons_succ, i64_w, i32_w]
    rfl
  refine one_ (i := 11) (N := some 95) (bs 14 4095) rfl rfl (by kernel_rfl) (by decide) (fun K hK => ?_)
  refine goes_ Try.func24 (by kernel_rfl) rfl #[.int .u64 (max (uAdd r7 (uMulDiv by_ 635 r0)) (uAdd r0 (uMulDiv (IntKind.u64.wrap ((uTarget r0 r5 r6 (uAdd (uSub now r4) took)) - r0)) by_ r0)))] (by rfl) rfl rfl (by simp only [List.map_toArray, List.map_cons, List.map_nil]; rfl) ?_
  with_reducible refine (reno_Held.C (max (uAdd r7 (uMulDiv by_ 635 r0)) (uAdd r0 (uMulDiv (IntKind.u64.wrap ((uTarget r0 r5 r6 (uAdd (uSub now r4) took)) - r0)) by_ r0))) _).mono ?_
  rintro e w15 ⟨rfl, hd⟩
  refine ⟨_, rfl, ?_⟩
  have hl := hd.below
  clear hd
  replace Bg0 := Bg0.below hl; replace Bg1 := Bg1.below hl; replace HS := HS.below hl; clear hl; replace kg0_0 := Bg0.at 0 rfl; replace zg0_0 := Bg0.frozen 0; replace kg0_7 := Bg0.at 7 rfl
  refine hK.out _ _ ⟨((Bg0.cell 7).trans rfl), ((Bg0.cell 0).trans rfl)⟩ (fun hHeld => ?_)
  clear hK K
  refine norm_ (a' := ?_) ?_ ?_
  rotate_left
  · show Act.put _ (some 95) _ = _
    simp only [Act.put, List.setIfInBounds_toArray, List.set_cons_zero, List.set_cons_succ, i64_w, i32_w]
    rfl
  refine pu 12 96 (.pointer (some ⟨g0, 0, none⟩)) 8191 rfl rfl (by kernel_rfl) (fun _ _ _ h => h) (by rfl) (fun _ => by kernel_rfl) rfl ?_
  refine norm_ (a' := ?_) ?_ ?_
  rotate_left
  · simp only [Act.put, List.setIfInBounds_toArray, List.set_cons_zero, List.set_cons_succ, i64_w, i32_w]
    rfl
  refine last_ (i := 13) (N := none) (bs 14 16383) rfl rfl (by kernel_rfl) (by decide) (fun K hK => ?_)
  refine skip_ (w1 := ?_) (by rfl) rfl ?_ ?_
  rotate_left
  · go_simp
    rfl
  refine hK.out _ _ ?_
  clear hK K
  refine done_ (by kernel_rfl) ?_
  refine letter ?_
  intro w16 hW
  have Bn_ : Blk w16 g0 29 [.int .u64 (uHeld (max (uAdd r7 (uMulDiv by_ 635 r0)) (uAdd r0 (uMulDiv (IntKind.u64.wrap ((uTarget r0 r5 r6 (uAdd (uSub now r4) took)) - r0)) by_ r0)))), .int .u64 r1, .int .u64 r2, .bool true, .int .u64 r4, .int .u64 r5, .int .u64 r6, .int .u64 (uAdd r7 (uMulDiv by_ 635 r0))] := (by rw [hW]; (repeat (first | (with_reducible refine Blk.drewN ?_ _) | (with_reducible refine Blk.drew ?_))); refine Blk.set (l := [.int .u64 r0, .int .u64 r1, .int .u64 r2, .bool true, .int .u64 r4, .int .u64 r5, .int .u64 r6, .int .u64 (uAdd r7 (uMulDiv by_ 635 r0))]) ?_ 0 _ rfl; (repeat (first | (with_reducible refine Blk.drewN ?_ _) | (with_reducible refine Blk.drew ?_))); exact Bg0)
  replace Bg0 := Bn_
  clear Bn_
  have Bn_ : Blk w16 g1 29 [.int .u64 0, .int .u64 0, .int .u64 0, .bool false, .int .u64 0, .int .u64 0, .int .u64 0, .int .u64 0] := (by rw [hW]; (repeat (first | (with_reducible refine Blk.drewN ?_ _) | (with_reducible refine Blk.drew ?_))); refine Blk.setFar ?_ Ng1_g0; (repeat (first | (with_reducible refine Blk.drewN ?_ _) | (with_reducible refine Blk.drew ?_))); exact Bg1)
  replace Bg1 := Bn_
  clear Bn_
  have HS_ : Since w w16 := (by rw [hW]; repeat (first | (with_reducible exact HS) | (with_reducible refine Since.drewN ?_ _) | (with_reducible refine Since.drew ?_) | (with_reducible refine Since.set ?_ GEg0)))
  replace HS := HS_
  clear HS_ hW
  clear kg0_0 zg0_0 kg0_7
  go_wp2_with (first | ((with_reducible refine gate_dst (N := 97) rfl ?_); refine seg_load rfl (N := 97) rfl 29 (.tmp 6) rfl g0 0 [.int .u64 (uHeld (max (uAdd r7 (uMulDiv by_ 635 r0)) (uAdd r0 (uMulDiv (IntKind.u64.wrap ((uTarget r0 r5 r6 (uAdd (uSub now r4) took)) - r0)) by_ r0)))), .int .u64 r1, .int .u64 r2, .bool true, .int .u64 r4, .int .u64 r5, .int .u64 r6, .int .u64 (uAdd r7 (uMulDiv by_ 635 r0))] ?hx Bg0 rfl Try.underlying29 rfl (by kernel_rfl) ?_; (case hx => first | rfl | (go_simp; done) | (go_simp; rfl))) | ((with_reducible refine gate_ (.store 29 (.tmp 12) (.tmp 97)) rfl ?_); refine seg_store rfl rfl 29 (.tmp 12) (.tmp 97) rfl g1 0 [.int .u64 (uHeld (max (uAdd r7 (uMulDiv by_ 635 r0)) (uAdd r0 (uMulDiv (IntKind.u64.wrap ((uTarget r0 r5 r6 (uAdd (uSub now r4) took)) - r0)) by_ r0)))), .int .u64 r1, .int .u64 r2, .bool true, .int .u64 r4, .int .u64 r5, .int .u64 r6, .int .u64 (uAdd r7 (uMulDiv by_ 635 r0))] [.int .u64 (uHeld (max (uAdd r7 (uMulDiv by_ 635 r0)) (uAdd r0 (uMulDiv (IntKind.u64.wrap ((uTarget r0 r5 r6 (uAdd (uSub now r4) took)) - r0)) by_ r0)))), .int .u64 r1, .int .u64 r2, .bool true, .int .u64 r4, .int .u64 r5, .int .u64 r6, .int .u64 (uAdd r7 (uMulDiv by_ 635 r0))] (.agg #[.int .u64 (uHeld (max (uAdd r7 (uMulDiv by_ 635 r0)) (uAdd r0 (uMulDiv (IntKind.u64.wrap ((uTarget r0 r5 r6 (uAdd (uSub now r4) took)) - r0)) by_ r0)))), .int .u64 r1, .int .u64 r2, .bool true, .int .u64 r4, .int .u64 r5, .int .u64 r6, .int .u64 (uAdd r7 (uMulDiv by_ 635 r0))]) ?hx ?hy rfl Bg1 (by kernel_rfl) (Nat.le_of_ble_eq_true rfl) rfl rfl ?_; (case hx => first | rfl | (go_simp; done) | (go_simp; rfl)); (case hy => first | rfl | (go_simp; done) | (go_simp; rfl)); intro w17 hn hw; replace Bg0 := Bg0.grown hw Ng1_g0.symm; replace HS := HS.grown hw GEg1; replace Bg1 := hn; clear hw; clear hn))
  all_goals exact bodyPost_ret (results_cell1 rfl _ _ g1 29 [.int .u64 (uHeld (max (uAdd r7 (uMulDiv by_ 635 r0)) (uAdd r0 (uMulDiv (IntKind.u64.wrap ((uTarget r0 r5 r6 (uAdd (uSub now r4) took)) - r0)) by_ r0)))), .int .u64 r1, .int .u64 r2, .bool true, .int .u64 r4, .int .u64 r5, .int .u64 r6, .int .u64 (uAdd r7 (uMulDiv by_ 635 r0))] _ rfl Bg1 Try.underlying29 rfl (by kernel_rfl)) rfl ⟨rfl, HS.out⟩
set_option maxRecDepth 100000 in
set_option maxHeartbeats 4000000 in
theorem cubic_ack_4 (r0 r1 r2 r4 r5 r6 r7 by_ at_ now took : Int) (Wr0 : W64 r0) (Wr5 : W64 r5) (Wby_ : W64 by_) (Wnow : W64 now) (Wtook : W64 took) (w : World) (h0 : (decide (at_ < r2)) = false) (h1 : (decide (r0 < r1)) = false) (h2 : (decide (r0 < r5)) = true) :
    Calls Try.prog 12 #[.agg #[.int .u64 r0, .int .u64 r1, .int .u64 r2, .bool false, .int .u64 r4, .int .u64 r5, .int .u64 r6, .int .u64 r7], .int .u64 by_, .int .u64 at_, .int .u64 now, .int .u64 took, .bool false] w fun e w' => e = .returned (.agg #[.int .u64 (uHeld (max (uAdd r0 (uMulDiv by_ 635 r0)) (uAdd r0 (uMulDiv (IntKind.u64.wrap ((uTarget r0 (max r5 r0) (uCbrt (uMulDiv (IntKind.u64.wrap (r5 - r0)) 1000000000 480)) (uAdd (uSub now now) took)) - r0)) by_ r0)))), .int .u64 r1, .int .u64 r2, .bool true, .int .u64 now, .int .u64 (max r5 r0), .int .u64 (uCbrt (uMulDiv (IntKind.u64.wrap (r5 - r0)) 1000000000 480)), .int .u64 (uAdd r0 (uMulDiv by_ 635 r0))]) ∧ Below w.heap.size w w' := by
  have hu29 := Try.underlying29
  have HS := Since.refl w
  go_enter Try.func12, Try.ntmps12
  go_wp2_with (first | ((with_reducible refine gate_dst (N := 6) rfl ?_); refine seg_new rfl (N := 6) rfl [.int .u64 r0, .int .u64 r1, .int .u64 r2, .bool false, .int .u64 r4, .int .u64 r5, .int .u64 r6, .int .u64 r7] 29 ?hr ?_; (case hr => first | (go_simp; done) | (go_simp; rfl) | kernel_rfl); intro g0 hg w1 hn hl; have GEg0 := ge_new HS hg; clear hg; replace HS := HS.below hl; have Bg0 := hn; clear hl hn) | ((with_reducible refine gate_dst (N := 12) rfl ?_); refine seg_new rfl (N := 12) rfl [.int .u64 0, .int .u64 0, .int .u64 0, .bool false, .int .u64 0, .int .u64 0, .int .u64 0, .int .u64 0] 29 ?hr ?_; (case hr => first | (go_simp; done) | (go_simp; rfl) | kernel_rfl); intro g1 hg w2 hn hl; have Ng1_g0 := ne_new Bg0 hg; have GEg1 := ge_new HS hg; clear hg; replace Bg0 := Bg0.below hl; replace HS := HS.below hl; have Bg1 := hn; clear hl hn; have kg0_0 := Bg0.at 0 rfl; have kg0_1 := Bg0.at 1 rfl; have kg0_2 := Bg0.at 2 rfl; have kg0_3 := Bg0.at 3 rfl) | ((with_reducible refine gate_ (.store 4 (.tmp 42) (.const (.bool true))) rfl ?_); refine seg_store rfl rfl 4 (.tmp 42) (.const (.bool true)) rfl g0 3 [.bool true] [.int .u64 r0, .int .u64 r1, .int .u64 r2, .bool true, .int .u64 r4, .int .u64 r5, .int .u64 r6, .int .u64 r7] (.bool true) ?hx ?hy rfl Bg0 (by kernel_rfl) (Nat.le_of_ble_eq_true rfl) rfl rfl ?_; (case hx => first | rfl | (go_simp; done) | (go_simp; rfl)); (case hy => first | rfl | (go_simp; done) | (go_simp; rfl)); intro w3 hn hw; replace Bg1 := Bg1.grown hw Ng1_g0; replace HS := HS.grown hw GEg0; replace Bg0 := hn; clear hw; clear kg0_0 kg0_1 kg0_2 kg0_3; clear hn) | ((with_reducible refine gate_ (.store 23 (.tmp 43) (.tmp 39)) rfl ?_); refine seg_store rfl rfl 23 (.tmp 43) (.tmp 39) rfl g0 4 [.int .u64 now] [.int .u64 r0, .int .u64 r1, .int .u64 r2, .bool true, .int .u64 now, .int .u64 r5, .int .u64 r6, .int .u64 r7] (.int .u64 now) ?hx ?hy rfl Bg0 (by kernel_rfl) (Nat.le_of_ble_eq_true rfl) rfl rfl ?_; (case hx => first | rfl | (go_simp; done) | (go_simp; rfl)); (case hy => first | rfl | (go_simp; done) | (go_simp; rfl)); intro w4 hn hw; replace Bg1 := Bg1.grown hw Ng1_g0; replace HS := HS.grown hw GEg0; replace Bg0 := hn; clear hw; clear hn) | ((with_reducible refine gate_ (.store 23 (.tmp 44) (.tmp 41)) rfl ?_); refine seg_store rfl rfl 23 (.tmp 44) (.tmp 41) rfl g0 7 [.int .u64 r0] [.int .u64 r0, .int .u64 r1, .int .u64 r2, .bool true, .int .u64 now, .int .u64 r5, .int .u64 r6, .int .u64 r0] (.int .u64 r0) ?hx ?hy rfl Bg0 (by kernel_rfl) (Nat.le_of_ble_eq_true rfl) rfl rfl ?_; (case hx => first | rfl | (go_simp; done) | (go_simp; rfl)); (case hy => first | rfl | (go_simp; done) | (go_simp; rfl)); intro w5 hn hw; replace Bg1 := Bg1.grown hw Ng1_g0; replace HS := HS.grown hw GEg0; replace Bg0 := hn; clear hw; clear hn) | ((with_reducible refine gate_ (.store 23 (.tmp 45) (.const (.int .u64 0))) rfl ?_); refine seg_store rfl rfl 23 (.tmp 45) (.const (.int .u64 0)) rfl g0 6 [.int .u64 0] [.int .u64 r0, .int .u64 r1, .int .u64 r2, .bool true, .int .u64 now, .int .u64 r5, .int .u64 0, .int .u64 r0] (.int .u64 0) ?hx ?hy rfl Bg0 (by kernel_rfl) (Nat.le_of_ble_eq_true rfl) rfl rfl ?_; (case hx => first | rfl | (go_simp; done) | (go_simp; rfl)); (case hy => first | rfl | (go_simp; done) | (go_simp; rfl)); intro w6 hn hw; replace Bg1 := Bg1.grown hw Ng1_g0; replace HS := HS.grown hw GEg0; replace Bg0 := hn; clear hw; have kg0_0 := Bg0.at 0 rfl; have kg0_5 := Bg0.at 5 rfl; clear hn) | ((go_at_call 20); (with_reducible refine (fix_MulDivT.C (IntKind.u64.wrap (r5 - r0)) 1000000000 480 (w64_wrap _) (by decide) (by decide) _).mono ?_); rintro e w7 ⟨rfl, hd⟩; have hl := hd.below; clear hd; replace Bg0 := Bg0.below hl; replace Bg1 := Bg1.below hl; replace HS := HS.below hl; clear hl; clear kg0_0 kg0_5) | ((go_at_call 27); (with_reducible refine (cbrtC (uMulDiv (IntKind.u64.wrap (r5 - r0)) 1000000000 480) (uMulDiv_w (w64_wrap _) (by decide) (by decide)) _).mono ?_); rintro e w8 ⟨rfl, hl⟩; replace Bg0 := Bg0.below hl; replace Bg1 := Bg1.below hl; replace HS := HS.below hl; clear hl) | ((with_reducible refine gate_ (.store 23 (.tmp 58) (.tmp 57)) rfl ?_); refine seg_store rfl rfl 23 (.tmp 58) (.tmp 57) rfl g0 6 [.int .u64 (uCbrt (uMulDiv (IntKind.u64.wrap (r5 - r0)) 1000000000 480))] [.int .u64 r0, .int .u64 r1, .int .u64 r2, .bool true, .int .u64 now, .int .u64 r5, .int .u64 (uCbrt (uMulDiv (IntKind.u64.wrap (r5 - r0)) 1000000000 480)), .int .u64 r0] (.int .u64 (uCbrt (uMulDiv (IntKind.u64.wrap (r5 - r0)) 1000000000 480))) ?hx ?hy rfl Bg0 (by kernel_rfl) (Nat.le_of_ble_eq_true rfl) rfl rfl ?_; (case hx => first | rfl | (go_simp; done) | (go_simp; rfl)); (case hy => first | rfl | (go_simp; done) | (go_simp; rfl)); intro w9 hn hw; replace Bg1 := Bg1.grown hw Ng1_g0; replace HS := HS.grown hw GEg0; replace Bg0 := hn; clear hw; have kg0_0 := Bg0.at 0 rfl; have kg0_5 := Bg0.at 5 rfl; clear hn) | ((with_reducible refine gate_ (.store 23 (.tmp 64) (.tmp 63)) rfl ?_); refine seg_store rfl rfl 23 (.tmp 64) (.tmp 63) rfl g0 5 [.int .u64 (max r5 r0)] [.int .u64 r0, .int .u64 r1, .int .u64 r2, .bool true, .int .u64 now, .int .u64 (max r5 r0), .int .u64 (uCbrt (uMulDiv (IntKind.u64.wrap (r5 - r0)) 1000000000 480)), .int .u64 r0] (.int .u64 (max r5 r0)) ?hx ?hy rfl Bg0 (by kernel_rfl) (Nat.le_of_ble_eq_true rfl) rfl rfl ?_; (case hx => first | rfl | (go_simp; done) | (go_simp; rfl)); (case hy => first | rfl | (go_simp; done) | (go_simp; rfl)); intro w10 hn hw; replace Bg1 := Bg1.grown hw Ng1_g0; replace HS := HS.grown hw GEg0; replace Bg0 := hn; clear hw; clear kg0_5; replace kg0_0 := Bg0.at 0 rfl; have kg0_7 := Bg0.at 7 rfl; have zg0_7 := Bg0.frozen 7; clear hn))
  refine start_ (n := 9) (S := fun w' => w'.cell? ⟨g0, 7, none⟩ = some (.int .u64 r0) ∧ w'.cell? ⟨g0, 0, none⟩ = some (.int .u64 r0)) (ds := [8]) (bs 9 0) (by kernel_rfl) rfl rfl ⟨((Bg0.drew.cell 7).trans rfl), ((Bg0.drew.cell 0).trans rfl)⟩ (fun hHeld => ?_)
  generalize hWd : World.drew w10 = w11 at hHeld ⊢
  have hl : Below w10.heap.size w10 w11 := (by rw [← hWd]; exact below_drew1 (Below.refl _ _))
  clear hWd
  replace Bg0 := Bg0.below hl; replace Bg1 := Bg1.below hl; replace HS := HS.below hl; clear hl; replace kg0_0 := Bg0.at 0 rfl; replace kg0_7 := Bg0.at 7 rfl; replace zg0_7 := Bg0.frozen 7
  refine pu 0 65 (.pointer (some ⟨g0, 7, none⟩)) 1 rfl rfl (by kernel_rfl) (fun _ _ _ h => h) (by rfl) (fun _ => by kernel_rfl) rfl ?_
  refine pu 2 67 (.int .u64 by_) 5 rfl rfl (by kernel_rfl) (fun _ _ _ h => h) (by rfl) (fun _ => by kernel_rfl) rfl ?_
  refine pu 3 68 (.pointer (some ⟨g0, 0, none⟩)) 13 rfl rfl (by kernel_rfl) (fun _ _ _ h => h) (by rfl) (fun _ => by kernel_rfl) rfl ?_
  refine norm_ (a' := ?_) ?_ ?_
  rotate_left
  · simp only [Act.put, List.setIfInBounds_toArray, List.set_cons_zero, List.set_cons_succ, i64_w, i32_w]
    rfl
  refine take_ (i := 1) (N := some 66) (v := ?_) (a' := ?_) (bs 9 15) rfl rfl (by kernel_rfl) (fun _ _ _ h => h) (Or.inl ⟨by rfl, ?_⟩) hHeld ?_ ?_
  rotate_left
  · rintro w' ⟨s0, s1⟩
    go_simp
    with_reducible rfl
  rotate_left
  · simp only [Act.put, List.setIfInBounds_toArray, List.set_cons_zero, List.set_cons_succ, i64_w, i32_w]
    rfl
  refine take_ (i := 4) (N := some 69) (v := ?_) (a' := ?_) (bs 9 31) rfl rfl (by kernel_rfl) (fun _ _ _ h => h) (Or.inl ⟨by rfl, ?_⟩) hHeld ?_ ?_
  rotate_left
  · rintro w' ⟨s0, s1⟩
    go_simp
    with_reducible rfl
  rotate_left
  · simp only [Act.put, List.setIfInBounds_toArray, List.set_cons_zero, List.set_cons_succ, i64_w, i32_w]
    rfl
  refine one_ (i := 5) (N := some 70) (bs 9 63) rfl rfl (by kernel_rfl) (by decide) (fun K hK => ?_)
  refine goes_ Try.func20 (by kernel_rfl) rfl #[.int .u64 by_, .int .u64 635, .int .u64 r0] (by rfl) rfl rfl (by simp only [List.map_toArray, List.map_cons, List.map_nil]; rfl) ?_
  with_reducible refine (fix_MulDivT.C by_ 635 r0 Wby_ (by decide) Wr0 _).mono ?_
  rintro e w12 ⟨rfl, hd⟩
  refine ⟨_, rfl, ?_⟩
  have hl := hd.below
  clear hd
  replace Bg0 := Bg0.below hl; replace Bg1 := Bg1.below hl; replace HS := HS.below hl; clear hl; replace kg0_0 := Bg0.at 0 rfl; replace kg0_7 := Bg0.at 7 rfl; replace zg0_7 := Bg0.frozen 7
  refine hK.out _ _ ⟨((Bg0.cell 7).trans rfl), ((Bg0.cell 0).trans rfl)⟩ (fun hHeld => ?_)
  clear hK K
  refine norm_ (a' := ?_) ?_ ?_
  rotate_left
  · show Act.put _ (some 70) _ = _
    simp only [Act.put, List.setIfInBounds_toArray, List.set_cons_zero, List.set_cons_succ, i64_w, i32_w]
    rfl
  refine one_ (i := 6) (N := some 71) (bs 9 127) rfl rfl (by kernel_rfl) (by decide) (fun K hK => ?_)
  refine goes_ Try.func25 (by kernel_rfl) rfl #[.int .u64 r0, .int .u64 (uMulDiv by_ 635 r0)] (by rfl) rfl rfl (by simp only [List.map_toArray, List.map_cons, List.map_nil]; rfl) ?_
  with_reducible refine (fix_Add.C r0 (uMulDiv by_ 635 r0) Wr0 (uMulDiv_w Wby_ (by decide) Wr0) _).mono ?_
  rintro e w13 ⟨rfl, hd⟩
  refine ⟨_, rfl, ?_⟩
  have hl := hd.below
  clear hd
  replace Bg0 := Bg0.below hl; replace Bg1 := Bg1.below hl; replace HS := HS.below hl; clear hl; replace kg0_0 := Bg0.at 0 rfl; replace kg0_7 := Bg0.at 7 rfl; replace zg0_7 := Bg0.frozen 7
  refine hK.out _ _ ⟨((Bg0.cell 7).trans rfl), ((Bg0.cell 0).trans rfl)⟩ (fun hHeld => ?_)
  clear hK K
  refine norm_ (a' := ?_) ?_ ?_
  rotate_left
  · show Act.put _ (some 71) _ = _
    simp only [Act.put, List.setIfInBounds_toArray, List.set_cons_zero, List.set_cons_succ, i64_w, i32_w]
    rfl
  refine pu 7 72 (.pointer (some ⟨g0, 7, none⟩)) 255 rfl rfl (by kernel_rfl) (fun _ _ _ h => h) (by rfl) (fun _ => by kernel_rfl) rfl ?_
  refine norm_ (a' := ?_) ?_ ?_
  rotate_left
  · simp only [Act.put, List.setIfInBounds_toArray, List.set_cons_zero, List.set_cons_succ, i64_w, i32_w]
    rfl
  refine last_ (i := 8) (N := none) (bs 9 511) rfl rfl (by kernel_rfl) (by decide) (fun K hK => ?_)
  refine skip_ (w1 := ?_) (by rfl) rfl ?_ ?_
  rotate_left
  · go_simp
    rfl
  refine hK.out _ _ ?_
  clear hK K
  refine done_ (by kernel_rfl) ?_
  refine letter ?_
  intro w14 hW
  have Bn_ : Blk w14 g0 29 [.int .u64 r0, .int .u64 r1, .int .u64 r2, .bool true, .int .u64 now, .int .u64 (max r5 r0), .int .u64 (uCbrt (uMulDiv (IntKind.u64.wrap (r5 - r0)) 1000000000 480)), .int .u64 (uAdd r0 (uMulDiv by_ 635 r0))] := (by rw [hW]; (repeat (first | (with_reducible refine Blk.drewN ?_ _) | (with_reducible refine Blk.drew ?_))); refine Blk.set (l := [.int .u64 r0, .int .u64 r1, .int .u64 r2, .bool true, .int .u64 now, .int .u64 (max r5 r0), .int .u64 (uCbrt (uMulDiv (IntKind.u64.wrap (r5 - r0)) 1000000000 480)), .int .u64 r0]) ?_ 7 _ rfl; (repeat (first | (with_reducible refine Blk.drewN ?_ _) | (with_reducible refine Blk.drew ?_))); exact Bg0)
  replace Bg0 := Bn_
  clear Bn_
  have Bn_ : Blk w14 g1 29 [.int .u64 0, .int .u64 0, .int .u64 0, .bool false, .int .u64 0, .int .u64 0, .int .u64 0, .int .u64 0] := (by rw [hW]; (repeat (first | (with_reducible refine Blk.drewN ?_ _) | (with_reducible refine Blk.drew ?_))); refine Blk.setFar ?_ Ng1_g0; (repeat (first | (with_reducible refine Blk.drewN ?_ _) | (with_reducible refine Blk.drew ?_))); exact Bg1)
  replace Bg1 := Bn_
  clear Bn_
  have HS_ : Since w w14 := (by rw [hW]; repeat (first | (with_reducible exact HS) | (with_reducible refine Since.drewN ?_ _) | (with_reducible refine Since.drew ?_) | (with_reducible refine Since.set ?_ GEg0)))
  replace HS := HS_
  clear HS_ hW
  clear kg0_7 zg0_7; replace kg0_0 := Bg0.at 0 rfl; have kg0_4 := Bg0.at 4 rfl
  go_wp2
  refine start_ (n := 12) (S := fun w' => Blk w' g0 29 [.int .u64 r0, .int .u64 r1, .int .u64 r2, .bool true, .int .u64 now, .int .u64 (max r5 r0), .int .u64 (uCbrt (uMulDiv (IntKind.u64.wrap (r5 - r0)) 1000000000 480)), .int .u64 (uAdd r0 (uMulDiv by_ 635 r0))] ∧ w'.cell? ⟨g0, 4, none⟩ = some (.int .u64 now) ∧ w'.cell? ⟨g0, 0, none⟩ = some (.int .u64 r0)) (ds := []) (bs 12 0) (by kernel_rfl) rfl rfl ⟨Bg0.drew, ((Bg0.drew.cell 4).trans rfl), ((Bg0.drew.cell 0).trans rfl)⟩ (fun hHeld => ?_)
  generalize hWd : World.drew w14 = w15 at hHeld ⊢
  have hl : Below w14.heap.size w14 w15 := (by rw [← hWd]; exact below_drew1 (Below.refl _ _))
  clear hWd
  replace Bg0 := Bg0.below hl; replace Bg1 := Bg1.below hl; replace HS := HS.below hl; clear hl; replace kg0_0 := Bg0.at 0 rfl; replace kg0_4 := Bg0.at 4 rfl
  refine pu 1 74 (.int .u64 now) 2 rfl rfl (by kernel_rfl) (fun _ _ _ h => h) (by rfl) (fun _ => by kernel_rfl) rfl ?_
  refine pu 2 75 (.pointer (some ⟨g0, 4, none⟩)) 6 rfl rfl (by kernel_rfl) (fun _ _ _ h => h) (by rfl) (fun _ => by kernel_rfl) rfl ?_
  refine pu 5 78 (.int .u64 took) 38 rfl rfl (by kernel_rfl) (fun _ _ _ h => h) (by rfl) (fun _ => by kernel_rfl) rfl ?_
  refine pu 8 81 (.pointer (some ⟨g0, 0, none⟩)) 294 rfl rfl (by kernel_rfl) (fun _ _ _ h => h) (by rfl) (fun _ => by kernel_rfl) rfl ?_
  refine norm_ (a' := ?_) ?_ ?_
  rotate_left
  · simp only [Act.put, List.setIfInBounds_toArray, List.set_cons_zero, List.set_cons_succ, i64_w, i32_w]
    rfl
  refine take_ (i := 0) (N := some 73) (v := .agg #[.int .u64 r0, .int .u64 r1, .int .u64 r2, .bool true, .int .u64 now, .int .u64 (max r5 r0), .int .u64 (uCbrt (uMulDiv (IntKind.u64.wrap (r5 - r0)) 1000000000 480)), .int .u64 (uAdd r0 (uMulDiv by_ 635 r0))]) (a' := ?_) (bs 12 295) rfl rfl (by kernel_rfl) (fun _ _ _ h => h) (Or.inl ⟨by rfl, ?_⟩) hHeld ?_ ?_
  · rintro w' ⟨s0, s1, s2⟩
    exact exec_seg_load 29 (.tmp 6) (by rfl) g0 0 [.int .u64 r0, .int .u64 r1, .int .u64 r2, .bool true, .int .u64 now, .int .u64 (max r5 r0), .int .u64 (uCbrt (uMulDiv (IntKind.u64.wrap (r5 - r0)) 1000000000 480)), .int .u64 (uAdd r0 (uMulDiv by_ 635 r0))] (by rfl) s0 (by rfl) Try.underlying29 (by rfl) (by kernel_rfl)
  rotate_left
  · simp only [Act.put, List.setIfInBounds_toArray, List.set_cons_zero, List.set_cons_succ, i64_w, i32_w]
    rfl
  refine take_ (i := 3) (N := some 76) (v := ?_) (a' := ?_) (bs 12 303) rfl rfl (by kernel_rfl) (fun _ _ _ h => h) (Or.inl ⟨by rfl, ?_⟩) hHeld ?_ ?_
  rotate_left
  · rintro w' ⟨s0, s1, s2⟩
    go_simp
    with_reducible rfl
  rotate_left
  · simp only [Act.put, List.setIfInBounds_toArray, List.set_cons_zero, List.set_cons_succ, i64_w, i32_w]
    rfl
  refine take_ (i := 9) (N := some 82) (v := ?_) (a' := ?_) (bs 12 815) rfl rfl (by kernel_rfl) (fun _ _ _ h => h) (Or.inl ⟨by rfl, ?_⟩) hHeld ?_ ?_
  rotate_left
  · rintro w' ⟨s0, s1, s2⟩
    go_simp
    with_reducible rfl
  rotate_left
  · simp only [Act.put, List.setIfInBounds_toArray, List.set_cons_zero, List.set_cons_succ, i64_w, i32_w]
    rfl
  refine one_ (i := 4) (N := some 77) (bs 12 831) rfl rfl (by kernel_rfl) (by decide) (fun K hK => ?_)
  refine goes_ Try.func29 (by kernel_rfl) rfl #[.int .u64 now, .int .u64 now] (by rfl) rfl rfl (by simp only [List.map_toArray, List.map_cons, List.map_nil]; rfl) ?_
  with_reducible refine (fix_Sub.C now now Wnow Wnow _).mono ?_
  rintro e w16 ⟨rfl, hd⟩
  refine ⟨_, rfl, ?_⟩
  have hl := hd.below
  clear hd
  replace Bg0 := Bg0.below hl; replace Bg1 := Bg1.below hl; replace HS := HS.below hl; clear hl; replace kg0_0 := Bg0.at 0 rfl; replace kg0_4 := Bg0.at 4 rfl
  refine hK.out _ _ ⟨Bg0, ((Bg0.cell 4).trans rfl), ((Bg0.cell 0).trans rfl)⟩ (fun hHeld => ?_)
  clear hK K
  refine norm_ (a' := ?_) ?_ ?_
  rotate_left
  · show Act.put _ (some 77) _ = _
    simp only [Act.put, List.setIfInBounds_toArray, List.set_cons_zero, List.set_cons_succ, i64_w, i32_w]
    rfl
  refine one_ (i := 6) (N := some 79) (bs 12 895) rfl rfl (by kernel_rfl) (by decide) (fun K hK => ?_)
  refine goes_ Try.func25 (by kernel_rfl) rfl #[.int .u64 (uSub now now), .int .u64 took] (by rfl) rfl rfl (by simp only [List.map_toArray, List.map_cons, List.map_nil]; rfl) ?_
  with_reducible refine (fix_Add.C (uSub now now) took (uSub_w Wnow Wnow) Wtook _).mono ?_
  rintro e w17 ⟨rfl, hd⟩
  refine ⟨_, rfl, ?_⟩
  have hl := hd.below
  clear hd
  replace Bg0 := Bg0.below hl; replace Bg1 := Bg1.below hl; replace HS := HS.below hl; clear hl; replace kg0_0 := Bg0.at 0 rfl; replace kg0_4 := Bg0.at 4 rfl
  refine hK.out _ _ ⟨Bg0, ((Bg0.cell 4).trans rfl), ((Bg0.cell 0).trans rfl)⟩ (fun hHeld => ?_)
  clear hK K
  refine norm_ (a' := ?_) ?_ ?_
  rotate_left
  · show Act.put _ (some 79) _ = _
    simp only [Act.put, List.setIfInBounds_toArray, List.set_cons_zero, List.set_cons_succ, i64_w, i32_w]
    rfl
  refine one_ (i := 7) (N := some 80) (bs 12 1023) rfl rfl (by kernel_rfl) (by decide) (fun K hK => ?_)
  refine goes_ Try.func28 (by kernel_rfl) rfl #[.agg #[.int .u64 r0, .int .u64 r1, .int .u64 r2, .bool true, .int .u64 now, .int .u64 (max r5 r0), .int .u64 (uCbrt (uMulDiv (IntKind.u64.wrap (r5 - r0)) 1000000000 480)), .int .u64 (uAdd r0 (uMulDiv by_ 635 r0))], .int .u64 (uAdd (uSub now now) took)] (by rfl) rfl rfl (by simp only [List.map_toArray, List.map_cons, List.map_nil]; rfl) ?_
  with_reducible refine (targetC r0 r1 r2 true now (max r5 r0) (uCbrt (uMulDiv (IntKind.u64.wrap (r5 - r0)) 1000000000 480)) (uAdd r0 (uMulDiv by_ 635 r0)) (uAdd (uSub now now) took) Wr0 (max_w Wr5 Wr0) (uCbrt_w (uMulDiv_w (w64_wrap _) (by decide) (by decide))) (uAdd_w (uSub_w Wnow Wnow) Wtook) _).mono ?_
  rintro e w18 ⟨rfl, hl⟩
  refine ⟨_, rfl, ?_⟩
  replace Bg0 := Bg0.below hl; replace Bg1 := Bg1.below hl; replace HS := HS.below hl; clear hl; replace kg0_0 := Bg0.at 0 rfl; replace kg0_4 := Bg0.at 4 rfl
  refine hK.out _ _ ⟨Bg0, ((Bg0.cell 4).trans rfl), ((Bg0.cell 0).trans rfl)⟩ (fun hHeld => ?_)
  clear hK K
  refine norm_ (a' := ?_) ?_ ?_
  rotate_left
  · show Act.put _ (some 80) _ = _
    simp only [Act.put, List.setIfInBounds_toArray, List.set_cons_zero, List.set_cons_succ, i64_w, i32_w]
    rfl
  refine pure_ (i := 10) (N := some 83) (v := ?_) (a' := ?_) (bs 12 2047) rfl rfl (by kernel_rfl) (fun _ _ _ h => h) (Or.inl ⟨by rfl, ?_⟩) ?_ ?_
  rotate_left
  · intro w'
    go_simp
    with_reducible rfl
  rotate_left
  · simp only [Act.put, List.setIfInBounds_toArray, List.set_cons_zero, List.set_cons_succ, i64_w, i32_w]
    rfl
  refine pure_ (i := 11) (N := some 13) (v := ?_) (a' := ?_) (bs 12 4095) rfl rfl (by kernel_rfl) (fun _ _ _ h => h) (Or.inl ⟨by rfl, ?_⟩) ?_ ?_
  rotate_left
  · intro w'
    go_simp
    with_reducible rfl
  rotate_left
  · simp only [Act.put, List.setIfInBounds_toArray, List.set_cons_zero, List.set_cons_succ, i64_w, i32_w]
    rfl
  refine done_ (by kernel_rfl) ?_
  refine letter ?_
  intro w19 hW
  have Bn_ : Blk w19 g0 29 [.int .u64 r0, .int .u64 r1, .int .u64 r2, .bool true, .int .u64 now, .int .u64 (max r5 r0), .int .u64 (uCbrt (uMulDiv (IntKind.u64.wrap (r5 - r0)) 1000000000 480)), .int .u64 (uAdd r0 (uMulDiv by_ 635 r0))] := (by rw [hW]; (repeat (first | (with_reducible refine Blk.drewN ?_ _) | (with_reducible refine Blk.drew ?_))); exact Bg0)
  replace Bg0 := Bn_
  clear Bn_
  have Bn_ : Blk w19 g1 29 [.int .u64 0, .int .u64 0, .int .u64 0, .bool false, .int .u64 0, .int .u64 0, .int .u64 0, .int .u64 0] := (by rw [hW]; (repeat (first | (with_reducible refine Blk.drewN ?_ _) | (with_reducible refine Blk.drew ?_))); exact Bg1)
  replace Bg1 := Bn_
  clear Bn_
  have HS_ : Since w w19 := (by rw [hW]; repeat (first | (with_reducible exact HS) | (with_reducible refine Since.drewN ?_ _) | (with_reducible refine Since.drew ?_)))
  replace HS := HS_
  clear HS_ hW
  clear kg0_4; replace kg0_0 := Bg0.at 0 rfl; have zg0_0 := Bg0.frozen 0; have kg0_7 := Bg0.at 7 rfl
  go_wp2
  refine start_ (n := 14) (S := fun w' => w'.cell? ⟨g0, 7, none⟩ = some (.int .u64 (uAdd r0 (uMulDiv by_ 635 r0))) ∧ w'.cell? ⟨g0, 0, none⟩ = some (.int .u64 r0)) (ds := [13]) (bs 14 0) (by kernel_rfl) rfl rfl ⟨((Bg0.drew.cell 7).trans rfl), ((Bg0.drew.cell 0).trans rfl)⟩ (fun hHeld => ?_)
  generalize hWd : World.drew w19 = w20 at hHeld ⊢
  have hl : Below w19.heap.size w19 w20 := (by rw [← hWd]; exact below_drew1 (Below.refl _ _))
  clear hWd
  replace Bg0 := Bg0.below hl; replace Bg1 := Bg1.below hl; replace HS := HS.below hl; clear hl; replace kg0_0 := Bg0.at 0 rfl; replace zg0_0 := Bg0.frozen 0; replace kg0_7 := Bg0.at 7 rfl
  refine pu 0 84 (.pointer (some ⟨g0, 7, none⟩)) 1 rfl rfl (by kernel_rfl) (fun _ _ _ h => h) (by rfl) (fun _ => by kernel_rfl) rfl ?_
  refine pu 2 86 (.pointer (some ⟨g0, 0, none⟩)) 5 rfl rfl (by kernel_rfl) (fun _ _ _ h => h) (by rfl) (fun _ => by kernel_rfl) rfl ?_
  refine pu 4 88 (.int .u64 (IntKind.u64.wrap ((uTarget r0 (max r5 r0) (uCbrt (uMulDiv (IntKind.u64.wrap (r5 - r0)) 1000000000 480)) (uAdd (uSub now now) took)) - r0))) 21 rfl rfl (by kernel_rfl) (fun _ _ _ h => h) (by rfl) (fun _ => by kernel_rfl) rfl ?_
  refine pu 5 89 (.int .u64 by_) 53 rfl rfl (by kernel_rfl) (fun _ _ _ h => h) (by rfl) (fun _ => by kernel_rfl) rfl ?_
  refine pu 6 90 (.pointer (some ⟨g0, 0, none⟩)) 117 rfl rfl (by kernel_rfl) (fun _ _ _ h => h) (by rfl) (fun _ => by kernel_rfl) rfl ?_
  refine norm_ (a' := ?_) ?_ ?_
  rotate_left
  · simp only [Act.put, List.setIfInBounds_toArray, List.set_cons_zero, List.set_cons_succ, i64_w, i32_w]
    rfl
  refine take_ (i := 1) (N := some 85) (v := ?_) (a' := ?_) (bs 14 119) rfl rfl (by kernel_rfl) (fun _ _ _ h => h) (Or.inl ⟨by rfl, ?_⟩) hHeld ?_ ?_
  rotate_left
  · rintro w' ⟨s0, s1⟩
    go_simp
    with_reducible rfl
  rotate_left
  · simp only [Act.put, List.setIfInBounds_toArray, List.set_cons_zero, List.set_cons_succ, i64_w, i32_w]
    rfl
  refine take_ (i := 3) (N := some 87) (v := ?_) (a' := ?_) (bs 14 127) rfl rfl (by kernel_rfl) (fun _ _ _ h => h) (Or.inl ⟨by rfl, ?_⟩) hHeld ?_ ?_
  rotate_left
  · rintro w' ⟨s0, s1⟩
    go_simp
    with_reducible rfl
  rotate_left
  · simp only [Act.put, List.setIfInBounds_toArray, List.set_cons_zero, List.set_cons_succ, i64_w, i32_w]
    rfl
  refine take_ (i := 7) (N := some 91) (v := ?_) (a' := ?_) (bs 14 255) rfl rfl (by kernel_rfl) (fun _ _ _ h => h) (Or.inl ⟨by rfl, ?_⟩) hHeld ?_ ?_
  rotate_left
  · rintro w' ⟨s0, s1⟩
    go_simp
    with_reducible rfl
  rotate_left
  · simp only [Act.put, List.setIfInBounds_toArray, List.set_cons_zero, List.set_cons_succ, i64_w, i32_w]
    rfl
  refine one_ (i := 8) (N := some 92) (bs 14 511) rfl rfl (by kernel_rfl) (by decide) (fun K hK => ?_)
  refine goes_ Try.func20 (by kernel_rfl) rfl #[.int .u64 (IntKind.u64.wrap ((uTarget r0 (max r5 r0) (uCbrt (uMulDiv (IntKind.u64.wrap (r5 - r0)) 1000000000 480)) (uAdd (uSub now now) took)) - r0)), .int .u64 by_, .int .u64 r0] (by rfl) rfl rfl (by simp only [List.map_toArray, List.map_cons, List.map_nil]; rfl) ?_
  with_reducible refine (fix_MulDivT.C (IntKind.u64.wrap ((uTarget r0 (max r5 r0) (uCbrt (uMulDiv (IntKind.u64.wrap (r5 - r0)) 1000000000 480)) (uAdd (uSub now now) took)) - r0)) by_ r0 (w64_wrap _) Wby_ Wr0 _).mono ?_
  rintro e w21 ⟨rfl, hd⟩
  refine ⟨_, rfl, ?_⟩
  have hl := hd.below
  clear hd
  replace Bg0 := Bg0.below hl; replace Bg1 := Bg1.below hl; replace HS := HS.below hl; clear hl; replace kg0_0 := Bg0.at 0 rfl; replace zg0_0 := Bg0.frozen 0; replace kg0_7 := Bg0.at 7 rfl
  refine hK.out _ _ ⟨((Bg0.cell 7).trans rfl), ((Bg0.cell 0).trans rfl)⟩ (fun hHeld => ?_)
  clear hK K
  refine norm_ (a' := ?_) ?_ ?_
  rotate_left
  · show Act.put _ (some 92) _ = _
    simp only [Act.put, List.setIfInBounds_toArray, List.set_cons_zero, List.set_cons_succ, i64_w, i32_w]
    rfl
  refine one_ (i := 9) (N := some 93) (bs 14 1023) rfl rfl (by kernel_rfl) (by decide) (fun K hK => ?_)
  refine goes_ Try.func25 (by kernel_rfl) rfl #[.int .u64 r0, .int .u64 (uMulDiv (IntKind.u64.wrap ((uTarget r0 (max r5 r0) (uCbrt (uMulDiv (IntKind.u64.wrap (r5 - r0)) 1000000000 480)) (uAdd (uSub now now) took)) - r0)) by_ r0)] (by rfl) rfl rfl (by simp only [List.map_toArray, List.map_cons, List.map_nil]; rfl) ?_
  with_reducible refine (fix_Add.C r0 (uMulDiv (IntKind.u64.wrap ((uTarget r0 (max r5 r0) (uCbrt (uMulDiv (IntKind.u64.wrap (r5 - r0)) 1000000000 480)) (uAdd (uSub now now) took)) - r0)) by_ r0) Wr0 (uMulDiv_w (w64_wrap _) Wby_ Wr0) _).mono ?_
  rintro e w22 ⟨rfl, hd⟩
  refine ⟨_, rfl, ?_⟩
  have hl := hd.below
  clear hd
  replace Bg0 := Bg0.below hl; replace Bg1 := Bg1.below hl; replace HS := HS.below hl; clear hl; replace kg0_0 := Bg0.at 0 rfl; replace zg0_0 := Bg0.frozen 0; replace kg0_7 := Bg0.at 7 rfl
  refine hK.out _ _ ⟨((Bg0.cell 7).trans rfl), ((Bg0.cell 0).trans rfl)⟩ (fun hHeld => ?_)
  clear hK K
  refine norm_ (a' := ?_) ?_ ?_
  rotate_left
  · show Act.put _ (some 93) _ = _
    simp only [Act.put, List.setIfInBounds_toArray, List.set_cons_zero, List.set_cons_succ, i64_w, i32_w]
    rfl
  refine pure_ (i := 10) (N := some 94) (v := ?_) (a' := ?_) (bs 14 2047) rfl rfl (by kernel_rfl) (fun _ _ _ h => h) (Or.inl ⟨by rfl, ?_⟩) ?_ ?_
  rotate_left
  · intro w'
    go_simp
    with_reducible rfl
  rotate_left
  · simp only [Act.put, List.setIfInBounds_toArray, List.set_cons_zero, List.set_cons_succ, i64_w, i32_w]
    rfl
  refine one_ (i := 11) (N := some 95) (bs 14 4095) rfl rfl (by kernel_rfl) (by decide) (fun K hK => ?_)
  refine goes_ Try.func24 (by kernel_rfl) rfl #[.int .u64 (max (uAdd r0 (uMulDiv by_ 635 r0)) (uAdd r0 (uMulDiv (IntKind.u64.wrap ((uTarget r0 (max r5 r0) (uCbrt (uMulDiv (IntKind.u64.wrap (r5 - r0)) 1000000000 480)) (uAdd (uSub now now) took)) - r0)) by_ r0)))] (by rfl) rfl rfl (by simp only [List.map_toArray, List.map_cons, List.map_nil]; rfl) ?_
  with_reducible refine (reno_Held.C (max (uAdd r0 (uMulDiv by_ 635 r0)) (uAdd r0 (uMulDiv (IntKind.u64.wrap ((uTarget r0 (max r5 r0) (uCbrt (uMulDiv (IntKind.u64.wrap (r5 - r0)) 1000000000 480)) (uAdd (uSub now now) took)) - r0)) by_ r0))) _).mono ?_
  rintro e w23 ⟨rfl, hd⟩
  refine ⟨_, rfl, ?_⟩
  have hl := hd.below
  clear hd
  replace Bg0 := Bg0.below hl; replace Bg1 := Bg1.below hl; replace HS := HS.below hl; clear hl; replace kg0_0 := Bg0.at 0 rfl; replace zg0_0 := Bg0.frozen 0; replace kg0_7 := Bg0.at 7 rfl
  refine hK.out _ _ ⟨((Bg0.cell 7).trans rfl), ((Bg0.cell 0).trans rfl)⟩ (fun hHeld => ?_)
  clear hK K
  refine norm_ (a' := ?_) ?_ ?_
  rotate_left
  · show Act.put _ (some 95) _ = _
    simp only [Act.put, List.setIfInBounds_toArray, List.set_cons_zero, List.set_cons_succ, i64_w, i32_w]
    rfl
  refine pu 12 96 (.pointer (some ⟨g0, 0, none⟩)) 8191 rfl rfl (by kernel_rfl) (fun _ _ _ h => h) (by rfl) (fun _ => by kernel_rfl) rfl ?_
  refine norm_ (a' := ?_) ?_ ?_
  rotate_left
  · simp only [Act.put, List.setIfInBounds_toArray, List.set_cons_zero, List.set_cons_succ, i64_w, i32_w]
    rfl
  refine last_ (i := 13) (N := none) (bs 14 16383) rfl rfl (by kernel_rfl) (by decide) (fun K hK => ?_)
  refine skip_ (w1 := ?_) (by rfl) rfl ?_ ?_
  rotate_left
  · go_simp
    rfl
  refine hK.out _ _ ?_
  clear hK K
  refine done_ (by kernel_rfl) ?_
  refine letter ?_
  intro w24 hW
  have Bn_ : Blk w24 g0 29 [.int .u64 (uHeld (max (uAdd r0 (uMulDiv by_ 635 r0)) (uAdd r0 (uMulDiv (IntKind.u64.wrap ((uTarget r0 (max r5 r0) (uCbrt (uMulDiv (IntKind.u64.wrap (r5 - r0)) 1000000000 480)) (uAdd (uSub now now) took)) - r0)) by_ r0)))), .int .u64 r1, .int .u64 r2, .bool true, .int .u64 now, .int .u64 (max r5 r0), .int .u64 (uCbrt (uMulDiv (IntKind.u64.wrap (r5 - r0)) 1000000000 480)), .int .u64 (uAdd r0 (uMulDiv by_ 635 r0))] := (by rw [hW]; (repeat (first | (with_reducible refine Blk.drewN ?_ _) | (with_reducible refine Blk.drew ?_))); refine Blk.set (l := [.int .u64 r0, .int .u64 r1, .int .u64 r2, .bool true, .int .u64 now, .int .u64 (max r5 r0), .int .u64 (uCbrt (uMulDiv (IntKind.u64.wrap (r5 - r0)) 1000000000 480)), .int .u64 (uAdd r0 (uMulDiv by_ 635 r0))]) ?_ 0 _ rfl; (repeat (first | (with_reducible refine Blk.drewN ?_ _) | (with_reducible refine Blk.drew ?_))); exact Bg0)
  replace Bg0 := Bn_
  clear Bn_
  have Bn_ : Blk w24 g1 29 [.int .u64 0, .int .u64 0, .int .u64 0, .bool false, .int .u64 0, .int .u64 0, .int .u64 0, .int .u64 0] := (by rw [hW]; (repeat (first | (with_reducible refine Blk.drewN ?_ _) | (with_reducible refine Blk.drew ?_))); refine Blk.setFar ?_ Ng1_g0; (repeat (first | (with_reducible refine Blk.drewN ?_ _) | (with_reducible refine Blk.drew ?_))); exact Bg1)
  replace Bg1 := Bn_
  clear Bn_
  have HS_ : Since w w24 := (by rw [hW]; repeat (first | (with_reducible exact HS) | (with_reducible refine Since.drewN ?_ _) | (with_reducible refine Since.drew ?_) | (with_reducible refine Since.set ?_ GEg0)))
  replace HS := HS_
  clear HS_ hW
  clear kg0_0 zg0_0 kg0_7
  go_wp2_with (first | ((with_reducible refine gate_dst (N := 97) rfl ?_); refine seg_load rfl (N := 97) rfl 29 (.tmp 6) rfl g0 0 [.int .u64 (uHeld (max (uAdd r0 (uMulDiv by_ 635 r0)) (uAdd r0 (uMulDiv (IntKind.u64.wrap ((uTarget r0 (max r5 r0) (uCbrt (uMulDiv (IntKind.u64.wrap (r5 - r0)) 1000000000 480)) (uAdd (uSub now now) took)) - r0)) by_ r0)))), .int .u64 r1, .int .u64 r2, .bool true, .int .u64 now, .int .u64 (max r5 r0), .int .u64 (uCbrt (uMulDiv (IntKind.u64.wrap (r5 - r0)) 1000000000 480)), .int .u64 (uAdd r0 (uMulDiv by_ 635 r0))] ?hx Bg0 rfl Try.underlying29 rfl (by kernel_rfl) ?_; (case hx => first | rfl | (go_simp; done) | (go_simp; rfl))) | ((with_reducible refine gate_ (.store 29 (.tmp 12) (.tmp 97)) rfl ?_); refine seg_store rfl rfl 29 (.tmp 12) (.tmp 97) rfl g1 0 [.int .u64 (uHeld (max (uAdd r0 (uMulDiv by_ 635 r0)) (uAdd r0 (uMulDiv (IntKind.u64.wrap ((uTarget r0 (max r5 r0) (uCbrt (uMulDiv (IntKind.u64.wrap (r5 - r0)) 1000000000 480)) (uAdd (uSub now now) took)) - r0)) by_ r0)))), .int .u64 r1, .int .u64 r2, .bool true, .int .u64 now, .int .u64 (max r5 r0), .int .u64 (uCbrt (uMulDiv (IntKind.u64.wrap (r5 - r0)) 1000000000 480)), .int .u64 (uAdd r0 (uMulDiv by_ 635 r0))] [.int .u64 (uHeld (max (uAdd r0 (uMulDiv by_ 635 r0)) (uAdd r0 (uMulDiv (IntKind.u64.wrap ((uTarget r0 (max r5 r0) (uCbrt (uMulDiv (IntKind.u64.wrap (r5 - r0)) 1000000000 480)) (uAdd (uSub now now) took)) - r0)) by_ r0)))), .int .u64 r1, .int .u64 r2, .bool true, .int .u64 now, .int .u64 (max r5 r0), .int .u64 (uCbrt (uMulDiv (IntKind.u64.wrap (r5 - r0)) 1000000000 480)), .int .u64 (uAdd r0 (uMulDiv by_ 635 r0))] (.agg #[.int .u64 (uHeld (max (uAdd r0 (uMulDiv by_ 635 r0)) (uAdd r0 (uMulDiv (IntKind.u64.wrap ((uTarget r0 (max r5 r0) (uCbrt (uMulDiv (IntKind.u64.wrap (r5 - r0)) 1000000000 480)) (uAdd (uSub now now) took)) - r0)) by_ r0)))), .int .u64 r1, .int .u64 r2, .bool true, .int .u64 now, .int .u64 (max r5 r0), .int .u64 (uCbrt (uMulDiv (IntKind.u64.wrap (r5 - r0)) 1000000000 480)), .int .u64 (uAdd r0 (uMulDiv by_ 635 r0))]) ?hx ?hy rfl Bg1 (by kernel_rfl) (Nat.le_of_ble_eq_true rfl) rfl rfl ?_; (case hx => first | rfl | (go_simp; done) | (go_simp; rfl)); (case hy => first | rfl | (go_simp; done) | (go_simp; rfl)); intro w25 hn hw; replace Bg0 := Bg0.grown hw Ng1_g0.symm; replace HS := HS.grown hw GEg1; replace Bg1 := hn; clear hw; clear hn))
  all_goals exact bodyPost_ret (results_cell1 rfl _ _ g1 29 [.int .u64 (uHeld (max (uAdd r0 (uMulDiv by_ 635 r0)) (uAdd r0 (uMulDiv (IntKind.u64.wrap ((uTarget r0 (max r5 r0) (uCbrt (uMulDiv (IntKind.u64.wrap (r5 - r0)) 1000000000 480)) (uAdd (uSub now now) took)) - r0)) by_ r0)))), .int .u64 r1, .int .u64 r2, .bool true, .int .u64 now, .int .u64 (max r5 r0), .int .u64 (uCbrt (uMulDiv (IntKind.u64.wrap (r5 - r0)) 1000000000 480)), .int .u64 (uAdd r0 (uMulDiv by_ 635 r0))] _ rfl Bg1 Try.underlying29 rfl (by kernel_rfl)) rfl ⟨rfl, HS.out⟩
set_option maxRecDepth 100000 in
set_option maxHeartbeats 4000000 in
theorem cubic_ack_5 (r0 r1 r2 r4 r5 r6 r7 by_ at_ now took : Int) (Wr0 : W64 r0) (Wr5 : W64 r5) (Wby_ : W64 by_) (Wnow : W64 now) (Wtook : W64 took) (w : World) (h0 : (decide (at_ < r2)) = false) (h1 : (decide (r0 < r1)) = false) (h2 : (decide (r0 < r5)) = false) :
    Calls Try.prog 12 #[.agg #[.int .u64 r0, .int .u64 r1, .int .u64 r2, .bool false, .int .u64 r4, .int .u64 r5, .int .u64 r6, .int .u64 r7], .int .u64 by_, .int .u64 at_, .int .u64 now, .int .u64 took, .bool false] w fun e w' => e = .returned (.agg #[.int .u64 (uHeld (max (uAdd r0 (uMulDiv by_ 635 r0)) (uAdd r0 (uMulDiv (IntKind.u64.wrap ((uTarget r0 (max r5 r0) 0 (uAdd (uSub now now) took)) - r0)) by_ r0)))), .int .u64 r1, .int .u64 r2, .bool true, .int .u64 now, .int .u64 (max r5 r0), .int .u64 0, .int .u64 (uAdd r0 (uMulDiv by_ 635 r0))]) ∧ Below w.heap.size w w' := by
  have hu29 := Try.underlying29
  have HS := Since.refl w
  go_enter Try.func12, Try.ntmps12
  go_wp2_with (first | ((with_reducible refine gate_dst (N := 6) rfl ?_); refine seg_new rfl (N := 6) rfl [.int .u64 r0, .int .u64 r1, .int .u64 r2, .bool false, .int .u64 r4, .int .u64 r5, .int .u64 r6, .int .u64 r7] 29 ?hr ?_; (case hr => first | (go_simp; done) | (go_simp; rfl) | kernel_rfl); intro g0 hg w1 hn hl; have GEg0 := ge_new HS hg; clear hg; replace HS := HS.below hl; have Bg0 := hn; clear hl hn) | ((with_reducible refine gate_dst (N := 12) rfl ?_); refine seg_new rfl (N := 12) rfl [.int .u64 0, .int .u64 0, .int .u64 0, .bool false, .int .u64 0, .int .u64 0, .int .u64 0, .int .u64 0] 29 ?hr ?_; (case hr => first | (go_simp; done) | (go_simp; rfl) | kernel_rfl); intro g1 hg w2 hn hl; have Ng1_g0 := ne_new Bg0 hg; have GEg1 := ge_new HS hg; clear hg; replace Bg0 := Bg0.below hl; replace HS := HS.below hl; have Bg1 := hn; clear hl hn; have kg0_0 := Bg0.at 0 rfl; have kg0_1 := Bg0.at 1 rfl; have kg0_2 := Bg0.at 2 rfl; have kg0_3 := Bg0.at 3 rfl) | ((with_reducible refine gate_ (.store 4 (.tmp 42) (.const (.bool true))) rfl ?_); refine seg_store rfl rfl 4 (.tmp 42) (.const (.bool true)) rfl g0 3 [.bool true] [.int .u64 r0, .int .u64 r1, .int .u64 r2, .bool true, .int .u64 r4, .int .u64 r5, .int .u64 r6, .int .u64 r7] (.bool true) ?hx ?hy rfl Bg0 (by kernel_rfl) (Nat.le_of_ble_eq_true rfl) rfl rfl ?_; (case hx => first | rfl | (go_simp; done) | (go_simp; rfl)); (case hy => first | rfl | (go_simp; done) | (go_simp; rfl)); intro w3 hn hw; replace Bg1 := Bg1.grown hw Ng1_g0; replace HS := HS.grown hw GEg0; replace Bg0 := hn; clear hw; clear kg0_0 kg0_1 kg0_2 kg0_3; clear hn) | ((with_reducible refine gate_ (.store 23 (.tmp 43) (.tmp 39)) rfl ?_); refine seg_store rfl rfl 23 (.tmp 43) (.tmp 39) rfl g0 4 [.int .u64 now] [.int .u64 r0, .int .u64 r1, .int .u64 r2, .bool true, .int .u64 now, .int .u64 r5, .int .u64 r6, .int .u64 r7] (.int .u64 now) ?hx ?hy rfl Bg0 (by kernel_rfl) (Nat.le_of_ble_eq_true rfl) rfl rfl ?_; (case hx => first | rfl | (go_simp; done) | (go_simp; rfl)); (case hy => first | rfl | (go_simp; done) | (go_simp; rfl)); intro w4 hn hw; replace Bg1 := Bg1.grown hw Ng1_g0; replace HS := HS.grown hw GEg0; replace Bg0 := hn; clear hw; clear hn) | ((with_reducible refine gate_ (.store 23 (.tmp 44) (.tmp 41)) rfl ?_); refine seg_store rfl rfl 23 (.tmp 44) (.tmp 41) rfl g0 7 [.int .u64 r0] [.int .u64 r0, .int .u64 r1, .int .u64 r2, .bool true, .int .u64 now, .int .u64 r5, .int .u64 r6, .int .u64 r0] (.int .u64 r0) ?hx ?hy rfl Bg0 (by kernel_rfl) (Nat.le_of_ble_eq_true rfl) rfl rfl ?_; (case hx => first | rfl | (go_simp; done) | (go_simp; rfl)); (case hy => first | rfl | (go_simp; done) | (go_simp; rfl)); intro w5 hn hw; replace Bg1 := Bg1.grown hw Ng1_g0; replace HS := HS.grown hw GEg0; replace Bg0 := hn; clear hw; clear hn) | ((with_reducible refine gate_ (.store 23 (.tmp 45) (.const (.int .u64 0))) rfl ?_); refine seg_store rfl rfl 23 (.tmp 45) (.const (.int .u64 0)) rfl g0 6 [.int .u64 0] [.int .u64 r0, .int .u64 r1, .int .u64 r2, .bool true, .int .u64 now, .int .u64 r5, .int .u64 0, .int .u64 r0] (.int .u64 0) ?hx ?hy rfl Bg0 (by kernel_rfl) (Nat.le_of_ble_eq_true rfl) rfl rfl ?_; (case hx => first | rfl | (go_simp; done) | (go_simp; rfl)); (case hy => first | rfl | (go_simp; done) | (go_simp; rfl)); intro w6 hn hw; replace Bg1 := Bg1.grown hw Ng1_g0; replace HS := HS.grown hw GEg0; replace Bg0 := hn; clear hw; have kg0_0 := Bg0.at 0 rfl; have kg0_5 := Bg0.at 5 rfl; clear hn) | ((with_reducible refine gate_ (.store 23 (.tmp 64) (.tmp 63)) rfl ?_); refine seg_store rfl rfl 23 (.tmp 64) (.tmp 63) rfl g0 5 [.int .u64 (max r5 r0)] [.int .u64 r0, .int .u64 r1, .int .u64 r2, .bool true, .int .u64 now, .int .u64 (max r5 r0), .int .u64 0, .int .u64 r0] (.int .u64 (max r5 r0)) ?hx ?hy rfl Bg0 (by kernel_rfl) (Nat.le_of_ble_eq_true rfl) rfl rfl ?_; (case hx => first | rfl | (go_simp; done) | (go_simp; rfl)); (case hy => first | rfl | (go_simp; done) | (go_simp; rfl)); intro w7 hn hw; replace Bg1 := Bg1.grown hw Ng1_g0; replace HS := HS.grown hw GEg0; replace Bg0 := hn; clear hw; clear kg0_5; replace kg0_0 := Bg0.at 0 rfl; have kg0_7 := Bg0.at 7 rfl; have zg0_7 := Bg0.frozen 7; clear hn))
  refine start_ (n := 9) (S := fun w' => w'.cell? ⟨g0, 7, none⟩ = some (.int .u64 r0) ∧ w'.cell? ⟨g0, 0, none⟩ = some (.int .u64 r0)) (ds := [8]) (bs 9 0) (by kernel_rfl) rfl rfl ⟨((Bg0.drew.cell 7).trans rfl), ((Bg0.drew.cell 0).trans rfl)⟩ (fun hHeld => ?_)
  generalize hWd : World.drew w7 = w8 at hHeld ⊢
  have hl : Below w7.heap.size w7 w8 := (by rw [← hWd]; exact below_drew1 (Below.refl _ _))
  clear hWd
  replace Bg0 := Bg0.below hl; replace Bg1 := Bg1.below hl; replace HS := HS.below hl; clear hl; replace kg0_0 := Bg0.at 0 rfl; replace kg0_7 := Bg0.at 7 rfl; replace zg0_7 := Bg0.frozen 7
  refine pu 0 65 (.pointer (some ⟨g0, 7, none⟩)) 1 rfl rfl (by kernel_rfl) (fun _ _ _ h => h) (by rfl) (fun _ => by kernel_rfl) rfl ?_
  refine pu 2 67 (.int .u64 by_) 5 rfl rfl (by kernel_rfl) (fun _ _ _ h => h) (by rfl) (fun _ => by kernel_rfl) rfl ?_
  refine pu 3 68 (.pointer (some ⟨g0, 0, none⟩)) 13 rfl rfl (by kernel_rfl) (fun _ _ _ h => h) (by rfl) (fun _ => by kernel_rfl) rfl ?_
  refine norm_ (a' := ?_) ?_ ?_
  rotate_left
  · simp only [Act.put, List.setIfInBounds_toArray, List.set_cons_zero, List.set_cons_succ, i64_w, i32_w]
    rfl
  refine take_ (i := 1) (N := some 66) (v := ?_) (a' := ?_) (bs 9 15) rfl rfl (by kernel_rfl) (fun _ _ _ h => h) (Or.inl ⟨by rfl, ?_⟩) hHeld ?_ ?_
  rotate_left
  · rintro w' ⟨s0, s1⟩
    go_simp
    with_reducible rfl
  rotate_left
  · simp only [Act.put, List.setIfInBounds_toArray, List.set_cons_zero, List.set_cons_succ, i64_w, i32_w]
    rfl
  refine take_ (i := 4) (N := some 69) (v := ?_) (a' := ?_) (bs 9 31) rfl rfl (by kernel_rfl) (fun _ _ _ h => h) (Or.inl ⟨by rfl, ?_⟩) hHeld ?_ ?_
  rotate_left
  · rintro w' ⟨s0, s1⟩
    go_simp
    with_reducible rfl
  rotate_left
  · simp only [Act.put, List.setIfInBounds_toArray, List.set_cons_zero, List.set_cons_succ, i64_w, i32_w]
    rfl
  refine one_ (i := 5) (N := some 70) (bs 9 63) rfl rfl (by kernel_rfl) (by decide) (fun K hK => ?_)
  refine goes_ Try.func20 (by kernel_rfl) rfl #[.int .u64 by_, .int .u64 635, .int .u64 r0] (by rfl) rfl rfl (by simp only [List.map_toArray, List.map_cons, List.map_nil]; rfl) ?_
  with_reducible refine (fix_MulDivT.C by_ 635 r0 Wby_ (by decide) Wr0 _).mono ?_
  rintro e w9 ⟨rfl, hd⟩
  refine ⟨_, rfl, ?_⟩
  have hl := hd.below
  clear hd
  replace Bg0 := Bg0.below hl; replace Bg1 := Bg1.below hl; replace HS := HS.below hl; clear hl; replace kg0_0 := Bg0.at 0 rfl; replace kg0_7 := Bg0.at 7 rfl; replace zg0_7 := Bg0.frozen 7
  refine hK.out _ _ ⟨((Bg0.cell 7).trans rfl), ((Bg0.cell 0).trans rfl)⟩ (fun hHeld => ?_)
  clear hK K
  refine norm_ (a' := ?_) ?_ ?_
  rotate_left
  · show Act.put _ (some 70) _ = _
    simp only [Act.put, List.setIfInBounds_toArray, List.set_cons_zero, List.set_cons_succ, i64_w, i32_w]
    rfl
  refine one_ (i := 6) (N := some 71) (bs 9 127) rfl rfl (by kernel_rfl) (by decide) (fun K hK => ?_)
  refine goes_ Try.func25 (by kernel_rfl) rfl #[.int .u64 r0, .int .u64 (uMulDiv by_ 635 r0)] (by rfl) rfl rfl (by simp only [List.map_toArray, List.map_cons, List.map_nil]; rfl) ?_
  with_reducible refine (fix_Add.C r0 (uMulDiv by_ 635 r0) Wr0 (uMulDiv_w Wby_ (by decide) Wr0) _).mono ?_
  rintro e w10 ⟨rfl, hd⟩
  refine ⟨_, rfl, ?_⟩
  have hl := hd.below
  clear hd
  replace Bg0 := Bg0.below hl; replace Bg1 := Bg1.below hl; replace HS := HS.below hl; clear hl; replace kg0_0 := Bg0.at 0 rfl; replace kg0_7 := Bg0.at 7 rfl; replace zg0_7 := Bg0.frozen 7
  refine hK.out _ _ ⟨((Bg0.cell 7).trans rfl), ((Bg0.cell 0).trans rfl)⟩ (fun hHeld => ?_)
  clear hK K
  refine norm_ (a' := ?_) ?_ ?_
  rotate_left
  · show Act.put _ (some 71) _ = _
    simp only [Act.put, List.setIfInBounds_toArray, List.set_cons_zero, List.set_cons_succ, i64_w, i32_w]
    rfl
  refine pu 7 72 (.pointer (some ⟨g0, 7, none⟩)) 255 rfl rfl (by kernel_rfl) (fun _ _ _ h => h) (by rfl) (fun _ => by kernel_rfl) rfl ?_
  refine norm_ (a' := ?_) ?_ ?_
  rotate_left
  · simp only [Act.put, List.setIfInBounds_toArray, List.set_cons_zero, List.set_cons_succ, i64_w, i32_w]
    rfl
  refine last_ (i := 8) (N := none) (bs 9 511) rfl rfl (by kernel_rfl) (by decide) (fun K hK => ?_)
  refine skip_ (w1 := ?_) (by rfl) rfl ?_ ?_
  rotate_left
  · go_simp
    rfl
  refine hK.out _ _ ?_
  clear hK K
  refine done_ (by kernel_rfl) ?_
  refine letter ?_
  intro w11 hW
  have Bn_ : Blk w11 g0 29 [.int .u64 r0, .int .u64 r1, .int .u64 r2, .bool true, .int .u64 now, .int .u64 (max r5 r0), .int .u64 0, .int .u64 (uAdd r0 (uMulDiv by_ 635 r0))] := (by rw [hW]; (repeat (first | (with_reducible refine Blk.drewN ?_ _) | (with_reducible refine Blk.drew ?_))); refine Blk.set (l := [.int .u64 r0, .int .u64 r1, .int .u64 r2, .bool true, .int .u64 now, .int .u64 (max r5 r0), .int .u64 0, .int .u64 r0]) ?_ 7 _ rfl; (repeat (first | (with_reducible refine Blk.drewN ?_ _) | (with_reducible refine Blk.drew ?_))); exact Bg0)
  replace Bg0 := Bn_
  clear Bn_
  have Bn_ : Blk w11 g1 29 [.int .u64 0, .int .u64 0, .int .u64 0, .bool false, .int .u64 0, .int .u64 0, .int .u64 0, .int .u64 0] := (by rw [hW]; (repeat (first | (with_reducible refine Blk.drewN ?_ _) | (with_reducible refine Blk.drew ?_))); refine Blk.setFar ?_ Ng1_g0; (repeat (first | (with_reducible refine Blk.drewN ?_ _) | (with_reducible refine Blk.drew ?_))); exact Bg1)
  replace Bg1 := Bn_
  clear Bn_
  have HS_ : Since w w11 := (by rw [hW]; repeat (first | (with_reducible exact HS) | (with_reducible refine Since.drewN ?_ _) | (with_reducible refine Since.drew ?_) | (with_reducible refine Since.set ?_ GEg0)))
  replace HS := HS_
  clear HS_ hW
  clear kg0_7 zg0_7; replace kg0_0 := Bg0.at 0 rfl; have kg0_4 := Bg0.at 4 rfl
  go_wp2
  refine start_ (n := 12) (S := fun w' => Blk w' g0 29 [.int .u64 r0, .int .u64 r1, .int .u64 r2, .bool true, .int .u64 now, .int .u64 (max r5 r0), .int .u64 0, .int .u64 (uAdd r0 (uMulDiv by_ 635 r0))] ∧ w'.cell? ⟨g0, 4, none⟩ = some (.int .u64 now) ∧ w'.cell? ⟨g0, 0, none⟩ = some (.int .u64 r0)) (ds := []) (bs 12 0) (by kernel_rfl) rfl rfl ⟨Bg0.drew, ((Bg0.drew.cell 4).trans rfl), ((Bg0.drew.cell 0).trans rfl)⟩ (fun hHeld => ?_)
  generalize hWd : World.drew w11 = w12 at hHeld ⊢
  have hl : Below w11.heap.size w11 w12 := (by rw [← hWd]; exact below_drew1 (Below.refl _ _))
  clear hWd
  replace Bg0 := Bg0.below hl; replace Bg1 := Bg1.below hl; replace HS := HS.below hl; clear hl; replace kg0_0 := Bg0.at 0 rfl; replace kg0_4 := Bg0.at 4 rfl
  refine pu 1 74 (.int .u64 now) 2 rfl rfl (by kernel_rfl) (fun _ _ _ h => h) (by rfl) (fun _ => by kernel_rfl) rfl ?_
  refine pu 2 75 (.pointer (some ⟨g0, 4, none⟩)) 6 rfl rfl (by kernel_rfl) (fun _ _ _ h => h) (by rfl) (fun _ => by kernel_rfl) rfl ?_
  refine pu 5 78 (.int .u64 took) 38 rfl rfl (by kernel_rfl) (fun _ _ _ h => h) (by rfl) (fun _ => by kernel_rfl) rfl ?_
  refine pu 8 81 (.pointer (some ⟨g0, 0, none⟩)) 294 rfl rfl (by kernel_rfl) (fun _ _ _ h => h) (by rfl) (fun _ => by kernel_rfl) rfl ?_
  refine norm_ (a' := ?_) ?_ ?_
  rotate_left
  · simp only [Act.put, List.setIfInBounds_toArray, List.set_cons_zero, List.set_cons_succ, i64_w, i32_w]
    rfl
  refine take_ (i := 0) (N := some 73) (v := .agg #[.int .u64 r0, .int .u64 r1, .int .u64 r2, .bool true, .int .u64 now, .int .u64 (max r5 r0), .int .u64 0, .int .u64 (uAdd r0 (uMulDiv by_ 635 r0))]) (a' := ?_) (bs 12 295) rfl rfl (by kernel_rfl) (fun _ _ _ h => h) (Or.inl ⟨by rfl, ?_⟩) hHeld ?_ ?_
  · rintro w' ⟨s0, s1, s2⟩
    exact exec_seg_load 29 (.tmp 6) (by rfl) g0 0 [.int .u64 r0, .int .u64 r1, .int .u64 r2, .bool true, .int .u64 now, .int .u64 (max r5 r0), .int .u64 0, .int .u64 (uAdd r0 (uMulDiv by_ 635 r0))] (by rfl) s0 (by rfl) Try.underlying29 (by rfl) (by kernel_rfl)
  rotate_left
  · simp only [Act.put, List.setIfInBounds_toArray, List.set_cons_zero, List.set_cons_succ, i64_w, i32_w]
    rfl
  refine take_ (i := 3) (N := some 76) (v := ?_) (a' := ?_) (bs 12 303) rfl rfl (by kernel_rfl) (fun _ _ _ h => h) (Or.inl ⟨by rfl, ?_⟩) hHeld ?_ ?_
  rotate_left
  · rintro w' ⟨s0, s1, s2⟩
    go_simp
    with_reducible rfl
  rotate_left
  · simp only [Act.put, List.setIfInBounds_toArray, List.set_cons_zero, List.set_cons_succ, i64_w, i32_w]
    rfl
  refine take_ (i := 9) (N := some 82) (v := ?_) (a' := ?_) (bs 12 815) rfl rfl (by kernel_rfl) (fun _ _ _ h => h) (Or.inl ⟨by rfl, ?_⟩) hHeld ?_ ?_
  rotate_left
  · rintro w' ⟨s0, s1, s2⟩
    go_simp
    with_reducible rfl
  rotate_left
  · simp only [Act.put, List.setIfInBounds_toArray, List.set_cons_zero, List.set_cons_succ, i64_w, i32_w]
    rfl
  refine one_ (i := 4) (N := some 77) (bs 12 831) rfl rfl (by kernel_rfl) (by decide) (fun K hK => ?_)
  refine goes_ Try.func29 (by kernel_rfl) rfl #[.int .u64 now, .int .u64 now] (by rfl) rfl rfl (by simp only [List.map_toArray, List.map_cons, List.map_nil]; rfl) ?_
  with_reducible refine (fix_Sub.C now now Wnow Wnow _).mono ?_
  rintro e w13 ⟨rfl, hd⟩
  refine ⟨_, rfl, ?_⟩
  have hl := hd.below
  clear hd
  replace Bg0 := Bg0.below hl; replace Bg1 := Bg1.below hl; replace HS := HS.below hl; clear hl; replace kg0_0 := Bg0.at 0 rfl; replace kg0_4 := Bg0.at 4 rfl
  refine hK.out _ _ ⟨Bg0, ((Bg0.cell 4).trans rfl), ((Bg0.cell 0).trans rfl)⟩ (fun hHeld => ?_)
  clear hK K
  refine norm_ (a' := ?_) ?_ ?_
  rotate_left
  · show Act.put _ (some 77) _ = _
    simp only [Act.put, List.setIfInBounds_toArray, List.set_cons_zero, List.set_cons_succ, i64_w, i32_w]
    rfl
  refine one_ (i := 6) (N := some 79) (bs 12 895) rfl rfl (by kernel_rfl) (by decide) (fun K hK => ?_)
  refine goes_ Try.func25 (by kernel_rfl) rfl #[.int .u64 (uSub now now), .int .u64 took] (by rfl) rfl rfl (by simp only [List.map_toArray, List.map_cons, List.map_nil]; rfl) ?_
  with_reducible refine (fix_Add.C (uSub now now) took (uSub_w Wnow Wnow) Wtook _).mono ?_
  rintro e w14 ⟨rfl, hd⟩
  refine ⟨_, rfl, ?_⟩
  have hl := hd.below
  clear hd
  replace Bg0 := Bg0.below hl; replace Bg1 := Bg1.below hl; replace HS := HS.below hl; clear hl; replace kg0_0 := Bg0.at 0 rfl; replace kg0_4 := Bg0.at 4 rfl
  refine hK.out _ _ ⟨Bg0, ((Bg0.cell 4).trans rfl), ((Bg0.cell 0).trans rfl)⟩ (fun hHeld => ?_)
  clear hK K
  refine norm_ (a' := ?_) ?_ ?_
  rotate_left
  · show Act.put _ (some 79) _ = _
    simp only [Act.put, List.setIfInBounds_toArray, List.set_cons_zero, List.set_cons_succ, i64_w, i32_w]
    rfl
  refine one_ (i := 7) (N := some 80) (bs 12 1023) rfl rfl (by kernel_rfl) (by decide) (fun K hK => ?_)
  refine goes_ Try.func28 (by kernel_rfl) rfl #[.agg #[.int .u64 r0, .int .u64 r1, .int .u64 r2, .bool true, .int .u64 now, .int .u64 (max r5 r0), .int .u64 0, .int .u64 (uAdd r0 (uMulDiv by_ 635 r0))], .int .u64 (uAdd (uSub now now) took)] (by rfl) rfl rfl (by simp only [List.map_toArray, List.map_cons, List.map_nil]; rfl) ?_
  with_reducible refine (targetC r0 r1 r2 true now (max r5 r0) 0 (uAdd r0 (uMulDiv by_ 635 r0)) (uAdd (uSub now now) took) Wr0 (max_w Wr5 Wr0) (by decide) (uAdd_w (uSub_w Wnow Wnow) Wtook) _).mono ?_
  rintro e w15 ⟨rfl, hl⟩
  refine ⟨_, rfl, ?_⟩
  replace Bg0 := Bg0.below hl; replace Bg1 := Bg1.below hl; replace HS := HS.below hl; clear hl; replace kg0_0 := Bg0.at 0 rfl; replace kg0_4 := Bg0.at 4 rfl
  refine hK.out _ _ ⟨Bg0, ((Bg0.cell 4).trans rfl), ((Bg0.cell 0).trans rfl)⟩ (fun hHeld => ?_)
  clear hK K
  refine norm_ (a' := ?_) ?_ ?_
  rotate_left
  · show Act.put _ (some 80) _ = _
    simp only [Act.put, List.setIfInBounds_toArray, List.set_cons_zero, List.set_cons_succ, i64_w, i32_w]
    rfl
  refine pure_ (i := 10) (N := some 83) (v := ?_) (a' := ?_) (bs 12 2047) rfl rfl (by kernel_rfl) (fun _ _ _ h => h) (Or.inl ⟨by rfl, ?_⟩) ?_ ?_
  rotate_left
  · intro w'
    go_simp
    with_reducible rfl
  rotate_left
  · simp only [Act.put, List.setIfInBounds_toArray, List.set_cons_zero, List.set_cons_succ, i64_w, i32_w]
    rfl
  refine pure_ (i := 11) (N := some 13) (v := ?_) (a' := ?_) (bs 12 4095) rfl rfl (by kernel_rfl) (fun _ _ _ h => h) (Or.inl ⟨by rfl, ?_⟩) ?_ ?_
  rotate_left
  · intro w'
    go_simp
    with_reducible rfl
  rotate_left
  · simp only [Act.put, List.setIfInBounds_toArray, List.set_cons_zero, List.set_cons_succ, i64_w, i32_w]
    rfl
  refine done_ (by kernel_rfl) ?_
  refine letter ?_
  intro w16 hW
  have Bn_ : Blk w16 g0 29 [.int .u64 r0, .int .u64 r1, .int .u64 r2, .bool true, .int .u64 now, .int .u64 (max r5 r0), .int .u64 0, .int .u64 (uAdd r0 (uMulDiv by_ 635 r0))] := (by rw [hW]; (repeat (first | (with_reducible refine Blk.drewN ?_ _) | (with_reducible refine Blk.drew ?_))); exact Bg0)
  replace Bg0 := Bn_
  clear Bn_
  have Bn_ : Blk w16 g1 29 [.int .u64 0, .int .u64 0, .int .u64 0, .bool false, .int .u64 0, .int .u64 0, .int .u64 0, .int .u64 0] := (by rw [hW]; (repeat (first | (with_reducible refine Blk.drewN ?_ _) | (with_reducible refine Blk.drew ?_))); exact Bg1)
  replace Bg1 := Bn_
  clear Bn_
  have HS_ : Since w w16 := (by rw [hW]; repeat (first | (with_reducible exact HS) | (with_reducible refine Since.drewN ?_ _) | (with_reducible refine Since.drew ?_)))
  replace HS := HS_
  clear HS_ hW
  clear kg0_4; replace kg0_0 := Bg0.at 0 rfl; have zg0_0 := Bg0.frozen 0; have kg0_7 := Bg0.at 7 rfl
  go_wp2
  refine start_ (n := 14) (S := fun w' => w'.cell? ⟨g0, 7, none⟩ = some (.int .u64 (uAdd r0 (uMulDiv by_ 635 r0))) ∧ w'.cell? ⟨g0, 0, none⟩ = some (.int .u64 r0)) (ds := [13]) (bs 14 0) (by kernel_rfl) rfl rfl ⟨((Bg0.drew.cell 7).trans rfl), ((Bg0.drew.cell 0).trans rfl)⟩ (fun hHeld => ?_)
  generalize hWd : World.drew w16 = w17 at hHeld ⊢
  have hl : Below w16.heap.size w16 w17 := (by rw [← hWd]; exact below_drew1 (Below.refl _ _))
  clear hWd
  replace Bg0 := Bg0.below hl; replace Bg1 := Bg1.below hl; replace HS := HS.below hl; clear hl; replace kg0_0 := Bg0.at 0 rfl; replace zg0_0 := Bg0.frozen 0; replace kg0_7 := Bg0.at 7 rfl
  refine pu 0 84 (.pointer (some ⟨g0, 7, none⟩)) 1 rfl rfl (by kernel_rfl) (fun _ _ _ h => h) (by rfl) (fun _ => by kernel_rfl) rfl ?_
  refine pu 2 86 (.pointer (some ⟨g0, 0, none⟩)) 5 rfl rfl (by kernel_rfl) (fun _ _ _ h => h) (by rfl) (fun _ => by kernel_rfl) rfl ?_
  refine pu 4 88 (.int .u64 (IntKind.u64.wrap ((uTarget r0 (max r5 r0) 0 (uAdd (uSub now now) took)) - r0))) 21 rfl rfl (by kernel_rfl) (fun _ _ _ h => h) (by rfl) (fun _ => by kernel_rfl) rfl ?_
  refine pu 5 89 (.int .u64 by_) 53 rfl rfl (by kernel_rfl) (fun _ _ _ h => h) (by rfl) (fun _ => by kernel_rfl) rfl ?_
  refine pu 6 90 (.pointer (some ⟨g0, 0, none⟩)) 117 rfl rfl (by kernel_rfl) (fun _ _ _ h => h) (by rfl) (fun _ => by kernel_rfl) rfl ?_
  refine norm_ (a' := ?_) ?_ ?_
  rotate_left
  · simp only [Act.put, List.setIfInBounds_toArray, List.set_cons_zero, List.set_cons_succ, i64_w, i32_w]
    rfl
  refine take_ (i := 1) (N := some 85) (v := ?_) (a' := ?_) (bs 14 119) rfl rfl (by kernel_rfl) (fun _ _ _ h => h) (Or.inl ⟨by rfl, ?_⟩) hHeld ?_ ?_
  rotate_left
  · rintro w' ⟨s0, s1⟩
    go_simp
    with_reducible rfl
  rotate_left
  · simp only [Act.put, List.setIfInBounds_toArray, List.set_cons_zero, List.set_cons_succ, i64_w, i32_w]
    rfl
  refine take_ (i := 3) (N := some 87) (v := ?_) (a' := ?_) (bs 14 127) rfl rfl (by kernel_rfl) (fun _ _ _ h => h) (Or.inl ⟨by rfl, ?_⟩) hHeld ?_ ?_
  rotate_left
  · rintro w' ⟨s0, s1⟩
    go_simp
    with_reducible rfl
  rotate_left
  · simp only [Act.put, List.setIfInBounds_toArray, List.set_cons_zero, List.set_cons_succ, i64_w, i32_w]
    rfl
  refine take_ (i := 7) (N := some 91) (v := ?_) (a' := ?_) (bs 14 255) rfl rfl (by kernel_rfl) (fun _ _ _ h => h) (Or.inl ⟨by rfl, ?_⟩) hHeld ?_ ?_
  rotate_left
  · rintro w' ⟨s0, s1⟩
    go_simp
    with_reducible rfl
  rotate_left
  · simp only [Act.put, List.setIfInBounds_toArray, List.set_cons_zero, List.set_cons_succ, i64_w, i32_w]
    rfl
  refine one_ (i := 8) (N := some 92) (bs 14 511) rfl rfl (by kernel_rfl) (by decide) (fun K hK => ?_)
  refine goes_ Try.func20 (by kernel_rfl) rfl #[.int .u64 (IntKind.u64.wrap ((uTarget r0 (max r5 r0) 0 (uAdd (uSub now now) took)) - r0)), .int .u64 by_, .int .u64 r0] (by rfl) rfl rfl (by simp only [List.map_toArray, List.map_cons, List.map_nil]; rfl) ?_
  with_reducible refine (fix_MulDivT.C (IntKind.u64.wrap ((uTarget r0 (max r5 r0) 0 (uAdd (uSub now now) took)) - r0)) by_ r0 (w64_wrap _) Wby_ Wr0 _).mono ?_
  rintro e w18 ⟨rfl, hd⟩
  refine ⟨_, rfl, ?_⟩
  have hl := hd.below
  clear hd
  replace Bg0 := Bg0.below hl; replace Bg1 := Bg1.below hl; replace HS := HS.below hl; clear hl; replace kg0_0 := Bg0.at 0 rfl; replace zg0_0 := Bg0.frozen 0; replace kg0_7 := Bg0.at 7 rfl
  refine hK.out _ _ ⟨((Bg0.cell 7).trans rfl), ((Bg0.cell 0).trans rfl)⟩ (fun hHeld => ?_)
  clear hK K
  refine norm_ (a' := ?_) ?_ ?_
  rotate_left
  · show Act.put _ (some 92) _ = _
    simp only [Act.put, List.setIfInBounds_toArray, List.set_cons_zero, List.set_cons_succ, i64_w, i32_w]
    rfl
  refine one_ (i := 9) (N := some 93) (bs 14 1023) rfl rfl (by kernel_rfl) (by decide) (fun K hK => ?_)
  refine goes_ Try.func25 (by kernel_rfl) rfl #[.int .u64 r0, .int .u64 (uMulDiv (IntKind.u64.wrap ((uTarget r0 (max r5 r0) 0 (uAdd (uSub now now) took)) - r0)) by_ r0)] (by rfl) rfl rfl (by simp only [List.map_toArray, List.map_cons, List.map_nil]; rfl) ?_
  with_reducible refine (fix_Add.C r0 (uMulDiv (IntKind.u64.wrap ((uTarget r0 (max r5 r0) 0 (uAdd (uSub now now) took)) - r0)) by_ r0) Wr0 (uMulDiv_w (w64_wrap _) Wby_ Wr0) _).mono ?_
  rintro e w19 ⟨rfl, hd⟩
  refine ⟨_, rfl, ?_⟩
  have hl := hd.below
  clear hd
  replace Bg0 := Bg0.below hl; replace Bg1 := Bg1.below hl; replace HS := HS.below hl; clear hl; replace kg0_0 := Bg0.at 0 rfl; replace zg0_0 := Bg0.frozen 0; replace kg0_7 := Bg0.at 7 rfl
  refine hK.out _ _ ⟨((Bg0.cell 7).trans rfl), ((Bg0.cell 0).trans rfl)⟩ (fun hHeld => ?_)
  clear hK K
  refine norm_ (a' := ?_) ?_ ?_
  rotate_left
  · show Act.put _ (some 93) _ = _
    simp only [Act.put, List.setIfInBounds_toArray, List.set_cons_zero, List.set_cons_succ, i64_w, i32_w]
    rfl
  refine pure_ (i := 10) (N := some 94) (v := ?_) (a' := ?_) (bs 14 2047) rfl rfl (by kernel_rfl) (fun _ _ _ h => h) (Or.inl ⟨by rfl, ?_⟩) ?_ ?_
  rotate_left
  · intro w'
    go_simp
    with_reducible rfl
  rotate_left
  · simp only [Act.put, List.setIfInBounds_toArray, List.set_cons_zero, List.set_cons_succ, i64_w, i32_w]
    rfl
  refine one_ (i := 11) (N := some 95) (bs 14 4095) rfl rfl (by kernel_rfl) (by decide) (fun K hK => ?_)
  refine goes_ Try.func24 (by kernel_rfl) rfl #[.int .u64 (max (uAdd r0 (uMulDiv by_ 635 r0)) (uAdd r0 (uMulDiv (IntKind.u64.wrap ((uTarget r0 (max r5 r0) 0 (uAdd (uSub now now) took)) - r0)) by_ r0)))] (by rfl) rfl rfl (by simp only [List.map_toArray, List.map_cons, List.map_nil]; rfl) ?_
  with_reducible refine (reno_Held.C (max (uAdd r0 (uMulDiv by_ 635 r0)) (uAdd r0 (uMulDiv (IntKind.u64.wrap ((uTarget r0 (max r5 r0) 0 (uAdd (uSub now now) took)) - r0)) by_ r0))) _).mono ?_
  rintro e w20 ⟨rfl, hd⟩
  refine ⟨_, rfl, ?_⟩
  have hl := hd.below
  clear hd
  replace Bg0 := Bg0.below hl; replace Bg1 := Bg1.below hl; replace HS := HS.below hl; clear hl; replace kg0_0 := Bg0.at 0 rfl; replace zg0_0 := Bg0.frozen 0; replace kg0_7 := Bg0.at 7 rfl
  refine hK.out _ _ ⟨((Bg0.cell 7).trans rfl), ((Bg0.cell 0).trans rfl)⟩ (fun hHeld => ?_)
  clear hK K
  refine norm_ (a' := ?_) ?_ ?_
  rotate_left
  · show Act.put _ (some 95) _ = _
    simp only [Act.put, List.setIfInBounds_toArray, List.set_cons_zero, List.set_cons_succ, i64_w, i32_w]
    rfl
  refine pu 12 96 (.pointer (some ⟨g0, 0, none⟩)) 8191 rfl rfl (by kernel_rfl) (fun _ _ _ h => h) (by rfl) (fun _ => by kernel_rfl) rfl ?_
  refine norm_ (a' := ?_) ?_ ?_
  rotate_left
  · simp only [Act.put, List.setIfInBounds_toArray, List.set_cons_zero, List.set_cons_succ, i64_w, i32_w]
    rfl
  refine last_ (i := 13) (N := none) (bs 14 16383) rfl rfl (by kernel_rfl) (by decide) (fun K hK => ?_)
  refine skip_ (w1 := ?_) (by rfl) rfl ?_ ?_
  rotate_left
  · go_simp
    rfl
  refine hK.out _ _ ?_
  clear hK K
  refine done_ (by kernel_rfl) ?_
  refine letter ?_
  intro w21 hW
  have Bn_ : Blk w21 g0 29 [.int .u64 (uHeld (max (uAdd r0 (uMulDiv by_ 635 r0)) (uAdd r0 (uMulDiv (IntKind.u64.wrap ((uTarget r0 (max r5 r0) 0 (uAdd (uSub now now) took)) - r0)) by_ r0)))), .int .u64 r1, .int .u64 r2, .bool true, .int .u64 now, .int .u64 (max r5 r0), .int .u64 0, .int .u64 (uAdd r0 (uMulDiv by_ 635 r0))] := (by rw [hW]; (repeat (first | (with_reducible refine Blk.drewN ?_ _) | (with_reducible refine Blk.drew ?_))); refine Blk.set (l := [.int .u64 r0, .int .u64 r1, .int .u64 r2, .bool true, .int .u64 now, .int .u64 (max r5 r0), .int .u64 0, .int .u64 (uAdd r0 (uMulDiv by_ 635 r0))]) ?_ 0 _ rfl; (repeat (first | (with_reducible refine Blk.drewN ?_ _) | (with_reducible refine Blk.drew ?_))); exact Bg0)
  replace Bg0 := Bn_
  clear Bn_
  have Bn_ : Blk w21 g1 29 [.int .u64 0, .int .u64 0, .int .u64 0, .bool false, .int .u64 0, .int .u64 0, .int .u64 0, .int .u64 0] := (by rw [hW]; (repeat (first | (with_reducible refine Blk.drewN ?_ _) | (with_reducible refine Blk.drew ?_))); refine Blk.setFar ?_ Ng1_g0; (repeat (first | (with_reducible refine Blk.drewN ?_ _) | (with_reducible refine Blk.drew ?_))); exact Bg1)
  replace Bg1 := Bn_
  clear Bn_
  have HS_ : Since w w21 := (by rw [hW]; repeat (first | (with_reducible exact HS) | (with_reducible refine Since.drewN ?_ _) | (with_reducible refine Since.drew ?_) | (with_reducible refine Since.set ?_ GEg0)))
  replace HS := HS_
  clear HS_ hW
  clear kg0_0 zg0_0 kg0_7
  go_wp2_with (first | ((with_reducible refine gate_dst (N := 97) rfl ?_); refine seg_load rfl (N := 97) rfl 29 (.tmp 6) rfl g0 0 [.int .u64 (uHeld (max (uAdd r0 (uMulDiv by_ 635 r0)) (uAdd r0 (uMulDiv (IntKind.u64.wrap ((uTarget r0 (max r5 r0) 0 (uAdd (uSub now now) took)) - r0)) by_ r0)))), .int .u64 r1, .int .u64 r2, .bool true, .int .u64 now, .int .u64 (max r5 r0), .int .u64 0, .int .u64 (uAdd r0 (uMulDiv by_ 635 r0))] ?hx Bg0 rfl Try.underlying29 rfl (by kernel_rfl) ?_; (case hx => first | rfl | (go_simp; done) | (go_simp; rfl))) | ((with_reducible refine gate_ (.store 29 (.tmp 12) (.tmp 97)) rfl ?_); refine seg_store rfl rfl 29 (.tmp 12) (.tmp 97) rfl g1 0 [.int .u64 (uHeld (max (uAdd r0 (uMulDiv by_ 635 r0)) (uAdd r0 (uMulDiv (IntKind.u64.wrap ((uTarget r0 (max r5 r0) 0 (uAdd (uSub now now) took)) - r0)) by_ r0)))), .int .u64 r1, .int .u64 r2, .bool true, .int .u64 now, .int .u64 (max r5 r0), .int .u64 0, .int .u64 (uAdd r0 (uMulDiv by_ 635 r0))] [.int .u64 (uHeld (max (uAdd r0 (uMulDiv by_ 635 r0)) (uAdd r0 (uMulDiv (IntKind.u64.wrap ((uTarget r0 (max r5 r0) 0 (uAdd (uSub now now) took)) - r0)) by_ r0)))), .int .u64 r1, .int .u64 r2, .bool true, .int .u64 now, .int .u64 (max r5 r0), .int .u64 0, .int .u64 (uAdd r0 (uMulDiv by_ 635 r0))] (.agg #[.int .u64 (uHeld (max (uAdd r0 (uMulDiv by_ 635 r0)) (uAdd r0 (uMulDiv (IntKind.u64.wrap ((uTarget r0 (max r5 r0) 0 (uAdd (uSub now now) took)) - r0)) by_ r0)))), .int .u64 r1, .int .u64 r2, .bool true, .int .u64 now, .int .u64 (max r5 r0), .int .u64 0, .int .u64 (uAdd r0 (uMulDiv by_ 635 r0))]) ?hx ?hy rfl Bg1 (by kernel_rfl) (Nat.le_of_ble_eq_true rfl) rfl rfl ?_; (case hx => first | rfl | (go_simp; done) | (go_simp; rfl)); (case hy => first | rfl | (go_simp; done) | (go_simp; rfl)); intro w22 hn hw; replace Bg0 := Bg0.grown hw Ng1_g0.symm; replace HS := HS.grown hw GEg1; replace Bg1 := hn; clear hw; clear hn))
  all_goals exact bodyPost_ret (results_cell1 rfl _ _ g1 29 [.int .u64 (uHeld (max (uAdd r0 (uMulDiv by_ 635 r0)) (uAdd r0 (uMulDiv (IntKind.u64.wrap ((uTarget r0 (max r5 r0) 0 (uAdd (uSub now now) took)) - r0)) by_ r0)))), .int .u64 r1, .int .u64 r2, .bool true, .int .u64 now, .int .u64 (max r5 r0), .int .u64 0, .int .u64 (uAdd r0 (uMulDiv by_ 635 r0))] _ rfl Bg1 Try.underlying29 rfl (by kernel_rfl)) rfl ⟨rfl, HS.out⟩
def uCA_0 (r0 r1 r2 r4 r5 r6 r7 by_ at_ now took : Int) (b3 lim : Bool) : Int := (if lim = true then r0 else (if b3 = true then (if at_ < r2 then r0 else (if r0 < r1 then (uHeld (uAdd r0 by_)) else (uHeld (max (uAdd r7 (uMulDiv by_ 635 r0)) (uAdd r0 (uMulDiv (IntKind.u64.wrap ((uTarget r0 r5 r6 (uAdd (uSub now r4) took)) - r0)) by_ r0)))))) else (if at_ < r2 then r0 else (if r0 < r1 then (uHeld (uAdd r0 by_)) else (if r0 < r5 then (uHeld (max (uAdd r0 (uMulDiv by_ 635 r0)) (uAdd r0 (uMulDiv (IntKind.u64.wrap ((uTarget r0 (max r5 r0) (uCbrt (uMulDiv (IntKind.u64.wrap (r5 - r0)) 1000000000 480)) (uAdd (uSub now now) took)) - r0)) by_ r0)))) else (uHeld (max (uAdd r0 (uMulDiv by_ 635 r0)) (uAdd r0 (uMulDiv (IntKind.u64.wrap ((uTarget r0 (max r5 r0) 0 (uAdd (uSub now now) took)) - r0)) by_ r0)))))))))
theorem uCA_0_w {r0 r1 r2 r4 r5 r6 r7 by_ at_ now took : Int} {b3 lim : Bool} (Wr0 : W64 r0) (Wr1 : W64 r1) (Wr2 : W64 r2) (Wr4 : W64 r4) (Wr5 : W64 r5) (Wr6 : W64 r6) (Wr7 : W64 r7) (Wby_ : W64 by_) (Wnow : W64 now) (Wtook : W64 took) : W64 (uCA_0 r0 r1 r2 r4 r5 r6 r7 by_ at_ now took b3 lim) := by
  unfold uCA_0
  repeat' split
  all_goals (first | exact Wr0 | exact (uHeld_w _))
def uCA_3 (r0 r1 r2 r4 r5 r6 r7 by_ at_ now took : Int) (b3 lim : Bool) : Bool := (if lim = true then b3 else (if b3 = true then (if at_ < r2 then b3 else (if r0 < r1 then b3 else true)) else (if at_ < r2 then b3 else (if r0 < r1 then b3 else (if r0 < r5 then true else true)))))
def uCA_4 (r0 r1 r2 r4 r5 r6 r7 by_ at_ now took : Int) (b3 lim : Bool) : Int := (if lim = true then r4 else (if b3 = true then (if at_ < r2 then r4 else (if r0 < r1 then r4 else r4)) else (if at_ < r2 then r4 else (if r0 < r1 then r4 else (if r0 < r5 then now else now)))))
theorem uCA_4_w {r0 r1 r2 r4 r5 r6 r7 by_ at_ now took : Int} {b3 lim : Bool} (Wr0 : W64 r0) (Wr1 : W64 r1) (Wr2 : W64 r2) (Wr4 : W64 r4) (Wr5 : W64 r5) (Wr6 : W64 r6) (Wr7 : W64 r7) (Wby_ : W64 by_) (Wnow : W64 now) (Wtook : W64 took) : W64 (uCA_4 r0 r1 r2 r4 r5 r6 r7 by_ at_ now took b3 lim) := by
  unfold uCA_4
  repeat' split
  all_goals (first | exact Wr4 | exact Wnow)
def uCA_5 (r0 r1 r2 r4 r5 r6 r7 by_ at_ now took : Int) (b3 lim : Bool) : Int := (if lim = true then r5 else (if b3 = true then (if at_ < r2 then r5 else (if r0 < r1 then r5 else r5)) else (if at_ < r2 then r5 else (if r0 < r1 then r5 else (if r0 < r5 then (max r5 r0) else (max r5 r0))))))
theorem uCA_5_w {r0 r1 r2 r4 r5 r6 r7 by_ at_ now took : Int} {b3 lim : Bool} (Wr0 : W64 r0) (Wr1 : W64 r1) (Wr2 : W64 r2) (Wr4 : W64 r4) (Wr5 : W64 r5) (Wr6 : W64 r6) (Wr7 : W64 r7) (Wby_ : W64 by_) (Wnow : W64 now) (Wtook : W64 took) : W64 (uCA_5 r0 r1 r2 r4 r5 r6 r7 by_ at_ now took b3 lim) := by
  unfold uCA_5
  repeat' split
  all_goals (first | exact Wr5 | exact (max_w Wr5 Wr0))
def uCA_6 (r0 r1 r2 r4 r5 r6 r7 by_ at_ now took : Int) (b3 lim : Bool) : Int := (if lim = true then r6 else (if b3 = true then (if at_ < r2 then r6 else (if r0 < r1 then r6 else r6)) else (if at_ < r2 then r6 else (if r0 < r1 then r6 else (if r0 < r5 then (uCbrt (uMulDiv (IntKind.u64.wrap (r5 - r0)) 1000000000 480)) else 0)))))
theorem uCA_6_w {r0 r1 r2 r4 r5 r6 r7 by_ at_ now took : Int} {b3 lim : Bool} (Wr0 : W64 r0) (Wr1 : W64 r1) (Wr2 : W64 r2) (Wr4 : W64 r4) (Wr5 : W64 r5) (Wr6 : W64 r6) (Wr7 : W64 r7) (Wby_ : W64 by_) (Wnow : W64 now) (Wtook : W64 took) : W64 (uCA_6 r0 r1 r2 r4 r5 r6 r7 by_ at_ now took b3 lim) := by
  unfold uCA_6
  repeat' split
  all_goals (first | exact Wr6 | exact (uCbrt_w (uMulDiv_w (w64_wrap _) (by decide) (by decide))) | exact (by decide))
def uCA_7 (r0 r1 r2 r4 r5 r6 r7 by_ at_ now took : Int) (b3 lim : Bool) : Int := (if lim = true then r7 else (if b3 = true then (if at_ < r2 then r7 else (if r0 < r1 then r7 else (uAdd r7 (uMulDiv by_ 635 r0)))) else (if at_ < r2 then r7 else (if r0 < r1 then r7 else (if r0 < r5 then (uAdd r0 (uMulDiv by_ 635 r0)) else (uAdd r0 (uMulDiv by_ 635 r0)))))))
theorem uCA_7_w {r0 r1 r2 r4 r5 r6 r7 by_ at_ now took : Int} {b3 lim : Bool} (Wr0 : W64 r0) (Wr1 : W64 r1) (Wr2 : W64 r2) (Wr4 : W64 r4) (Wr5 : W64 r5) (Wr6 : W64 r6) (Wr7 : W64 r7) (Wby_ : W64 by_) (Wnow : W64 now) (Wtook : W64 took) : W64 (uCA_7 r0 r1 r2 r4 r5 r6 r7 by_ at_ now took b3 lim) := by
  unfold uCA_7
  repeat' split
  all_goals (first | exact Wr7 | exact (uAdd_w Wr7 (uMulDiv_w Wby_ (by decide) Wr0)) | exact (uAdd_w Wr0 (uMulDiv_w Wby_ (by decide) Wr0)))
theorem uCA_all (r0 r1 r2 r4 r5 r6 r7 by_ at_ now took : Int) (b3 lim : Bool) (Wr0 : W64 r0) (Wr1 : W64 r1) (Wr2 : W64 r2) (Wr4 : W64 r4) (Wr5 : W64 r5) (Wr6 : W64 r6) (Wr7 : W64 r7) (Wby_ : W64 by_) (Wnow : W64 now) (Wtook : W64 took) (w : World) :
    Calls Try.prog 12 #[.agg #[.int .u64 r0, .int .u64 r1, .int .u64 r2, .bool b3, .int .u64 r4, .int .u64 r5, .int .u64 r6, .int .u64 r7], .int .u64 by_, .int .u64 at_, .int .u64 now, .int .u64 took, .bool lim] w fun e w' => e = .returned (.agg #[.int .u64 (uCA_0 r0 r1 r2 r4 r5 r6 r7 by_ at_ now took b3 lim), .int .u64 r1, .int .u64 r2, .bool (uCA_3 r0 r1 r2 r4 r5 r6 r7 by_ at_ now took b3 lim), .int .u64 (uCA_4 r0 r1 r2 r4 r5 r6 r7 by_ at_ now took b3 lim), .int .u64 (uCA_5 r0 r1 r2 r4 r5 r6 r7 by_ at_ now took b3 lim), .int .u64 (uCA_6 r0 r1 r2 r4 r5 r6 r7 by_ at_ now took b3 lim), .int .u64 (uCA_7 r0 r1 r2 r4 r5 r6 r7 by_ at_ now took b3 lim)]) ∧ Below w.heap.size w w' := by
  cases lim with
  | false =>
    cases b3 with
    | false =>
      by_cases e1 : at_ < r2
      · have f1 : (decide (at_ < r2)) = true := decide_eq_true e1
        refine (cubic_ack_1 r0 r1 r2 r4 r5 r6 r7 by_ at_ now took false w f1).mono ?_
        rintro e w' ⟨rfl, hb⟩
        refine ⟨?_, hb⟩
        simp only [uCA_0, uCA_3, uCA_4, uCA_5, uCA_6, uCA_7, e1, if_true, if_false, Bool.false_eq_true, reduceIte]
      · have f1 : (decide (at_ < r2)) = false := decide_eq_false e1
        by_cases e2 : r0 < r1
        · have f2 : (decide (r0 < r1)) = true := decide_eq_true e2
          refine (cubic_ack_2 r0 r1 r2 r4 r5 r6 r7 by_ at_ now took false Wr0 Wby_ w f1 f2).mono ?_
          rintro e w' ⟨rfl, hb⟩
          refine ⟨?_, hb⟩
          simp only [uCA_0, uCA_3, uCA_4, uCA_5, uCA_6, uCA_7, e1, e2, if_true, if_false, Bool.false_eq_true, reduceIte]
        · have f2 : (decide (r0 < r1)) = false := decide_eq_false e2
          by_cases e3 : r0 < r5
          · have f3 : (decide (r0 < r5)) = true := decide_eq_true e3
            refine (cubic_ack_4 r0 r1 r2 r4 r5 r6 r7 by_ at_ now took Wr0 Wr5 Wby_ Wnow Wtook w f1 f2 f3).mono ?_
            rintro e w' ⟨rfl, hb⟩
            refine ⟨?_, hb⟩
            simp only [uCA_0, uCA_3, uCA_4, uCA_5, uCA_6, uCA_7, e1, e2, e3, if_true, if_false, Bool.false_eq_true, reduceIte]
          · have f3 : (decide (r0 < r5)) = false := decide_eq_false e3
            refine (cubic_ack_5 r0 r1 r2 r4 r5 r6 r7 by_ at_ now took Wr0 Wr5 Wby_ Wnow Wtook w f1 f2 f3).mono ?_
            rintro e w' ⟨rfl, hb⟩
            refine ⟨?_, hb⟩
            simp only [uCA_0, uCA_3, uCA_4, uCA_5, uCA_6, uCA_7, e1, e2, e3, if_true, if_false, Bool.false_eq_true, reduceIte]
    | true =>
      by_cases e4 : at_ < r2
      · have f4 : (decide (at_ < r2)) = true := decide_eq_true e4
        refine (cubic_ack_1 r0 r1 r2 r4 r5 r6 r7 by_ at_ now took true w f4).mono ?_
        rintro e w' ⟨rfl, hb⟩
        refine ⟨?_, hb⟩
        simp only [uCA_0, uCA_3, uCA_4, uCA_5, uCA_6, uCA_7, e4, if_true, if_false, Bool.false_eq_true, reduceIte]
      · have f4 : (decide (at_ < r2)) = false := decide_eq_false e4
        by_cases e5 : r0 < r1
        · have f5 : (decide (r0 < r1)) = true := decide_eq_true e5
          refine (cubic_ack_2 r0 r1 r2 r4 r5 r6 r7 by_ at_ now took true Wr0 Wby_ w f4 f5).mono ?_
          rintro e w' ⟨rfl, hb⟩
          refine ⟨?_, hb⟩
          simp only [uCA_0, uCA_3, uCA_4, uCA_5, uCA_6, uCA_7, e4, e5, if_true, if_false, Bool.false_eq_true, reduceIte]
        · have f5 : (decide (r0 < r1)) = false := decide_eq_false e5
          refine (cubic_ack_3 r0 r1 r2 r4 r5 r6 r7 by_ at_ now took Wr0 Wr4 Wr5 Wr6 Wr7 Wby_ Wnow Wtook w f4 f5).mono ?_
          rintro e w' ⟨rfl, hb⟩
          refine ⟨?_, hb⟩
          simp only [uCA_0, uCA_3, uCA_4, uCA_5, uCA_6, uCA_7, e4, e5, if_true, if_false, Bool.false_eq_true, reduceIte]
  | true =>
    refine (cubic_ack_0 r0 r1 r2 r4 r5 r6 r7 by_ at_ now took b3 w ).mono ?_
    rintro e w' ⟨rfl, hb⟩
    refine ⟨?_, hb⟩
    simp only [uCA_0, uCA_3, uCA_4, uCA_5, uCA_6, uCA_7, if_true, if_false, Bool.false_eq_true, reduceIte]
end Go.Proofs.Ytpgffmnbdggpnaa.PCv
