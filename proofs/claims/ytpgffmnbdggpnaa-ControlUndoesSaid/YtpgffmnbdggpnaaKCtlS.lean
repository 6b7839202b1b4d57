/- A slow start behind a time that an answer took: it is a slow start. -/
import Derived.Deep.DeepMust
import Derived.Test.YtpgffmnbdggpnaaKCtlA
import Derived.Test.YtpgffmnbdggpnaaKW
import Derived.Test.YtpgffmnbdggpnaaKB
namespace Go.Proofs.Ytpgffmnbdggpnaa.PCv
open Go.RowKit Go.Proofs.YtpgffmnbdggpnaaW.PrintWords Go.Proofs.YtpgffmnbdggpnaaW.PrintLast Go.Proofs.YtpgffmnbdggpnaaW.PrintMore
set_option linter.unusedVariables false
set_option linter.unusedSimpArgs false
set_option maxRecDepth 100000 in
set_option maxHeartbeats 4000000 in
theorem over0_0 (s1 s2 s3 s4 s5 s6 : Int) (g : Nat)  (w : World) (Bg : Blk w g 27 [.int .i64 0, .int .u64 s1, .int .u64 s2, .int .u64 s3, .int .u64 s4, .int .u64 s5, .int .u64 s6]) :
    Calls Try.prog 63 #[.pointer (some ⟨g, 0, none⟩)] w fun e w' => e = .returned (.bool false) ∧ Below w.heap.size w w' := by
  have hu27 := Try.underlying27
  have HS := Since.refl w
  have kg_0 := Bg.at 0 rfl
  go_enter Try.func63, Try.ntmps63
  go_wp2
  all_goals (go_ret; exact ⟨by first | rfl | (simp; done), HS.out⟩)
set_option maxRecDepth 100000 in
set_option maxHeartbeats 4000000 in
theorem over1_0 (s1 s2 s3 s4 s5 s6 : Int) (g : Nat)  (w : World) (Bg : Blk w g 27 [.int .i64 1, .int .u64 s1, .int .u64 s2, .int .u64 s3, .int .u64 s4, .int .u64 s5, .int .u64 s6]) :
    Calls Try.prog 63 #[.pointer (some ⟨g, 0, none⟩)] w fun e w' => e = .returned (.bool false) ∧ Below w.heap.size w w' := by
  have hu27 := Try.underlying27
  have HS := Since.refl w
  have kg_0 := Bg.at 0 rfl
  go_enter Try.func63, Try.ntmps63
  go_wp2
  all_goals (go_ret; exact ⟨by first | rfl | (simp; done), HS.out⟩)
set_option maxRecDepth 100000 in
set_option maxHeartbeats 4000000 in
theorem over2_0 (s1 s2 s3 s4 s5 s6 : Int) (g : Nat)  (w : World) (Bg : Blk w g 27 [.int .i64 2, .int .u64 s1, .int .u64 s2, .int .u64 s3, .int .u64 s4, .int .u64 s5, .int .u64 s6]) :
    Calls Try.prog 63 #[.pointer (some ⟨g, 0, none⟩)] w fun e w' => e = .returned (.bool true) ∧ Below w.heap.size w w' := by
  have hu27 := Try.underlying27
  have HS := Since.refl w
  have kg_0 := Bg.at 0 rfl
  go_enter Try.func63, Try.ntmps63
  go_wp2
  all_goals (go_ret; exact ⟨by first | rfl | (simp; done), HS.out⟩)
set_option maxRecDepth 100000 in
set_option maxHeartbeats 4000000 in
theorem sample2_0 (s1 s2 s3 s4 s5 s6 num next took : Int)  (w : World) :
    Calls Try.prog 49 #[.agg #[.int .i64 2, .int .u64 s1, .int .u64 s2, .int .u64 s3, .int .u64 s4, .int .u64 s5, .int .u64 s6], .int .u64 num, .int .u64 next, .int .u64 took] w fun e w' => e = .returned (.agg #[.int .i64 2, .int .u64 s1, .int .u64 s2, .int .u64 s3, .int .u64 s4, .int .u64 s5, .int .u64 s6]) ∧ Below w.heap.size w w' := by
  have hu27 := Try.underlying27
  have HS := Since.refl w
  go_enter Try.func49, Try.ntmps49
  go_wp2_with (first | ((with_reducible refine gate_dst (N := 4) rfl ?_); refine seg_new rfl (N := 4) rfl [.int .i64 2, .int .u64 s1, .int .u64 s2, .int .u64 s3, .int .u64 s4, .int .u64 s5, .int .u64 s6] 27 ?hr ?_; (case hr => first | (go_simp; done) | (go_simp; rfl) | kernel_rfl); intro g0 hg w1 hn hl; have GEg0 := ge_new HS hg; clear hg; replace HS := HS.below hl; have Bg0 := hn; clear hl hn) | ((with_reducible refine gate_dst (N := 8) rfl ?_); refine seg_new rfl (N := 8) rfl [.int .i64 0, .int .u64 0, .int .u64 0, .int .u64 0, .int .u64 0, .int .u64 0, .int .u64 0] 27 ?hr ?_; (case hr => first | (go_simp; done) | (go_simp; rfl) | kernel_rfl); intro g1 hg w2 hn hl; have Ng1_g0 := ne_new Bg0 hg; have GEg1 := ge_new HS hg; clear hg; replace Bg0 := Bg0.below hl; replace HS := HS.below hl; have Bg1 := hn; clear hl hn) | ((go_at_call 63); (with_reducible refine (over2_0 s1 s2 s3 s4 s5 s6 g0 _ Bg0).mono ?_); rintro e w3 ⟨rfl, hl⟩; replace Bg0 := Bg0.below hl; replace Bg1 := Bg1.below hl; replace HS := HS.below hl; clear hl) | ((go_at_call 63); (with_reducible refine (over2_0 s1 s2 s3 s4 s5 s6 g0 _ Bg0).mono ?_); rintro e w4 ⟨rfl, hl⟩; replace Bg0 := Bg0.below hl; replace Bg1 := Bg1.below hl; replace HS := HS.below hl; clear hl) | ((with_reducible refine gate_dst (N := 41) rfl ?_); refine seg_load rfl (N := 41) rfl 27 (.tmp 4) rfl g0 0 [.int .i64 2, .int .u64 s1, .int .u64 s2, .int .u64 s3, .int .u64 s4, .int .u64 s5, .int .u64 s6] ?hx Bg0 rfl Try.underlying27 rfl (by kernel_rfl) ?_; (case hx => first | rfl | (go_simp; done) | (go_simp; rfl))) | ((with_reducible refine gate_ (.store 27 (.tmp 8) (.tmp 41)) rfl ?_); refine seg_store rfl rfl 27 (.tmp 8) (.tmp 41) rfl g1 0 [.int .i64 2, .int .u64 s1, .int .u64 s2, .int .u64 s3, .int .u64 s4, .int .u64 s5, .int .u64 s6] [.int .i64 2, .int .u64 s1, .int .u64 s2, .int .u64 s3, .int .u64 s4, .int .u64 s5, .int .u64 s6] (.agg #[.int .i64 2, .int .u64 s1, .int .u64 s2, .int .u64 s3, .int .u64 s4, .int .u64 s5, .int .u64 s6]) ?hx ?hy rfl Bg1 (by kernel_rfl) (Nat.le_of_ble_eq_true rfl) rfl rfl ?_; (case hx => first | rfl | (go_simp; done) | (go_simp; rfl)); (case hy => first | rfl | (go_simp; done) | (go_simp; rfl)); intro w5 hn hw; replace Bg0 := Bg0.grown hw Ng1_g0.symm; replace HS := HS.grown hw GEg1; replace Bg1 := hn; clear hw; clear hn))
  all_goals exact bodyPost_ret (results_cell1 rfl _ _ g1 27 [.int .i64 2, .int .u64 s1, .int .u64 s2, .int .u64 s3, .int .u64 s4, .int .u64 s5, .int .u64 s6] _ rfl Bg1 Try.underlying27 rfl (by kernel_rfl)) rfl ⟨rfl, HS.out⟩
set_option maxRecDepth 100000 in
set_option maxHeartbeats 4000000 in
theorem sampleC0 (s1 : Int) (s2 : Int) (s3 : Int) (s4 : Int) (s5 : Int) (s6 : Int) (num : Int) (next : Int) (took : Int) (Ws1 : W64 s1) (Ws2 : W64 s2) (Ws3 : W64 s3) (Ws4 : W64 s4) (Ws5 : W64 s5) (Ws6 : W64 s6) (Wnum : W64 num) (Wnext : W64 next) (Wtook : W64 took) (w : World) :
    Calls Try.prog 49 #[.agg #[.int .i64 0, .int .u64 s1, .int .u64 s2, .int .u64 s3, .int .u64 s4, .int .u64 s5, .int .u64 s6], .int .u64 num, .int .u64 next, .int .u64 took] w fun e w' => ∃ (q0 q1 q2 q3 q4 q5 q6 : Int), e = .returned (.agg #[.int .i64 q0, .int .u64 q1, .int .u64 q2, .int .u64 q3, .int .u64 q4, .int .u64 q5, .int .u64 q6]) ∧ (q0 = 0 ∨ q0 = 1 ∨ q0 = 2) ∧ W64 q1 ∧ W64 q2 ∧ W64 q3 ∧ W64 q4 ∧ W64 q5 ∧ W64 q6 ∧ Below w.heap.size w w' := by
  have hu27 := Try.underlying27
  have HS := Since.refl w
  go_enter Try.func49, Try.ntmps49
  go_upto_if 20 with (first | ((with_reducible refine gate_dst (N := 4) rfl ?_); refine seg_new rfl (N := 4) rfl [.int .i64 0, .int .u64 s1, .int .u64 s2, .int .u64 s3, .int .u64 s4, .int .u64 s5, .int .u64 s6] 27 ?hr ?_; (case hr => first | (go_simp; done) | (go_simp; rfl) | kernel_rfl); intro g0 hg w1 hn hl; have GEg0 := ge_new HS hg; clear hg; replace HS := HS.below hl; have Bg0 := hn; clear hl hn) | ((with_reducible refine gate_dst (N := 8) rfl ?_); refine seg_new rfl (N := 8) rfl [.int .i64 0, .int .u64 0, .int .u64 0, .int .u64 0, .int .u64 0, .int .u64 0, .int .u64 0] 27 ?hr ?_; (case hr => first | (go_simp; done) | (go_simp; rfl) | kernel_rfl); intro g1 hg w2 hn hl; have Ng1_g0 := ne_new Bg0 hg; have GEg1 := ge_new HS hg; clear hg; replace Bg0 := Bg0.below hl; replace HS := HS.below hl; have Bg1 := hn; clear hl hn) | ((go_at_call 63); (with_reducible refine (over0_0 s1 s2 s3 s4 s5 s6 g0 _ Bg0).mono ?_); rintro e w3 ⟨rfl, hl⟩; replace Bg0 := Bg0.below hl; replace Bg1 := Bg1.below hl; replace HS := HS.below hl; clear hl; have kg0_1 := Bg0.at 1 rfl))
  (try simp only [Act.put, List.setIfInBounds_toArray, List.set_cons_zero, List.set_cons_succ])
  go_cut [] (fun wc => ∃ (t1 t2 t3 t4 t5 t6 : Int), W64 t1 ∧ W64 t2 ∧ W64 t3 ∧ W64 t4 ∧ W64 t5 ∧ W64 t6 ∧ Blk wc g0 27 [.int .i64 0, .int .u64 t1, .int .u64 t2, .int .u64 t3, .int .u64 t4, .int .u64 t5, .int .u64 t6] ∧ Blk wc g1 27 [.int .i64 0, .int .u64 0, .int .u64 0, .int .u64 0, .int .u64 0, .int .u64 0, .int .u64 0] ∧ Since w wc)
  case first =>
    rcases Bool.eq_false_or_eq_true (decide (s1 ≤ num)) with h0 | h0
    · (try rw [h0])
      clear kg0_1; have kg0_3 := Bg0.at 3 rfl
      go_wp2_with (first | ((with_reducible refine gate_ (.store 23 (.tmp 24) (.tmp 22)) rfl ?_); refine seg_store rfl rfl 23 (.tmp 24) (.tmp 22) rfl g0 2 [.int .u64 s3] [.int .i64 0, .int .u64 s1, .int .u64 s3, .int .u64 s3, .int .u64 s4, .int .u64 s5, .int .u64 s6] (.int .u64 s3) ?hx ?hy rfl Bg0 (by kernel_rfl) (Nat.le_of_ble_eq_true rfl) rfl rfl ?_; (case hx => first | rfl | (go_simp; done) | (go_simp; rfl)); (case hy => first | rfl | (go_simp; done) | (go_simp; rfl)); intro w4 hn hw; replace Bg1 := Bg1.grown hw Ng1_g0; replace HS := HS.grown hw GEg0; replace Bg0 := hn; clear hw; clear kg0_3; clear hn) | ((with_reducible refine gate_ (.store 23 (.tmp 25) (.const (.int .u64 18446744073709551615))) rfl ?_); refine seg_store rfl rfl 23 (.tmp 25) (.const (.int .u64 18446744073709551615)) rfl g0 3 [.int .u64 18446744073709551615] [.int .i64 0, .int .u64 s1, .int .u64 s3, .int .u64 18446744073709551615, .int .u64 s4, .int .u64 s5, .int .u64 s6] (.int .u64 18446744073709551615) ?hx ?hy rfl Bg0 (by kernel_rfl) (Nat.le_of_ble_eq_true rfl) rfl rfl ?_; (case hx => first | rfl | (go_simp; done) | (go_simp; rfl)); (case hy => first | rfl | (go_simp; done) | (go_simp; rfl)); intro w5 hn hw; replace Bg1 := Bg1.grown hw Ng1_g0; replace HS := HS.grown hw GEg0; replace Bg0 := hn; clear hw; clear hn) | ((with_reducible refine gate_ (.store 23 (.tmp 26) (.const (.int .u64 0))) rfl ?_); refine seg_store rfl rfl 23 (.tmp 26) (.const (.int .u64 0)) rfl g0 4 [.int .u64 0] [.int .i64 0, .int .u64 s1, .int .u64 s3, .int .u64 18446744073709551615, .int .u64 0, .int .u64 s5, .int .u64 s6] (.int .u64 0) ?hx ?hy rfl Bg0 (by kernel_rfl) (Nat.le_of_ble_eq_true rfl) rfl rfl ?_; (case hx => first | rfl | (go_simp; done) | (go_simp; rfl)); (case hy => first | rfl | (go_simp; done) | (go_simp; rfl)); intro w6 hn hw; replace Bg1 := Bg1.grown hw Ng1_g0; replace HS := HS.grown hw GEg0; replace Bg0 := hn; clear hw; clear hn) | ((with_reducible refine gate_ (.store 23 (.tmp 27) (.tmp 23)) rfl ?_); refine seg_store rfl rfl 23 (.tmp 27) (.tmp 23) rfl g0 1 [.int .u64 next] [.int .i64 0, .int .u64 next, .int .u64 s3, .int .u64 18446744073709551615, .int .u64 0, .int .u64 s5, .int .u64 s6] (.int .u64 next) ?hx ?hy rfl Bg0 (by kernel_rfl) (Nat.le_of_ble_eq_true rfl) rfl rfl ?_; (case hx => first | rfl | (go_simp; done) | (go_simp; rfl)); (case hy => first | rfl | (go_simp; done) | (go_simp; rfl)); intro w7 hn hw; replace Bg1 := Bg1.grown hw Ng1_g0; replace HS := HS.grown hw GEg0; replace Bg0 := hn; clear hw; have kg0_0 := Bg0.at 0 rfl; clear hn))
      all_goals go_meet
      case rel => exact ⟨_, _, _, _, _, _, Wnext, Ws3, (by decide), (by decide), Ws5, Ws6, Bg0, Bg1, HS⟩
    · (try rw [h0])
      clear kg0_1
      go_wp2
      all_goals go_meet
      case rel => exact ⟨_, _, _, _, _, _, Ws1, Ws2, Ws3, Ws4, Ws5, Ws6, Bg0, Bg1, HS⟩
  case rest =>
    clear kg0_1 Bg0 Bg1 HS
    obtain ⟨t1, t2, t3, t4, t5, t6, Wt1, Wt2, Wt3, Wt4, Wt5, Wt6, Bg0, Bg1, HS⟩ := hcut
    rcases Bool.eq_false_or_eq_true (decide (uAdd t4 1 < 8)) with h0 | h0
    · go_wp2_with (first | ((go_at_call 63); (with_reducible refine (over0_0 t1 t2 t3 t4 t5 t6 g0 _ Bg0).mono ?_); rintro e w61 ⟨rfl, hl⟩; replace Bg0 := Bg0.below hl; replace Bg1 := Bg1.below hl; replace HS := HS.below hl; clear hl; have kg0_3 := Bg0.at 3 rfl; have zg0_3 := Bg0.frozen 3; have kg0_4 := Bg0.at 4 rfl; have zg0_4 := Bg0.frozen 4))
      refine start_ (n := 11) (S := fun w' => w'.cell? ⟨g0, 3, none⟩ = some (.int .u64 t3) ∧ w'.cell? ⟨g0, 4, none⟩ = some (.int .u64 t4)) (ds := [8, 10]) (bs 11 0) (by kernel_rfl) rfl rfl ⟨((Bg0.drew.cell 3).trans rfl), ((Bg0.drew.cell 4).trans rfl)⟩ (fun hHeld => ?_)
      generalize hWd : World.drew w61 = w62 at hHeld ⊢
      have hl : Below w61.heap.size w61 w62 := (by rw [← hWd]; exact below_drew1 (Below.refl _ _))
      clear hWd
      replace Bg0 := Bg0.below hl; replace Bg1 := Bg1.below hl; replace HS := HS.below hl; clear hl; replace kg0_3 := Bg0.at 3 rfl; replace zg0_3 := Bg0.frozen 3; replace kg0_4 := Bg0.at 4 rfl; replace zg0_4 := Bg0.frozen 4
      refine pu 0 42 (.pointer (some ⟨g0, 3, none⟩)) 1 rfl rfl (by kernel_rfl) (fun _ _ _ h => h) (by rfl) (fun _ => by kernel_rfl) rfl ?_
      refine pu 2 44 (.int .u64 took) 5 rfl rfl (by kernel_rfl) (fun _ _ _ h => h) (by rfl) (fun _ => by kernel_rfl) rfl ?_
      refine pu 4 46 (.pointer (some ⟨g0, 4, none⟩)) 21 rfl rfl (by kernel_rfl) (fun _ _ _ h => h) (by rfl) (fun _ => by kernel_rfl) rfl ?_
      refine norm_ (a' := ?_) ?_ ?_
      rotate_left
      · simp only [Act.put, List.setIfInBounds_toArray, List.set_cons_zero, List.set_cons_succ, i64_w, i32_w]
        rfl
      refine take_ (i := 1) (N := some 43) (v := ?_) (a' := ?_) (bs 11 23) rfl rfl (by kernel_rfl) (fun _ _ _ h => h) (Or.inl ⟨by rfl, ?_⟩) hHeld ?_ ?_
      rotate_left
      · rintro w' ⟨s0, s1⟩
        go_simp
        with_reducible rfl
      rotate_left
      · simp only [Act.put, List.setIfInBounds_toArray, List.set_cons_zero, List.set_cons_succ, i64_w, i32_w]
        rfl
      refine pure_ (i := 3) (N := some 45) (v := ?_) (a' := ?_) (bs 11 31) rfl rfl (by kernel_rfl) (fun _ _ _ h => h) (Or.inl ⟨by rfl, ?_⟩) ?_ ?_
      rotate_left
      · intro w'
        go_simp
        with_reducible rfl
      rotate_left
      · simp only [Act.put, List.setIfInBounds_toArray, List.set_cons_zero, List.set_cons_succ, i64_w, i32_w]
        rfl
      refine take_ (i := 5) (N := some 47) (v := ?_) (a' := ?_) (bs 11 63) rfl rfl (by kernel_rfl) (fun _ _ _ h => h) (Or.inl ⟨by rfl, ?_⟩) hHeld ?_ ?_
      rotate_left
      · rintro w' ⟨s0, s1⟩
        go_simp
        with_reducible rfl
      rotate_left
      · simp only [Act.put, List.setIfInBounds_toArray, List.set_cons_zero, List.set_cons_succ, i64_w, i32_w]
        rfl
      refine pu 7 49 (.pointer (some ⟨g0, 3, none⟩)) 191 rfl rfl (by kernel_rfl) (fun _ _ _ h => h) (by rfl) (fun _ => by kernel_rfl) rfl ?_
      refine norm_ (a' := ?_) ?_ ?_
      rotate_left
      · simp only [Act.put, List.setIfInBounds_toArray, List.set_cons_zero, List.set_cons_succ, i64_w, i32_w]
        rfl
      refine one_ (i := 6) (N := some 48) (bs 11 255) rfl rfl (by kernel_rfl) (by decide) (fun K hK => ?_)
      refine goes_ Try.func25 (by kernel_rfl) rfl #[.int .u64 t4, .int .u64 1] (by rfl) rfl rfl (by simp only [List.map_toArray, List.map_cons, List.map_nil]; rfl) ?_
      with_reducible refine (fix_Add.C t4 1 Wt4 (by decide) _).mono ?_
      rintro e w63 ⟨rfl, hd⟩
      refine ⟨_, rfl, ?_⟩
      have hl := hd.below
      clear hd
      replace Bg0 := Bg0.below hl; replace Bg1 := Bg1.below hl; replace HS := HS.below hl; clear hl; replace kg0_3 := Bg0.at 3 rfl; replace zg0_3 := Bg0.frozen 3; replace kg0_4 := Bg0.at 4 rfl; replace zg0_4 := Bg0.frozen 4
      refine hK.out _ _ ⟨((Bg0.cell 3).trans rfl), ((Bg0.cell 4).trans rfl)⟩ (fun hHeld => ?_)
      clear hK K
      refine norm_ (a' := ?_) ?_ ?_
      rotate_left
      · show Act.put _ (some 48) _ = _
        simp only [Act.put, List.setIfInBounds_toArray, List.set_cons_zero, List.set_cons_succ, i64_w, i32_w]
        rfl
      refine last_ (i := 8) (N := none) (bs 11 511) rfl rfl (by kernel_rfl) (by decide) (fun K hK => ?_)
      refine skip_ (w1 := ?_) (by rfl) rfl ?_ ?_
      rotate_left
      · go_simp
        rfl
      refine hK.out _ _ ?_
      clear hK K
      refine pu 9 50 (.pointer (some ⟨g0, 4, none⟩)) 1023 rfl rfl (by kernel_rfl) (fun _ _ _ h => h) (by rfl) (fun _ => by kernel_rfl) rfl ?_
      refine norm_ (a' := ?_) ?_ ?_
      rotate_left
      · simp only [Act.put, List.setIfInBounds_toArray, List.set_cons_zero, List.set_cons_succ, i64_w, i32_w]
        rfl
      refine last_ (i := 10) (N := none) (bs 11 2047) rfl rfl (by kernel_rfl) (by decide) (fun K hK => ?_)
      refine skip_ (w1 := ?_) (by rfl) rfl ?_ ?_
      rotate_left
      · go_simp
        rfl
      refine hK.out _ _ ?_
      clear hK K
      refine done_ (by kernel_rfl) ?_
      refine letter ?_
      intro w64 hW
      have Bn_ : Blk w64 g0 27 [.int .i64 0, .int .u64 t1, .int .u64 t2, .int .u64 (min t3 took), .int .u64 (uAdd t4 1), .int .u64 t5, .int .u64 t6] := (by rw [hW]; (repeat (first | (with_reducible refine Blk.drewN ?_ _) | (with_reducible refine Blk.drew ?_))); refine Blk.set (l := [.int .i64 0, .int .u64 t1, .int .u64 t2, .int .u64 (min t3 took), .int .u64 t4, .int .u64 t5, .int .u64 t6]) ?_ 4 _ rfl; (repeat (first | (with_reducible refine Blk.drewN ?_ _) | (with_reducible refine Blk.drew ?_))); refine Blk.set (l := [.int .i64 0, .int .u64 t1, .int .u64 t2, .int .u64 t3, .int .u64 t4, .int .u64 t5, .int .u64 t6]) ?_ 3 _ rfl; (repeat (first | (with_reducible refine Blk.drewN ?_ _) | (with_reducible refine Blk.drew ?_))); exact Bg0)
      replace Bg0 := Bn_
      clear Bn_
      have Bn_ : Blk w64 g1 27 [.int .i64 0, .int .u64 0, .int .u64 0, .int .u64 0, .int .u64 0, .int .u64 0, .int .u64 0] := (by rw [hW]; (repeat (first | (with_reducible refine Blk.drewN ?_ _) | (with_reducible refine Blk.drew ?_))); refine Blk.setFar ?_ Ng1_g0; (repeat (first | (with_reducible refine Blk.drewN ?_ _) | (with_reducible refine Blk.drew ?_))); refine Blk.setFar ?_ Ng1_g0; (repeat (first | (with_reducible refine Blk.drewN ?_ _) | (with_reducible refine Blk.drew ?_))); exact Bg1)
      replace Bg1 := Bn_
      clear Bn_
      have HS_ : Since w w64 := (by rw [hW]; repeat (first | (with_reducible exact HS) | (with_reducible refine Since.drewN ?_ _) | (with_reducible refine Since.drew ?_) | (with_reducible refine Since.set ?_ GEg0)))
      replace HS := HS_
      clear HS_ hW
      clear kg0_3 zg0_3 zg0_4; replace kg0_4 := Bg0.at 4 rfl
      go_wp2_with (first | ((with_reducible refine gate_dst (N := 64) rfl ?_); refine seg_load rfl (N := 64) rfl 27 (.tmp 4) rfl g0 0 [.int .i64 0, .int .u64 t1, .int .u64 t2, .int .u64 (min t3 took), .int .u64 (uAdd t4 1), .int .u64 t5, .int .u64 t6] ?hx Bg0 rfl Try.underlying27 rfl (by kernel_rfl) ?_; (case hx => first | rfl | (go_simp; done) | (go_simp; rfl))) | ((with_reducible refine gate_ (.store 27 (.tmp 8) (.tmp 64)) rfl ?_); refine seg_store rfl rfl 27 (.tmp 8) (.tmp 64) rfl g1 0 [.int .i64 0, .int .u64 t1, .int .u64 t2, .int .u64 (min t3 took), .int .u64 (uAdd t4 1), .int .u64 t5, .int .u64 t6] [.int .i64 0, .int .u64 t1, .int .u64 t2, .int .u64 (min t3 took), .int .u64 (uAdd t4 1), .int .u64 t5, .int .u64 t6] (.agg #[.int .i64 0, .int .u64 t1, .int .u64 t2, .int .u64 (min t3 took), .int .u64 (uAdd t4 1), .int .u64 t5, .int .u64 t6]) ?hx ?hy rfl Bg1 (by kernel_rfl) (Nat.le_of_ble_eq_true rfl) rfl rfl ?_; (case hx => first | rfl | (go_simp; done) | (go_simp; rfl)); (case hy => first | rfl | (go_simp; done) | (go_simp; rfl)); intro w65 hn hw; replace Bg0 := Bg0.grown hw Ng1_g0.symm; replace HS := HS.grown hw GEg1; replace Bg1 := hn; clear hw; clear kg0_4; clear hn))
      all_goals exact bodyPost_ret (results_cell1 rfl _ _ g1 27 [.int .i64 0, .int .u64 t1, .int .u64 t2, .int .u64 (min t3 took), .int .u64 (uAdd t4 1), .int .u64 t5, .int .u64 t6] _ rfl Bg1 Try.underlying27 rfl (by kernel_rfl)) rfl ⟨_, _, _, _, _, _, _, rfl, by decide, Wt1, Wt2, (min_w Wt3 Wtook), (uAdd_w Wt4 (by decide)), Wt5, Wt6, HS.out⟩
    · rcases Bool.eq_false_or_eq_true ((min t3 took) == 18446744073709551615) with h1 | h1
      · go_wp2_with (first | ((go_at_call 63); (with_reducible refine (over0_0 t1 t2 t3 t4 t5 t6 g0 _ Bg0).mono ?_); rintro e w61 ⟨rfl, hl⟩; replace Bg0 := Bg0.below hl; replace Bg1 := Bg1.below hl; replace HS := HS.below hl; clear hl; have kg0_3 := Bg0.at 3 rfl; have zg0_3 := Bg0.frozen 3; have kg0_4 := Bg0.at 4 rfl; have zg0_4 := Bg0.frozen 4))
        refine start_ (n := 11) (S := fun w' => w'.cell? ⟨g0, 3, none⟩ = some (.int .u64 t3) ∧ w'.cell? ⟨g0, 4, none⟩ = some (.int .u64 t4)) (ds := [8, 10]) (bs 11 0) (by kernel_rfl) rfl rfl ⟨((Bg0.drew.cell 3).trans rfl), ((Bg0.drew.cell 4).trans rfl)⟩ (fun hHeld => ?_)
        generalize hWd : World.drew w61 = w62 at hHeld ⊢
        have hl : Below w61.heap.size w61 w62 := (by rw [← hWd]; exact below_drew1 (Below.refl _ _))
        clear hWd
        replace Bg0 := Bg0.below hl; replace Bg1 := Bg1.below hl; replace HS := HS.below hl; clear hl; replace kg0_3 := Bg0.at 3 rfl; replace zg0_3 := Bg0.frozen 3; replace kg0_4 := Bg0.at 4 rfl; replace zg0_4 := Bg0.frozen 4
        refine pu 0 42 (.pointer (some ⟨g0, 3, none⟩)) 1 rfl rfl (by kernel_rfl) (fun _ _ _ h => h) (by rfl) (fun _ => by kernel_rfl) rfl ?_
        refine pu 2 44 (.int .u64 took) 5 rfl rfl (by kernel_rfl) (fun _ _ _ h => h) (by rfl) (fun _ => by kernel_rfl) rfl ?_
        refine pu 4 46 (.pointer (some ⟨g0, 4, none⟩)) 21 rfl rfl (by kernel_rfl) (fun _ _ _ h => h) (by rfl) (fun _ => by kernel_rfl) rfl ?_
        refine norm_ (a' := ?_) ?_ ?_
        rotate_left
        · simp only [Act.put, List.setIfInBounds_toArray, List.set_cons_zero, List.set_cons_succ, i64_w, i32_w]
          rfl
        refine take_ (i := 1) (N := some 43) (v := ?_) (a' := ?_) (bs 11 23) rfl rfl (by kernel_rfl) (fun _ _ _ h => h) (Or.inl ⟨by rfl, ?_⟩) hHeld ?_ ?_
        rotate_left
        · rintro w' ⟨s0, s1⟩
          go_simp
          with_reducible rfl
        rotate_left
        · simp only [Act.put, List.setIfInBounds_toArray, List.set_cons_zero, List.set_cons_succ, i64_w, i32_w]
          rfl
        refine pure_ (i := 3) (N := some 45) (v := ?_) (a' := ?_) (bs 11 31) rfl rfl (by kernel_rfl) (fun _ _ _ h => h) (Or.inl ⟨by rfl, ?_⟩) ?_ ?_
        rotate_left
        · intro w'
          go_simp
          with_reducible rfl
        rotate_left
        · simp only [Act.put, List.setIfInBounds_toArray, List.set_cons_zero, List.set_cons_succ, i64_w, i32_w]
          rfl
        refine take_ (i := 5) (N := some 47) (v := ?_) (a' := ?_) (bs 11 63) rfl rfl (by kernel_rfl) (fun _ _ _ h => h) (Or.inl ⟨by rfl, ?_⟩) hHeld ?_ ?_
        rotate_left
        · rintro w' ⟨s0, s1⟩
          go_simp
          with_reducible rfl
        rotate_left
        · simp only [Act.put, List.setIfInBounds_toArray, List.set_cons_zero, List.set_cons_succ, i64_w, i32_w]
          rfl
        refine pu 7 49 (.pointer (some ⟨g0, 3, none⟩)) 191 rfl rfl (by kernel_rfl) (fun _ _ _ h => h) (by rfl) (fun _ => by kernel_rfl) rfl ?_
        refine norm_ (a' := ?_) ?_ ?_
        rotate_left
        · simp only [Act.put, List.setIfInBounds_toArray, List.set_cons_zero, List.set_cons_succ, i64_w, i32_w]
          rfl
        refine one_ (i := 6) (N := some 48) (bs 11 255) rfl rfl (by kernel_rfl) (by decide) (fun K hK => ?_)
        refine goes_ Try.func25 (by kernel_rfl) rfl #[.int .u64 t4, .int .u64 1] (by rfl) rfl rfl (by simp only [List.map_toArray, List.map_cons, List.map_nil]; rfl) ?_
        with_reducible refine (fix_Add.C t4 1 Wt4 (by decide) _).mono ?_
        rintro e w63 ⟨rfl, hd⟩
        refine ⟨_, rfl, ?_⟩
        have hl := hd.below
        clear hd
        replace Bg0 := Bg0.below hl; replace Bg1 := Bg1.below hl; replace HS := HS.below hl; clear hl; replace kg0_3 := Bg0.at 3 rfl; replace zg0_3 := Bg0.frozen 3; replace kg0_4 := Bg0.at 4 rfl; replace zg0_4 := Bg0.frozen 4
        refine hK.out _ _ ⟨((Bg0.cell 3).trans rfl), ((Bg0.cell 4).trans rfl)⟩ (fun hHeld => ?_)
        clear hK K
        refine norm_ (a' := ?_) ?_ ?_
        rotate_left
        · show Act.put _ (some 48) _ = _
          simp only [Act.put, List.setIfInBounds_toArray, List.set_cons_zero, List.set_cons_succ, i64_w, i32_w]
          rfl
        refine last_ (i := 8) (N := none) (bs 11 511) rfl rfl (by kernel_rfl) (by decide) (fun K hK => ?_)
        refine skip_ (w1 := ?_) (by rfl) rfl ?_ ?_
        rotate_left
        · go_simp
          rfl
        refine hK.out _ _ ?_
        clear hK K
        refine pu 9 50 (.pointer (some ⟨g0, 4, none⟩)) 1023 rfl rfl (by kernel_rfl) (fun _ _ _ h => h) (by rfl) (fun _ => by kernel_rfl) rfl ?_
        refine norm_ (a' := ?_) ?_ ?_
        rotate_left
        · simp only [Act.put, List.setIfInBounds_toArray, List.set_cons_zero, List.set_cons_succ, i64_w, i32_w]
          rfl
        refine last_ (i := 10) (N := none) (bs 11 2047) rfl rfl (by kernel_rfl) (by decide) (fun K hK => ?_)
        refine skip_ (w1 := ?_) (by rfl) rfl ?_ ?_
        rotate_left
        · go_simp
          rfl
        refine hK.out _ _ ?_
        clear hK K
        refine done_ (by kernel_rfl) ?_
        refine letter ?_
        intro w64 hW
        have Bn_ : Blk w64 g0 27 [.int .i64 0, .int .u64 t1, .int .u64 t2, .int .u64 (min t3 took), .int .u64 (uAdd t4 1), .int .u64 t5, .int .u64 t6] := (by rw [hW]; (repeat (first | (with_reducible refine Blk.drewN ?_ _) | (with_reducible refine Blk.drew ?_))); refine Blk.set (l := [.int .i64 0, .int .u64 t1, .int .u64 t2, .int .u64 (min t3 took), .int .u64 t4, .int .u64 t5, .int .u64 t6]) ?_ 4 _ rfl; (repeat (first | (with_reducible refine Blk.drewN ?_ _) | (with_reducible refine Blk.drew ?_))); refine Blk.set (l := [.int .i64 0, .int .u64 t1, .int .u64 t2, .int .u64 t3, .int .u64 t4, .int .u64 t5, .int .u64 t6]) ?_ 3 _ rfl; (repeat (first | (with_reducible refine Blk.drewN ?_ _) | (with_reducible refine Blk.drew ?_))); exact Bg0)
        replace Bg0 := Bn_
        clear Bn_
        have Bn_ : Blk w64 g1 27 [.int .i64 0, .int .u64 0, .int .u64 0, .int .u64 0, .int .u64 0, .int .u64 0, .int .u64 0] := (by rw [hW]; (repeat (first | (with_reducible refine Blk.drewN ?_ _) | (with_reducible refine Blk.drew ?_))); refine Blk.setFar ?_ Ng1_g0; (repeat (first | (with_reducible refine Blk.drewN ?_ _) | (with_reducible refine Blk.drew ?_))); refine Blk.setFar ?_ Ng1_g0; (repeat (first | (with_reducible refine Blk.drewN ?_ _) | (with_reducible refine Blk.drew ?_))); exact Bg1)
        replace Bg1 := Bn_
        clear Bn_
        have HS_ : Since w w64 := (by rw [hW]; repeat (first | (with_reducible exact HS) | (with_reducible refine Since.drewN ?_ _) | (with_reducible refine Since.drew ?_) | (with_reducible refine Since.set ?_ GEg0)))
        replace HS := HS_
        clear HS_ hW
        clear zg0_3 zg0_4; replace kg0_3 := Bg0.at 3 rfl; replace kg0_4 := Bg0.at 4 rfl
        go_wp2_with (first | ((with_reducible refine gate_dst (N := 64) rfl ?_); refine seg_load rfl (N := 64) rfl 27 (.tmp 4) rfl g0 0 [.int .i64 0, .int .u64 t1, .int .u64 t2, .int .u64 (min t3 took), .int .u64 (uAdd t4 1), .int .u64 t5, .int .u64 t6] ?hx Bg0 rfl Try.underlying27 rfl (by kernel_rfl) ?_; (case hx => first | rfl | (go_simp; done) | (go_simp; rfl))) | ((with_reducible refine gate_ (.store 27 (.tmp 8) (.tmp 64)) rfl ?_); refine seg_store rfl rfl 27 (.tmp 8) (.tmp 64) rfl g1 0 [.int .i64 0, .int .u64 t1, .int .u64 t2, .int .u64 (min t3 took), .int .u64 (uAdd t4 1), .int .u64 t5, .int .u64 t6] [.int .i64 0, .int .u64 t1, .int .u64 t2, .int .u64 (min t3 took), .int .u64 (uAdd t4 1), .int .u64 t5, .int .u64 t6] (.agg #[.int .i64 0, .int .u64 t1, .int .u64 t2, .int .u64 (min t3 took), .int .u64 (uAdd t4 1), .int .u64 t5, .int .u64 t6]) ?hx ?hy rfl Bg1 (by kernel_rfl) (Nat.le_of_ble_eq_true rfl) rfl rfl ?_; (case hx => first | rfl | (go_simp; done) | (go_simp; rfl)); (case hy => first | rfl | (go_simp; done) | (go_simp; rfl)); intro w65 hn hw; replace Bg0 := Bg0.grown hw Ng1_g0.symm; replace HS := HS.grown hw GEg1; replace Bg1 := hn; clear hw; clear kg0_3 kg0_4; clear hn))
        all_goals exact bodyPost_ret (results_cell1 rfl _ _ g1 27 [.int .i64 0, .int .u64 t1, .int .u64 t2, .int .u64 (min t3 took), .int .u64 (uAdd t4 1), .int .u64 t5, .int .u64 t6] _ rfl Bg1 Try.underlying27 rfl (by kernel_rfl)) rfl ⟨_, _, _, _, _, _, _, rfl, by decide, Wt1, Wt2, (min_w Wt3 Wtook), (uAdd_w Wt4 (by decide)), Wt5, Wt6, HS.out⟩
      · rcases Bool.eq_false_or_eq_true (t2 == 18446744073709551615) with h2 | h2
        · go_wp2_with (first | ((go_at_call 63); (with_reducible refine (over0_0 t1 t2 t3 t4 t5 t6 g0 _ Bg0).mono ?_); rintro e w61 ⟨rfl, hl⟩; replace Bg0 := Bg0.below hl; replace Bg1 := Bg1.below hl; replace HS := HS.below hl; clear hl; have kg0_3 := Bg0.at 3 rfl; have zg0_3 := Bg0.frozen 3; have kg0_4 := Bg0.at 4 rfl; have zg0_4 := Bg0.frozen 4))
          refine start_ (n := 11) (S := fun w' => w'.cell? ⟨g0, 3, none⟩ = some (.int .u64 t3) ∧ w'.cell? ⟨g0, 4, none⟩ = some (.int .u64 t4)) (ds := [8, 10]) (bs 11 0) (by kernel_rfl) rfl rfl ⟨((Bg0.drew.cell 3).trans rfl), ((Bg0.drew.cell 4).trans rfl)⟩ (fun hHeld => ?_)
          generalize hWd : World.drew w61 = w62 at hHeld ⊢
          have hl : Below w61.heap.size w61 w62 := (by rw [← hWd]; exact below_drew1 (Below.refl _ _))
          clear hWd
          replace Bg0 := Bg0.below hl; replace Bg1 := Bg1.below hl; replace HS := HS.below hl; clear hl; replace kg0_3 := Bg0.at 3 rfl; replace zg0_3 := Bg0.frozen 3; replace kg0_4 := Bg0.at 4 rfl; replace zg0_4 := Bg0.frozen 4
          refine pu 0 42 (.pointer (some ⟨g0, 3, none⟩)) 1 rfl rfl (by kernel_rfl) (fun _ _ _ h => h) (by rfl) (fun _ => by kernel_rfl) rfl ?_
          refine pu 2 44 (.int .u64 took) 5 rfl rfl (by kernel_rfl) (fun _ _ _ h => h) (by rfl) (fun _ => by kernel_rfl) rfl ?_
          refine pu 4 46 (.pointer (some ⟨g0, 4, none⟩)) 21 rfl rfl (by kernel_rfl) (fun _ _ _ h => h) (by rfl) (fun _ => by kernel_rfl) rfl ?_
          refine norm_ (a' := ?_) ?_ ?_
          rotate_left
          · simp only [Act.put, List.setIfInBounds_toArray, List.set_cons_zero, List.set_cons_succ, i64_w, i32_w]
            rfl
          refine take_ (i := 1) (N := some 43) (v := ?_) (a' := ?_) (bs 11 23) rfl rfl (by kernel_rfl) (fun _ _ _ h => h) (Or.inl ⟨by rfl, ?_⟩) hHeld ?_ ?_
          rotate_left
          · rintro w' ⟨s0, s1⟩
            go_simp
            with_reducible rfl
          rotate_left
          · simp only [Act.put, List.setIfInBounds_toArray, List.set_cons_zero, List.set_cons_succ, i64_w, i32_w]
            rfl
          refine pure_ (i := 3) (N := some 45) (v := ?_) (a' := ?_) (bs 11 31) rfl rfl (by kernel_rfl) (fun _ _ _ h => h) (Or.inl ⟨by rfl, ?_⟩) ?_ ?_
          rotate_left
          · intro w'
            go_simp
            with_reducible rfl
          rotate_left
          · simp only [Act.put, List.setIfInBounds_toArray, List.set_cons_zero, List.set_cons_succ, i64_w, i32_w]
            rfl
          refine take_ (i := 5) (N := some 47) (v := ?_) (a' := ?_) (bs 11 63) rfl rfl (by kernel_rfl) (fun _ _ _ h => h) (Or.inl ⟨by rfl, ?_⟩) hHeld ?_ ?_
          rotate_left
          · rintro w' ⟨s0, s1⟩
            go_simp
            with_reducible rfl
          rotate_left
          · simp only [Act.put, List.setIfInBounds_toArray, List.set_cons_zero, List.set_cons_succ, i64_w, i32_w]
            rfl
          refine pu 7 49 (.pointer (some ⟨g0, 3, none⟩)) 191 rfl rfl (by kernel_rfl) (fun _ _ _ h => h) (by rfl) (fun _ => by kernel_rfl) rfl ?_
          refine norm_ (a' := ?_) ?_ ?_
          rotate_left
          · simp only [Act.put, List.setIfInBounds_toArray, List.set_cons_zero, List.set_cons_succ, i64_w, i32_w]
            rfl
          refine one_ (i := 6) (N := some 48) (bs 11 255) rfl rfl (by kernel_rfl) (by decide) (fun K hK => ?_)
          refine goes_ Try.func25 (by kernel_rfl) rfl #[.int .u64 t4, .int .u64 1] (by rfl) rfl rfl (by simp only [List.map_toArray, List.map_cons, List.map_nil]; rfl) ?_
          with_reducible refine (fix_Add.C t4 1 Wt4 (by decide) _).mono ?_
          rintro e w63 ⟨rfl, hd⟩
          refine ⟨_, rfl, ?_⟩
          have hl := hd.below
          clear hd
          replace Bg0 := Bg0.below hl; replace Bg1 := Bg1.below hl; replace HS := HS.below hl; clear hl; replace kg0_3 := Bg0.at 3 rfl; replace zg0_3 := Bg0.frozen 3; replace kg0_4 := Bg0.at 4 rfl; replace zg0_4 := Bg0.frozen 4
          refine hK.out _ _ ⟨((Bg0.cell 3).trans rfl), ((Bg0.cell 4).trans rfl)⟩ (fun hHeld => ?_)
          clear hK K
          refine norm_ (a' := ?_) ?_ ?_
          rotate_left
          · show Act.put _ (some 48) _ = _
            simp only [Act.put, List.setIfInBounds_toArray, List.set_cons_zero, List.set_cons_succ, i64_w, i32_w]
            rfl
          refine last_ (i := 8) (N := none) (bs 11 511) rfl rfl (by kernel_rfl) (by decide) (fun K hK => ?_)
          refine skip_ (w1 := ?_) (by rfl) rfl ?_ ?_
          rotate_left
          · go_simp
            rfl
          refine hK.out _ _ ?_
          clear hK K
          refine pu 9 50 (.pointer (some ⟨g0, 4, none⟩)) 1023 rfl rfl (by kernel_rfl) (fun _ _ _ h => h) (by rfl) (fun _ => by kernel_rfl) rfl ?_
          refine norm_ (a' := ?_) ?_ ?_
          rotate_left
          · simp only [Act.put, List.setIfInBounds_toArray, List.set_cons_zero, List.set_cons_succ, i64_w, i32_w]
            rfl
          refine last_ (i := 10) (N := none) (bs 11 2047) rfl rfl (by kernel_rfl) (by decide) (fun K hK => ?_)
          refine skip_ (w1 := ?_) (by rfl) rfl ?_ ?_
          rotate_left
          · go_simp
            rfl
          refine hK.out _ _ ?_
          clear hK K
          refine done_ (by kernel_rfl) ?_
          refine letter ?_
          intro w64 hW
          have Bn_ : Blk w64 g0 27 [.int .i64 0, .int .u64 t1, .int .u64 t2, .int .u64 (min t3 took), .int .u64 (uAdd t4 1), .int .u64 t5, .int .u64 t6] := (by rw [hW]; (repeat (first | (with_reducible refine Blk.drewN ?_ _) | (with_reducible refine Blk.drew ?_))); refine Blk.set (l := [.int .i64 0, .int .u64 t1, .int .u64 t2, .int .u64 (min t3 took), .int .u64 t4, .int .u64 t5, .int .u64 t6]) ?_ 4 _ rfl; (repeat (first | (with_reducible refine Blk.drewN ?_ _) | (with_reducible refine Blk.drew ?_))); refine Blk.set (l := [.int .i64 0, .int .u64 t1, .int .u64 t2, .int .u64 t3, .int .u64 t4, .int .u64 t5, .int .u64 t6]) ?_ 3 _ rfl; (repeat (first | (with_reducible refine Blk.drewN ?_ _) | (with_reducible refine Blk.drew ?_))); exact Bg0)
          replace Bg0 := Bn_
          clear Bn_
          have Bn_ : Blk w64 g1 27 [.int .i64 0, .int .u64 0, .int .u64 0, .int .u64 0, .int .u64 0, .int .u64 0, .int .u64 0] := (by rw [hW]; (repeat (first | (with_reducible refine Blk.drewN ?_ _) | (with_reducible refine Blk.drew ?_))); refine Blk.setFar ?_ Ng1_g0; (repeat (first | (with_reducible refine Blk.drewN ?_ _) | (with_reducible refine Blk.drew ?_))); refine Blk.setFar ?_ Ng1_g0; (repeat (first | (with_reducible refine Blk.drewN ?_ _) | (with_reducible refine Blk.drew ?_))); exact Bg1)
          replace Bg1 := Bn_
          clear Bn_
          have HS_ : Since w w64 := (by rw [hW]; repeat (first | (with_reducible exact HS) | (with_reducible refine Since.drewN ?_ _) | (with_reducible refine Since.drew ?_) | (with_reducible refine Since.set ?_ GEg0)))
          replace HS := HS_
          clear HS_ hW
          clear zg0_3 zg0_4; have kg0_2 := Bg0.at 2 rfl; replace kg0_3 := Bg0.at 3 rfl; replace kg0_4 := Bg0.at 4 rfl
          go_wp2_with (first | ((with_reducible refine gate_dst (N := 64) rfl ?_); refine seg_load rfl (N := 64) rfl 27 (.tmp 4) rfl g0 0 [.int .i64 0, .int .u64 t1, .int .u64 t2, .int .u64 (min t3 took), .int .u64 (uAdd t4 1), .int .u64 t5, .int .u64 t6] ?hx Bg0 rfl Try.underlying27 rfl (by kernel_rfl) ?_; (case hx => first | rfl | (go_simp; done) | (go_simp; rfl))) | ((with_reducible refine gate_ (.store 27 (.tmp 8) (.tmp 64)) rfl ?_); refine seg_store rfl rfl 27 (.tmp 8) (.tmp 64) rfl g1 0 [.int .i64 0, .int .u64 t1, .int .u64 t2, .int .u64 (min t3 took), .int .u64 (uAdd t4 1), .int .u64 t5, .int .u64 t6] [.int .i64 0, .int .u64 t1, .int .u64 t2, .int .u64 (min t3 took), .int .u64 (uAdd t4 1), .int .u64 t5, .int .u64 t6] (.agg #[.int .i64 0, .int .u64 t1, .int .u64 t2, .int .u64 (min t3 took), .int .u64 (uAdd t4 1), .int .u64 t5, .int .u64 t6]) ?hx ?hy rfl Bg1 (by kernel_rfl) (Nat.le_of_ble_eq_true rfl) rfl rfl ?_; (case hx => first | rfl | (go_simp; done) | (go_simp; rfl)); (case hy => first | rfl | (go_simp; done) | (go_simp; rfl)); intro w65 hn hw; replace Bg0 := Bg0.grown hw Ng1_g0.symm; replace HS := HS.grown hw GEg1; replace Bg1 := hn; clear hw; clear kg0_2 kg0_3 kg0_4; clear hn))
          all_goals exact bodyPost_ret (results_cell1 rfl _ _ g1 27 [.int .i64 0, .int .u64 t1, .int .u64 t2, .int .u64 (min t3 took), .int .u64 (uAdd t4 1), .int .u64 t5, .int .u64 t6] _ rfl Bg1 Try.underlying27 rfl (by kernel_rfl)) rfl ⟨_, _, _, _, _, _, _, rfl, by decide, Wt1, Wt2, (min_w Wt3 Wtook), (uAdd_w Wt4 (by decide)), Wt5, Wt6, HS.out⟩
        · rcases Bool.eq_false_or_eq_true (decide (uAdd t2 (min (max (t2 / 8) 4) 16) ≤ min t3 took)) with h3 | h3
          · have q0 : IntKind.u64.wrap (Int.tdiv t2 8) = t2 / 8 := wdiv Wt2 8 (by decide)
            go_wp2_with (first | ((go_at_call 63); (with_reducible refine (over0_0 t1 t2 t3 t4 t5 t6 g0 _ Bg0).mono ?_); rintro e w61 ⟨rfl, hl⟩; replace Bg0 := Bg0.below hl; replace Bg1 := Bg1.below hl; replace HS := HS.below hl; clear hl; have kg0_3 := Bg0.at 3 rfl; have zg0_3 := Bg0.frozen 3; have kg0_4 := Bg0.at 4 rfl; have zg0_4 := Bg0.frozen 4))
            refine start_ (n := 11) (S := fun w' => w'.cell? ⟨g0, 3, none⟩ = some (.int .u64 t3) ∧ w'.cell? ⟨g0, 4, none⟩ = some (.int .u64 t4)) (ds := [8, 10]) (bs 11 0) (by kernel_rfl) rfl rfl ⟨((Bg0.drew.cell 3).trans rfl), ((Bg0.drew.cell 4).trans rfl)⟩ (fun hHeld => ?_)
            generalize hWd : World.drew w61 = w62 at hHeld ⊢
            have hl : Below w61.heap.size w61 w62 := (by rw [← hWd]; exact below_drew1 (Below.refl _ _))
            clear hWd
            replace Bg0 := Bg0.below hl; replace Bg1 := Bg1.below hl; replace HS := HS.below hl; clear hl; replace kg0_3 := Bg0.at 3 rfl; replace zg0_3 := Bg0.frozen 3; replace kg0_4 := Bg0.at 4 rfl; replace zg0_4 := Bg0.frozen 4
            refine pu 0 42 (.pointer (some ⟨g0, 3, none⟩)) 1 rfl rfl (by kernel_rfl) (fun _ _ _ h => h) (by rfl) (fun _ => by kernel_rfl) rfl ?_
            refine pu 2 44 (.int .u64 took) 5 rfl rfl (by kernel_rfl) (fun _ _ _ h => h) (by rfl) (fun _ => by kernel_rfl) rfl ?_
            refine pu 4 46 (.pointer (some ⟨g0, 4, none⟩)) 21 rfl rfl (by kernel_rfl) (fun _ _ _ h => h) (by rfl) (fun _ => by kernel_rfl) rfl ?_
            refine norm_ (a' := ?_) ?_ ?_
            rotate_left
            · simp only [Act.put, List.setIfInBounds_toArray, List.set_cons_zero, List.set_cons_succ, i64_w, i32_w]
              rfl
            refine take_ (i := 1) (N := some 43) (v := ?_) (a' := ?_) (bs 11 23) rfl rfl (by kernel_rfl) (fun _ _ _ h => h) (Or.inl ⟨by rfl, ?_⟩) hHeld ?_ ?_
            rotate_left
            · rintro w' ⟨s0, s1⟩
              go_simp
              with_reducible rfl
            rotate_left
            · simp only [Act.put, List.setIfInBounds_toArray, List.set_cons_zero, List.set_cons_succ, i64_w, i32_w]
              rfl
            refine pure_ (i := 3) (N := some 45) (v := ?_) (a' := ?_) (bs 11 31) rfl rfl (by kernel_rfl) (fun _ _ _ h => h) (Or.inl ⟨by rfl, ?_⟩) ?_ ?_
            rotate_left
            · intro w'
              go_simp
              with_reducible rfl
            rotate_left
            · simp only [Act.put, List.setIfInBounds_toArray, List.set_cons_zero, List.set_cons_succ, i64_w, i32_w]
              rfl
            refine take_ (i := 5) (N := some 47) (v := ?_) (a' := ?_) (bs 11 63) rfl rfl (by kernel_rfl) (fun _ _ _ h => h) (Or.inl ⟨by rfl, ?_⟩) hHeld ?_ ?_
            rotate_left
            · rintro w' ⟨s0, s1⟩
              go_simp
              with_reducible rfl
            rotate_left
            · simp only [Act.put, List.setIfInBounds_toArray, List.set_cons_zero, List.set_cons_succ, i64_w, i32_w]
              rfl
            refine pu 7 49 (.pointer (some ⟨g0, 3, none⟩)) 191 rfl rfl (by kernel_rfl) (fun _ _ _ h => h) (by rfl) (fun _ => by kernel_rfl) rfl ?_
            refine norm_ (a' := ?_) ?_ ?_
            rotate_left
            · simp only [Act.put, List.setIfInBounds_toArray, List.set_cons_zero, List.set_cons_succ, i64_w, i32_w]
              rfl
            refine one_ (i := 6) (N := some 48) (bs 11 255) rfl rfl (by kernel_rfl) (by decide) (fun K hK => ?_)
            refine goes_ Try.func25 (by kernel_rfl) rfl #[.int .u64 t4, .int .u64 1] (by rfl) rfl rfl (by simp only [List.map_toArray, List.map_cons, List.map_nil]; rfl) ?_
            with_reducible refine (fix_Add.C t4 1 Wt4 (by decide) _).mono ?_
            rintro e w63 ⟨rfl, hd⟩
            refine ⟨_, rfl, ?_⟩
            have hl := hd.below
            clear hd
            replace Bg0 := Bg0.below hl; replace Bg1 := Bg1.below hl; replace HS := HS.below hl; clear hl; replace kg0_3 := Bg0.at 3 rfl; replace zg0_3 := Bg0.frozen 3; replace kg0_4 := Bg0.at 4 rfl; replace zg0_4 := Bg0.frozen 4
            refine hK.out _ _ ⟨((Bg0.cell 3).trans rfl), ((Bg0.cell 4).trans rfl)⟩ (fun hHeld => ?_)
            clear hK K
            refine norm_ (a' := ?_) ?_ ?_
            rotate_left
            · show Act.put _ (some 48) _ = _
              simp only [Act.put, List.setIfInBounds_toArray, List.set_cons_zero, List.set_cons_succ, i64_w, i32_w]
              rfl
            refine last_ (i := 8) (N := none) (bs 11 511) rfl rfl (by kernel_rfl) (by decide) (fun K hK => ?_)
            refine skip_ (w1 := ?_) (by rfl) rfl ?_ ?_
            rotate_left
            · go_simp
              rfl
            refine hK.out _ _ ?_
            clear hK K
            refine pu 9 50 (.pointer (some ⟨g0, 4, none⟩)) 1023 rfl rfl (by kernel_rfl) (fun _ _ _ h => h) (by rfl) (fun _ => by kernel_rfl) rfl ?_
            refine norm_ (a' := ?_) ?_ ?_
            rotate_left
            · simp only [Act.put, List.setIfInBounds_toArray, List.set_cons_zero, List.set_cons_succ, i64_w, i32_w]
              rfl
            refine last_ (i := 10) (N := none) (bs 11 2047) rfl rfl (by kernel_rfl) (by decide) (fun K hK => ?_)
            refine skip_ (w1 := ?_) (by rfl) rfl ?_ ?_
            rotate_left
            · go_simp
              rfl
            refine hK.out _ _ ?_
            clear hK K
            refine done_ (by kernel_rfl) ?_
            refine letter ?_
            intro w64 hW
            have Bn_ : Blk w64 g0 27 [.int .i64 0, .int .u64 t1, .int .u64 t2, .int .u64 (min t3 took), .int .u64 (uAdd t4 1), .int .u64 t5, .int .u64 t6] := (by rw [hW]; (repeat (first | (with_reducible refine Blk.drewN ?_ _) | (with_reducible refine Blk.drew ?_))); refine Blk.set (l := [.int .i64 0, .int .u64 t1, .int .u64 t2, .int .u64 (min t3 took), .int .u64 t4, .int .u64 t5, .int .u64 t6]) ?_ 4 _ rfl; (repeat (first | (with_reducible refine Blk.drewN ?_ _) | (with_reducible refine Blk.drew ?_))); refine Blk.set (l := [.int .i64 0, .int .u64 t1, .int .u64 t2, .int .u64 t3, .int .u64 t4, .int .u64 t5, .int .u64 t6]) ?_ 3 _ rfl; (repeat (first | (with_reducible refine Blk.drewN ?_ _) | (with_reducible refine Blk.drew ?_))); exact Bg0)
            replace Bg0 := Bn_
            clear Bn_
            have Bn_ : Blk w64 g1 27 [.int .i64 0, .int .u64 0, .int .u64 0, .int .u64 0, .int .u64 0, .int .u64 0, .int .u64 0] := (by rw [hW]; (repeat (first | (with_reducible refine Blk.drewN ?_ _) | (with_reducible refine Blk.drew ?_))); refine Blk.setFar ?_ Ng1_g0; (repeat (first | (with_reducible refine Blk.drewN ?_ _) | (with_reducible refine Blk.drew ?_))); refine Blk.setFar ?_ Ng1_g0; (repeat (first | (with_reducible refine Blk.drewN ?_ _) | (with_reducible refine Blk.drew ?_))); exact Bg1)
            replace Bg1 := Bn_
            clear Bn_
            have HS_ : Since w w64 := (by rw [hW]; repeat (first | (with_reducible exact HS) | (with_reducible refine Since.drewN ?_ _) | (with_reducible refine Since.drew ?_) | (with_reducible refine Since.set ?_ GEg0)))
            replace HS := HS_
            clear HS_ hW
            clear zg0_3 zg0_4; have kg0_0 := Bg0.at 0 rfl; have kg0_2 := Bg0.at 2 rfl; replace kg0_3 := Bg0.at 3 rfl; replace kg0_4 := Bg0.at 4 rfl
            go_wp2
            all_goals go_quiet (first | (go_at_call 25; with_reducible exact fix_Add.Q t2 (min (max (t2 / 8) 4) 16) Wt2 (min_w (max_w (div_w Wt2 8 (by decide)) (by decide)) (by decide)) _ _))
            all_goals (generalize hW : World.drewN w64 _ = w65; have hl : Below w64.heap.size w64 w65 := (by rw [← hW]; exact pw_below_drewN (Below.refl _ _) _); clear hW; replace Bg0 := Bg0.below hl; replace Bg1 := Bg1.below hl; replace HS := HS.below hl; clear hl; clear kg0_0 kg0_2 kg0_4; replace kg0_3 := Bg0.at 3 rfl)
            go_wp2_with (first | ((with_reducible refine gate_ (.store 3 (.tmp 85) (.const (.int .i64 1))) rfl ?_); refine seg_store rfl rfl 3 (.tmp 85) (.const (.int .i64 1)) rfl g0 0 [.int .i64 1] [.int .i64 1, .int .u64 t1, .int .u64 t2, .int .u64 (min t3 took), .int .u64 (uAdd t4 1), .int .u64 t5, .int .u64 t6] (.int .i64 1) ?hx ?hy rfl Bg0 (by kernel_rfl) (Nat.le_of_ble_eq_true rfl) rfl rfl ?_; (case hx => first | rfl | (go_simp; done) | (go_simp; rfl)); (case hy => first | rfl | (go_simp; done) | (go_simp; rfl)); intro w66 hn hw; replace Bg1 := Bg1.grown hw Ng1_g0; replace HS := HS.grown hw GEg0; replace Bg0 := hn; clear hw; clear kg0_3; clear hn) | ((with_reducible refine gate_ (.store 23 (.tmp 86) (.tmp 84)) rfl ?_); refine seg_store rfl rfl 23 (.tmp 86) (.tmp 84) rfl g0 5 [.int .u64 (min t3 took)] [.int .i64 1, .int .u64 t1, .int .u64 t2, .int .u64 (min t3 took), .int .u64 (uAdd t4 1), .int .u64 (min t3 took), .int .u64 t6] (.int .u64 (min t3 took)) ?hx ?hy rfl Bg0 (by kernel_rfl) (Nat.le_of_ble_eq_true rfl) rfl rfl ?_; (case hx => first | rfl | (go_simp; done) | (go_simp; rfl)); (case hy => first | rfl | (go_simp; done) | (go_simp; rfl)); intro w67 hn hw; replace Bg1 := Bg1.grown hw Ng1_g0; replace HS := HS.grown hw GEg0; replace Bg0 := hn; clear hw; clear hn) | ((with_reducible refine gate_ (.store 23 (.tmp 87) (.const (.int .u64 0))) rfl ?_); refine seg_store rfl rfl 23 (.tmp 87) (.const (.int .u64 0)) rfl g0 6 [.int .u64 0] [.int .i64 1, .int .u64 t1, .int .u64 t2, .int .u64 (min t3 took), .int .u64 (uAdd t4 1), .int .u64 (min t3 took), .int .u64 0] (.int .u64 0) ?hx ?hy rfl Bg0 (by kernel_rfl) (Nat.le_of_ble_eq_true rfl) rfl rfl ?_; (case hx => first | rfl | (go_simp; done) | (go_simp; rfl)); (case hy => first | rfl | (go_simp; done) | (go_simp; rfl)); intro w68 hn hw; replace Bg1 := Bg1.grown hw Ng1_g0; replace HS := HS.grown hw GEg0; replace Bg0 := hn; clear hw; clear hn) | ((with_reducible refine gate_dst (N := 101) rfl ?_); refine seg_load rfl (N := 101) rfl 27 (.tmp 4) rfl g0 0 [.int .i64 1, .int .u64 t1, .int .u64 t2, .int .u64 (min t3 took), .int .u64 (uAdd t4 1), .int .u64 (min t3 took), .int .u64 0] ?hx Bg0 rfl Try.underlying27 rfl (by kernel_rfl) ?_; (case hx => first | rfl | (go_simp; done) | (go_simp; rfl))) | ((with_reducible refine gate_ (.store 27 (.tmp 8) (.tmp 101)) rfl ?_); refine seg_store rfl rfl 27 (.tmp 8) (.tmp 101) rfl g1 0 [.int .i64 1, .int .u64 t1, .int .u64 t2, .int .u64 (min t3 took), .int .u64 (uAdd t4 1), .int .u64 (min t3 took), .int .u64 0] [.int .i64 1, .int .u64 t1, .int .u64 t2, .int .u64 (min t3 took), .int .u64 (uAdd t4 1), .int .u64 (min t3 took), .int .u64 0] (.agg #[.int .i64 1, .int .u64 t1, .int .u64 t2, .int .u64 (min t3 took), .int .u64 (uAdd t4 1), .int .u64 (min t3 took), .int .u64 0]) ?hx ?hy rfl Bg1 (by kernel_rfl) (Nat.le_of_ble_eq_true rfl) rfl rfl ?_; (case hx => first | rfl | (go_simp; done) | (go_simp; rfl)); (case hy => first | rfl | (go_simp; done) | (go_simp; rfl)); intro w69 hn hw; replace Bg0 := Bg0.grown hw Ng1_g0.symm; replace HS := HS.grown hw GEg1; replace Bg1 := hn; clear hw; clear hn))
            all_goals exact bodyPost_ret (results_cell1 rfl _ _ g1 27 [.int .i64 1, .int .u64 t1, .int .u64 t2, .int .u64 (min t3 took), .int .u64 (uAdd t4 1), .int .u64 (min t3 took), .int .u64 0] _ rfl Bg1 Try.underlying27 rfl (by kernel_rfl)) rfl ⟨_, _, _, _, _, _, _, rfl, by decide, Wt1, Wt2, (min_w Wt3 Wtook), (uAdd_w Wt4 (by decide)), (min_w Wt3 Wtook), (by decide), HS.out⟩
          · have q0 : IntKind.u64.wrap (Int.tdiv t2 8) = t2 / 8 := wdiv Wt2 8 (by decide)
            go_wp2_with (first | ((go_at_call 63); (with_reducible refine (over0_0 t1 t2 t3 t4 t5 t6 g0 _ Bg0).mono ?_); rintro e w61 ⟨rfl, hl⟩; replace Bg0 := Bg0.below hl; replace Bg1 := Bg1.below hl; replace HS := HS.below hl; clear hl; have kg0_3 := Bg0.at 3 rfl; have zg0_3 := Bg0.frozen 3; have kg0_4 := Bg0.at 4 rfl; have zg0_4 := Bg0.frozen 4))
            refine start_ (n := 11) (S := fun w' => w'.cell? ⟨g0, 3, none⟩ = some (.int .u64 t3) ∧ w'.cell? ⟨g0, 4, none⟩ = some (.int .u64 t4)) (ds := [8, 10]) (bs 11 0) (by kernel_rfl) rfl rfl ⟨((Bg0.drew.cell 3).trans rfl), ((Bg0.drew.cell 4).trans rfl)⟩ (fun hHeld => ?_)
            generalize hWd : World.drew w61 = w62 at hHeld ⊢
            have hl : Below w61.heap.size w61 w62 := (by rw [← hWd]; exact below_drew1 (Below.refl _ _))
            clear hWd
            replace Bg0 := Bg0.below hl; replace Bg1 := Bg1.below hl; replace HS := HS.below hl; clear hl; replace kg0_3 := Bg0.at 3 rfl; replace zg0_3 := Bg0.frozen 3; replace kg0_4 := Bg0.at 4 rfl; replace zg0_4 := Bg0.frozen 4
            refine pu 0 42 (.pointer (some ⟨g0, 3, none⟩)) 1 rfl rfl (by kernel_rfl) (fun _ _ _ h => h) (by rfl) (fun _ => by kernel_rfl) rfl ?_
            refine pu 2 44 (.int .u64 took) 5 rfl rfl (by kernel_rfl) (fun _ _ _ h => h) (by rfl) (fun _ => by kernel_rfl) rfl ?_
            refine pu 4 46 (.pointer (some ⟨g0, 4, none⟩)) 21 rfl rfl (by kernel_rfl) (fun _ _ _ h => h) (by rfl) (fun _ => by kernel_rfl) rfl ?_
            refine norm_ (a' := ?_) ?_ ?_
            rotate_left
            · simp only [Act.put, List.setIfInBounds_toArray, List.set_cons_zero, List.set_cons_succ, i64_w, i32_w]
              rfl
            refine take_ (i := 1) (N := some 43) (v := ?_) (a' := ?_) (bs 11 23) rfl rfl (by kernel_rfl) (fun _ _ _ h => h) (Or.inl ⟨by rfl, ?_⟩) hHeld ?_ ?_
            rotate_left
            · rintro w' ⟨s0, s1⟩
              go_simp
              with_reducible rfl
            rotate_left
            · simp only [Act.put, List.setIfInBounds_toArray, List.set_cons_zero, List.set_cons_succ, i64_w, i32_w]
              rfl
            refine pure_ (i := 3) (N := some 45) (v := ?_) (a' := ?_) (bs 11 31) rfl rfl (by kernel_rfl) (fun _ _ _ h => h) (Or.inl ⟨by rfl, ?_⟩) ?_ ?_
            rotate_left
            · intro w'
              go_simp
              with_reducible rfl
            rotate_left
            · simp only [Act.put, List.setIfInBounds_toArray, List.set_cons_zero, List.set_cons_succ, i64_w, i32_w]
              rfl
            refine take_ (i := 5) (N := some 47) (v := ?_) (a' := ?_) (bs 11 63) rfl rfl (by kernel_rfl) (fun _ _ _ h => h) (Or.inl ⟨by rfl, ?_⟩) hHeld ?_ ?_
            rotate_left
            · rintro w' ⟨s0, s1⟩
              go_simp
              with_reducible rfl
            rotate_left
            · simp only [Act.put, List.setIfInBounds_toArray, List.set_cons_zero, List.set_cons_succ, i64_w, i32_w]
              rfl
            refine pu 7 49 (.pointer (some ⟨g0, 3, none⟩)) 191 rfl rfl (by kernel_rfl) (fun _ _ _ h => h) (by rfl) (fun _ => by kernel_rfl) rfl ?_
            refine norm_ (a' := ?_) ?_ ?_
            rotate_left
            · simp only [Act.put, List.setIfInBounds_toArray, List.set_cons_zero, List.set_cons_succ, i64_w, i32_w]
              rfl
            refine one_ (i := 6) (N := some 48) (bs 11 255) rfl rfl (by kernel_rfl) (by decide) (fun K hK => ?_)
            refine goes_ Try.func25 (by kernel_rfl) rfl #[.int .u64 t4, .int .u64 1] (by rfl) rfl rfl (by simp only [List.map_toArray, List.map_cons, List.map_nil]; rfl) ?_
            with_reducible refine (fix_Add.C t4 1 Wt4 (by decide) _).mono ?_
            rintro e w63 ⟨rfl, hd⟩
            refine ⟨_, rfl, ?_⟩
            have hl := hd.below
            clear hd
            replace Bg0 := Bg0.below hl; replace Bg1 := Bg1.below hl; replace HS := HS.below hl; clear hl; replace kg0_3 := Bg0.at 3 rfl; replace zg0_3 := Bg0.frozen 3; replace kg0_4 := Bg0.at 4 rfl; replace zg0_4 := Bg0.frozen 4
            refine hK.out _ _ ⟨((Bg0.cell 3).trans rfl), ((Bg0.cell 4).trans rfl)⟩ (fun hHeld => ?_)
            clear hK K
            refine norm_ (a' := ?_) ?_ ?_
            rotate_left
            · show Act.put _ (some 48) _ = _
              simp only [Act.put, List.setIfInBounds_toArray, List.set_cons_zero, List.set_cons_succ, i64_w, i32_w]
              rfl
            refine last_ (i := 8) (N := none) (bs 11 511) rfl rfl (by kernel_rfl) (by decide) (fun K hK => ?_)
            refine skip_ (w1 := ?_) (by rfl) rfl ?_ ?_
            rotate_left
            · go_simp
              rfl
            refine hK.out _ _ ?_
            clear hK K
            refine pu 9 50 (.pointer (some ⟨g0, 4, none⟩)) 1023 rfl rfl (by kernel_rfl) (fun _ _ _ h => h) (by rfl) (fun _ => by kernel_rfl) rfl ?_
            refine norm_ (a' := ?_) ?_ ?_
            rotate_left
            · simp only [Act.put, List.setIfInBounds_toArray, List.set_cons_zero, List.set_cons_succ, i64_w, i32_w]
              rfl
            refine last_ (i := 10) (N := none) (bs 11 2047) rfl rfl (by kernel_rfl) (by decide) (fun K hK => ?_)
            refine skip_ (w1 := ?_) (by rfl) rfl ?_ ?_
            rotate_left
            · go_simp
              rfl
            refine hK.out _ _ ?_
            clear hK K
            refine done_ (by kernel_rfl) ?_
            refine letter ?_
            intro w64 hW
            have Bn_ : Blk w64 g0 27 [.int .i64 0, .int .u64 t1, .int .u64 t2, .int .u64 (min t3 took), .int .u64 (uAdd t4 1), .int .u64 t5, .int .u64 t6] := (by rw [hW]; (repeat (first | (with_reducible refine Blk.drewN ?_ _) | (with_reducible refine Blk.drew ?_))); refine Blk.set (l := [.int .i64 0, .int .u64 t1, .int .u64 t2, .int .u64 (min t3 took), .int .u64 t4, .int .u64 t5, .int .u64 t6]) ?_ 4 _ rfl; (repeat (first | (with_reducible refine Blk.drewN ?_ _) | (with_reducible refine Blk.drew ?_))); refine Blk.set (l := [.int .i64 0, .int .u64 t1, .int .u64 t2, .int .u64 t3, .int .u64 t4, .int .u64 t5, .int .u64 t6]) ?_ 3 _ rfl; (repeat (first | (with_reducible refine Blk.drewN ?_ _) | (with_reducible refine Blk.drew ?_))); exact Bg0)
            replace Bg0 := Bn_
            clear Bn_
            have Bn_ : Blk w64 g1 27 [.int .i64 0, .int .u64 0, .int .u64 0, .int .u64 0, .int .u64 0, .int .u64 0, .int .u64 0] := (by rw [hW]; (repeat (first | (with_reducible refine Blk.drewN ?_ _) | (with_reducible refine Blk.drew ?_))); refine Blk.setFar ?_ Ng1_g0; (repeat (first | (with_reducible refine Blk.drewN ?_ _) | (with_reducible refine Blk.drew ?_))); refine Blk.setFar ?_ Ng1_g0; (repeat (first | (with_reducible refine Blk.drewN ?_ _) | (with_reducible refine Blk.drew ?_))); exact Bg1)
            replace Bg1 := Bn_
            clear Bn_
            have HS_ : Since w w64 := (by rw [hW]; repeat (first | (with_reducible exact HS) | (with_reducible refine Since.drewN ?_ _) | (with_reducible refine Since.drew ?_) | (with_reducible refine Since.set ?_ GEg0)))
            replace HS := HS_
            clear HS_ hW
            clear zg0_3 zg0_4; have kg0_0 := Bg0.at 0 rfl; have kg0_2 := Bg0.at 2 rfl; replace kg0_3 := Bg0.at 3 rfl; replace kg0_4 := Bg0.at 4 rfl
            go_wp2
            all_goals go_quiet (first | (go_at_call 25; with_reducible exact fix_Add.Q t2 (min (max (t2 / 8) 4) 16) Wt2 (min_w (max_w (div_w Wt2 8 (by decide)) (by decide)) (by decide)) _ _))
            all_goals (generalize hW : World.drewN w64 _ = w65; have hl : Below w64.heap.size w64 w65 := (by rw [← hW]; exact pw_below_drewN (Below.refl _ _) _); clear hW; replace Bg0 := Bg0.below hl; replace Bg1 := Bg1.below hl; replace HS := HS.below hl; clear hl; clear kg0_2 kg0_3 kg0_4; replace kg0_0 := Bg0.at 0 rfl)
            go_wp2_with (first | ((with_reducible refine gate_dst (N := 101) rfl ?_); refine seg_load rfl (N := 101) rfl 27 (.tmp 4) rfl g0 0 [.int .i64 0, .int .u64 t1, .int .u64 t2, .int .u64 (min t3 took), .int .u64 (uAdd t4 1), .int .u64 t5, .int .u64 t6] ?hx Bg0 rfl Try.underlying27 rfl (by kernel_rfl) ?_; (case hx => first | rfl | (go_simp; done) | (go_simp; rfl))) | ((with_reducible refine gate_ (.store 27 (.tmp 8) (.tmp 101)) rfl ?_); refine seg_store rfl rfl 27 (.tmp 8) (.tmp 101) rfl g1 0 [.int .i64 0, .int .u64 t1, .int .u64 t2, .int .u64 (min t3 took), .int .u64 (uAdd t4 1), .int .u64 t5, .int .u64 t6] [.int .i64 0, .int .u64 t1, .int .u64 t2, .int .u64 (min t3 took), .int .u64 (uAdd t4 1), .int .u64 t5, .int .u64 t6] (.agg #[.int .i64 0, .int .u64 t1, .int .u64 t2, .int .u64 (min t3 took), .int .u64 (uAdd t4 1), .int .u64 t5, .int .u64 t6]) ?hx ?hy rfl Bg1 (by kernel_rfl) (Nat.le_of_ble_eq_true rfl) rfl rfl ?_; (case hx => first | rfl | (go_simp; done) | (go_simp; rfl)); (case hy => first | rfl | (go_simp; done) | (go_simp; rfl)); intro w66 hn hw; replace Bg0 := Bg0.grown hw Ng1_g0.symm; replace HS := HS.grown hw GEg1; replace Bg1 := hn; clear hw; clear kg0_0; clear hn))
            all_goals exact bodyPost_ret (results_cell1 rfl _ _ g1 27 [.int .i64 0, .int .u64 t1, .int .u64 t2, .int .u64 (min t3 took), .int .u64 (uAdd t4 1), .int .u64 t5, .int .u64 t6] _ rfl Bg1 Try.underlying27 rfl (by kernel_rfl)) rfl ⟨_, _, _, _, _, _, _, rfl, by decide, Wt1, Wt2, (min_w Wt3 Wtook), (uAdd_w Wt4 (by decide)), Wt5, Wt6, HS.out⟩
set_option maxRecDepth 100000 in
set_option maxHeartbeats 4000000 in
theorem sampleC1 (s1 : Int) (s2 : Int) (s3 : Int) (s4 : Int) (s5 : Int) (s6 : Int) (num : Int) (next : Int) (took : Int) (Ws1 : W64 s1) (Ws2 : W64 s2) (Ws3 : W64 s3) (Ws4 : W64 s4) (Ws5 : W64 s5) (Ws6 : W64 s6) (Wnum : W64 num) (Wnext : W64 next) (Wtook : W64 took) (w : World) :
    Calls Try.prog 49 #[.agg #[.int .i64 1, .int .u64 s1, .int .u64 s2, .int .u64 s3, .int .u64 s4, .int .u64 s5, .int .u64 s6], .int .u64 num, .int .u64 next, .int .u64 took] w fun e w' => ∃ (q0 q1 q2 q3 q4 q5 q6 : Int), e = .returned (.agg #[.int .i64 q0, .int .u64 q1, .int .u64 q2, .int .u64 q3, .int .u64 q4, .int .u64 q5, .int .u64 q6]) ∧ (q0 = 0 ∨ q0 = 1 ∨ q0 = 2) ∧ W64 q1 ∧ W64 q2 ∧ W64 q3 ∧ W64 q4 ∧ W64 q5 ∧ W64 q6 ∧ Below w.heap.size w w' := by
  have hu27 := Try.underlying27
  have HS := Since.refl w
  go_enter Try.func49, Try.ntmps49
  go_upto_if 20 with (first | ((with_reducible refine gate_dst (N := 4) rfl ?_); refine seg_new rfl (N := 4) rfl [.int .i64 1, .int .u64 s1, .int .u64 s2, .int .u64 s3, .int .u64 s4, .int .u64 s5, .int .u64 s6] 27 ?hr ?_; (case hr => first | (go_simp; done) | (go_simp; rfl) | kernel_rfl); intro g0 hg w1 hn hl; have GEg0 := ge_new HS hg; clear hg; replace HS := HS.below hl; have Bg0 := hn; clear hl hn) | ((with_reducible refine gate_dst (N := 8) rfl ?_); refine seg_new rfl (N := 8) rfl [.int .i64 0, .int .u64 0, .int .u64 0, .int .u64 0, .int .u64 0, .int .u64 0, .int .u64 0] 27 ?hr ?_; (case hr => first | (go_simp; done) | (go_simp; rfl) | kernel_rfl); intro g1 hg w2 hn hl; have Ng1_g0 := ne_new Bg0 hg; have GEg1 := ge_new HS hg; clear hg; replace Bg0 := Bg0.below hl; replace HS := HS.below hl; have Bg1 := hn; clear hl hn) | ((go_at_call 63); (with_reducible refine (over1_0 s1 s2 s3 s4 s5 s6 g0 _ Bg0).mono ?_); rintro e w3 ⟨rfl, hl⟩; replace Bg0 := Bg0.below hl; replace Bg1 := Bg1.below hl; replace HS := HS.below hl; clear hl; have kg0_1 := Bg0.at 1 rfl))
  (try simp only [Act.put, List.setIfInBounds_toArray, List.set_cons_zero, List.set_cons_succ])
  go_cut [] (fun wc => ∃ (t0 t1 t2 t3 t4 t5 t6 : Int), (t0 = 1 ∨ t0 = 2) ∧ W64 t1 ∧ W64 t2 ∧ W64 t3 ∧ W64 t4 ∧ W64 t5 ∧ W64 t6 ∧ Blk wc g0 27 [.int .i64 t0, .int .u64 t1, .int .u64 t2, .int .u64 t3, .int .u64 t4, .int .u64 t5, .int .u64 t6] ∧ Blk wc g1 27 [.int .i64 0, .int .u64 0, .int .u64 0, .int .u64 0, .int .u64 0, .int .u64 0, .int .u64 0] ∧ Since w wc)
  case first =>
    rcases Bool.eq_false_or_eq_true (decide (s1 ≤ num)) with h0 | h0
    · rcases Bool.eq_false_or_eq_true ((uAdd s6 1) == 5) with h1 | h1
      · (try rw [h0])
        clear kg0_1; have kg0_3 := Bg0.at 3 rfl
        go_wp2_with (first | ((with_reducible refine gate_ (.store 23 (.tmp 24) (.tmp 22)) rfl ?_); refine seg_store rfl rfl 23 (.tmp 24) (.tmp 22) rfl g0 2 [.int .u64 s3] [.int .i64 1, .int .u64 s1, .int .u64 s3, .int .u64 s3, .int .u64 s4, .int .u64 s5, .int .u64 s6] (.int .u64 s3) ?hx ?hy rfl Bg0 (by kernel_rfl) (Nat.le_of_ble_eq_true rfl) rfl rfl ?_; (case hx => first | rfl | (go_simp; done) | (go_simp; rfl)); (case hy => first | rfl | (go_simp; done) | (go_simp; rfl)); intro w4 hn hw; replace Bg1 := Bg1.grown hw Ng1_g0; replace HS := HS.grown hw GEg0; replace Bg0 := hn; clear hw; clear kg0_3; clear hn) | ((with_reducible refine gate_ (.store 23 (.tmp 25) (.const (.int .u64 18446744073709551615))) rfl ?_); refine seg_store rfl rfl 23 (.tmp 25) (.const (.int .u64 18446744073709551615)) rfl g0 3 [.int .u64 18446744073709551615] [.int .i64 1, .int .u64 s1, .int .u64 s3, .int .u64 18446744073709551615, .int .u64 s4, .int .u64 s5, .int .u64 s6] (.int .u64 18446744073709551615) ?hx ?hy rfl Bg0 (by kernel_rfl) (Nat.le_of_ble_eq_true rfl) rfl rfl ?_; (case hx => first | rfl | (go_simp; done) | (go_simp; rfl)); (case hy => first | rfl | (go_simp; done) | (go_simp; rfl)); intro w5 hn hw; replace Bg1 := Bg1.grown hw Ng1_g0; replace HS := HS.grown hw GEg0; replace Bg0 := hn; clear hw; clear hn) | ((with_reducible refine gate_ (.store 23 (.tmp 26) (.const (.int .u64 0))) rfl ?_); refine seg_store rfl rfl 23 (.tmp 26) (.const (.int .u64 0)) rfl g0 4 [.int .u64 0] [.int .i64 1, .int .u64 s1, .int .u64 s3, .int .u64 18446744073709551615, .int .u64 0, .int .u64 s5, .int .u64 s6] (.int .u64 0) ?hx ?hy rfl Bg0 (by kernel_rfl) (Nat.le_of_ble_eq_true rfl) rfl rfl ?_; (case hx => first | rfl | (go_simp; done) | (go_simp; rfl)); (case hy => first | rfl | (go_simp; done) | (go_simp; rfl)); intro w6 hn hw; replace Bg1 := Bg1.grown hw Ng1_g0; replace HS := HS.grown hw GEg0; replace Bg0 := hn; clear hw; clear hn) | ((with_reducible refine gate_ (.store 23 (.tmp 27) (.tmp 23)) rfl ?_); refine seg_store rfl rfl 23 (.tmp 27) (.tmp 23) rfl g0 1 [.int .u64 next] [.int .i64 1, .int .u64 next, .int .u64 s3, .int .u64 18446744073709551615, .int .u64 0, .int .u64 s5, .int .u64 s6] (.int .u64 next) ?hx ?hy rfl Bg0 (by kernel_rfl) (Nat.le_of_ble_eq_true rfl) rfl rfl ?_; (case hx => first | rfl | (go_simp; done) | (go_simp; rfl)); (case hy => first | rfl | (go_simp; done) | (go_simp; rfl)); intro w7 hn hw; replace Bg1 := Bg1.grown hw Ng1_g0; replace HS := HS.grown hw GEg0; replace Bg0 := hn; clear hw; have kg0_0 := Bg0.at 0 rfl; have kg0_6 := Bg0.at 6 rfl; clear hn) | ((go_at_call 25); (with_reducible refine (fix_Add.C s6 1 Ws6 (by decide) _).mono ?_); rintro e w8 ⟨rfl, hd⟩; have hl := hd.below; clear hd; replace Bg0 := Bg0.below hl; replace Bg1 := Bg1.below hl; replace HS := HS.below hl; clear hl; clear kg0_0 kg0_6) | ((with_reducible refine gate_ (.store 23 (.tmp 34) (.tmp 33)) rfl ?_); refine seg_store rfl rfl 23 (.tmp 34) (.tmp 33) rfl g0 6 [.int .u64 (uAdd s6 1)] [.int .i64 1, .int .u64 next, .int .u64 s3, .int .u64 18446744073709551615, .int .u64 0, .int .u64 s5, .int .u64 (uAdd s6 1)] (.int .u64 (uAdd s6 1)) ?hx ?hy rfl Bg0 (by kernel_rfl) (Nat.le_of_ble_eq_true rfl) rfl rfl ?_; (case hx => first | rfl | (go_simp; done) | (go_simp; rfl)); (case hy => first | rfl | (go_simp; done) | (go_simp; rfl)); intro w9 hn hw; replace Bg1 := Bg1.grown hw Ng1_g0; replace HS := HS.grown hw GEg0; replace Bg0 := hn; clear hw; have kg0_6 := Bg0.at 6 rfl; clear hn) | ((with_reducible refine gate_ (.store 3 (.tmp 38) (.const (.int .i64 2))) rfl ?_); refine seg_store rfl rfl 3 (.tmp 38) (.const (.int .i64 2)) rfl g0 0 [.int .i64 2] [.int .i64 2, .int .u64 next, .int .u64 s3, .int .u64 18446744073709551615, .int .u64 0, .int .u64 s5, .int .u64 (uAdd s6 1)] (.int .i64 2) ?hx ?hy rfl Bg0 (by kernel_rfl) (Nat.le_of_ble_eq_true rfl) rfl rfl ?_; (case hx => first | rfl | (go_simp; done) | (go_simp; rfl)); (case hy => first | rfl | (go_simp; done) | (go_simp; rfl)); intro w10 hn hw; replace Bg1 := Bg1.grown hw Ng1_g0; replace HS := HS.grown hw GEg0; replace Bg0 := hn; clear hw; clear kg0_6; clear hn))
        all_goals go_meet
        case rel => exact ⟨_, _, _, _, _, _, _, by decide, Wnext, Ws3, (by decide), (by decide), Ws5, (uAdd_w Ws6 (by decide)), Bg0, Bg1, HS⟩
      · (try rw [h0])
        clear kg0_1; have kg0_3 := Bg0.at 3 rfl
        go_wp2_with (first | ((with_reducible refine gate_ (.store 23 (.tmp 24) (.tmp 22)) rfl ?_); refine seg_store rfl rfl 23 (.tmp 24) (.tmp 22) rfl g0 2 [.int .u64 s3] [.int .i64 1, .int .u64 s1, .int .u64 s3, .int .u64 s3, .int .u64 s4, .int .u64 s5, .int .u64 s6] (.int .u64 s3) ?hx ?hy rfl Bg0 (by kernel_rfl) (Nat.le_of_ble_eq_true rfl) rfl rfl ?_; (case hx => first | rfl | (go_simp; done) | (go_simp; rfl)); (case hy => first | rfl | (go_simp; done) | (go_simp; rfl)); intro w4 hn hw; replace Bg1 := Bg1.grown hw Ng1_g0; replace HS := HS.grown hw GEg0; replace Bg0 := hn; clear hw; clear kg0_3; clear hn) | ((with_reducible refine gate_ (.store 23 (.tmp 25) (.const (.int .u64 18446744073709551615))) rfl ?_); refine seg_store rfl rfl 23 (.tmp 25) (.const (.int .u64 18446744073709551615)) rfl g0 3 [.int .u64 18446744073709551615] [.int .i64 1, .int .u64 s1, .int .u64 s3, .int .u64 18446744073709551615, .int .u64 s4, .int .u64 s5, .int .u64 s6] (.int .u64 18446744073709551615) ?hx ?hy rfl Bg0 (by kernel_rfl) (Nat.le_of_ble_eq_true rfl) rfl rfl ?_; (case hx => first | rfl | (go_simp; done) | (go_simp; rfl)); (case hy => first | rfl | (go_simp; done) | (go_simp; rfl)); intro w5 hn hw; replace Bg1 := Bg1.grown hw Ng1_g0; replace HS := HS.grown hw GEg0; replace Bg0 := hn; clear hw; clear hn) | ((with_reducible refine gate_ (.store 23 (.tmp 26) (.const (.int .u64 0))) rfl ?_); refine seg_store rfl rfl 23 (.tmp 26) (.const (.int .u64 0)) rfl g0 4 [.int .u64 0] [.int .i64 1, .int .u64 s1, .int .u64 s3, .int .u64 18446744073709551615, .int .u64 0, .int .u64 s5, .int .u64 s6] (.int .u64 0) ?hx ?hy rfl Bg0 (by kernel_rfl) (Nat.le_of_ble_eq_true rfl) rfl rfl ?_; (case hx => first | rfl | (go_simp; done) | (go_simp; rfl)); (case hy => first | rfl | (go_simp; done) | (go_simp; rfl)); intro w6 hn hw; replace Bg1 := Bg1.grown hw Ng1_g0; replace HS := HS.grown hw GEg0; replace Bg0 := hn; clear hw; clear hn) | ((with_reducible refine gate_ (.store 23 (.tmp 27) (.tmp 23)) rfl ?_); refine seg_store rfl rfl 23 (.tmp 27) (.tmp 23) rfl g0 1 [.int .u64 next] [.int .i64 1, .int .u64 next, .int .u64 s3, .int .u64 18446744073709551615, .int .u64 0, .int .u64 s5, .int .u64 s6] (.int .u64 next) ?hx ?hy rfl Bg0 (by kernel_rfl) (Nat.le_of_ble_eq_true rfl) rfl rfl ?_; (case hx => first | rfl | (go_simp; done) | (go_simp; rfl)); (case hy => first | rfl | (go_simp; done) | (go_simp; rfl)); intro w7 hn hw; replace Bg1 := Bg1.grown hw Ng1_g0; replace HS := HS.grown hw GEg0; replace Bg0 := hn; clear hw; have kg0_0 := Bg0.at 0 rfl; have kg0_6 := Bg0.at 6 rfl; clear hn) | ((go_at_call 25); (with_reducible refine (fix_Add.C s6 1 Ws6 (by decide) _).mono ?_); rintro e w8 ⟨rfl, hd⟩; have hl := hd.below; clear hd; replace Bg0 := Bg0.below hl; replace Bg1 := Bg1.below hl; replace HS := HS.below hl; clear hl; clear kg0_0 kg0_6) | ((with_reducible refine gate_ (.store 23 (.tmp 34) (.tmp 33)) rfl ?_); refine seg_store rfl rfl 23 (.tmp 34) (.tmp 33) rfl g0 6 [.int .u64 (uAdd s6 1)] [.int .i64 1, .int .u64 next, .int .u64 s3, .int .u64 18446744073709551615, .int .u64 0, .int .u64 s5, .int .u64 (uAdd s6 1)] (.int .u64 (uAdd s6 1)) ?hx ?hy rfl Bg0 (by kernel_rfl) (Nat.le_of_ble_eq_true rfl) rfl rfl ?_; (case hx => first | rfl | (go_simp; done) | (go_simp; rfl)); (case hy => first | rfl | (go_simp; done) | (go_simp; rfl)); intro w9 hn hw; replace Bg1 := Bg1.grown hw Ng1_g0; replace HS := HS.grown hw GEg0; replace Bg0 := hn; clear hw; have kg0_6 := Bg0.at 6 rfl; clear hn))
        all_goals go_meet
        case rel => exact ⟨_, _, _, _, _, _, _, by decide, Wnext, Ws3, (by decide), (by decide), Ws5, (uAdd_w Ws6 (by decide)), Bg0, Bg1, HS⟩
    · (try rw [h0])
      clear kg0_1
      go_wp2
      all_goals go_meet
      case rel => exact ⟨_, _, _, _, _, _, _, by decide, Ws1, Ws2, Ws3, Ws4, Ws5, Ws6, Bg0, Bg1, HS⟩
  case rest =>
    clear kg0_1 Bg0 Bg1 HS
    obtain ⟨t0, t1, t2, t3, t4, t5, t6, ht0, Wt1, Wt2, Wt3, Wt4, Wt5, Wt6, Bg0, Bg1, HS⟩ := hcut
    rcases ht0 with rfl | rfl
    · rcases Bool.eq_false_or_eq_true (decide (uAdd t4 1 < 8)) with h0 | h0
      · go_wp2_with (first | ((go_at_call 63); (with_reducible refine (over1_0 t1 t2 t3 t4 t5 t6 g0 _ Bg0).mono ?_); rintro e w61 ⟨rfl, hl⟩; replace Bg0 := Bg0.below hl; replace Bg1 := Bg1.below hl; replace HS := HS.below hl; clear hl; have kg0_3 := Bg0.at 3 rfl; have zg0_3 := Bg0.frozen 3; have kg0_4 := Bg0.at 4 rfl; have zg0_4 := Bg0.frozen 4))
        refine start_ (n := 11) (S := fun w' => w'.cell? ⟨g0, 3, none⟩ = some (.int .u64 t3) ∧ w'.cell? ⟨g0, 4, none⟩ = some (.int .u64 t4)) (ds := [8, 10]) (bs 11 0) (by kernel_rfl) rfl rfl ⟨((Bg0.drew.cell 3).trans rfl), ((Bg0.drew.cell 4).trans rfl)⟩ (fun hHeld => ?_)
        generalize hWd : World.drew w61 = w62 at hHeld ⊢
        have hl : Below w61.heap.size w61 w62 := (by rw [← hWd]; exact below_drew1 (Below.refl _ _))
        clear hWd
        replace Bg0 := Bg0.below hl; replace Bg1 := Bg1.below hl; replace HS := HS.below hl; clear hl; replace kg0_3 := Bg0.at 3 rfl; replace zg0_3 := Bg0.frozen 3; replace kg0_4 := Bg0.at 4 rfl; replace zg0_4 := Bg0.frozen 4
        refine pu 0 42 (.pointer (some ⟨g0, 3, none⟩)) 1 rfl rfl (by kernel_rfl) (fun _ _ _ h => h) (by rfl) (fun _ => by kernel_rfl) rfl ?_
        refine pu 2 44 (.int .u64 took) 5 rfl rfl (by kernel_rfl) (fun _ _ _ h => h) (by rfl) (fun _ => by kernel_rfl) rfl ?_
        refine pu 4 46 (.pointer (some ⟨g0, 4, none⟩)) 21 rfl rfl (by kernel_rfl) (fun _ _ _ h => h) (by rfl) (fun _ => by kernel_rfl) rfl ?_
        refine norm_ (a' := ?_) ?_ ?_
        rotate_left
        · simp only [Act.put, List.setIfInBounds_toArray, List.set_cons_zero, List.set_cons_succ, i64_w, i32_w]
          rfl
        refine take_ (i := 1) (N := some 43) (v := ?_) (a' := ?_) (bs 11 23) rfl rfl (by kernel_rfl) (fun _ _ _ h => h) (Or.inl ⟨by rfl, ?_⟩) hHeld ?_ ?_
        rotate_left
        · rintro w' ⟨s0, s1⟩
          go_simp
          with_reducible rfl
        rotate_left
        · simp only [Act.put, List.setIfInBounds_toArray, List.set_cons_zero, List.set_cons_succ, i64_w, i32_w]
          rfl
        refine pure_ (i := 3) (N := some 45) (v := ?_) (a' := ?_) (bs 11 31) rfl rfl (by kernel_rfl) (fun _ _ _ h => h) (Or.inl ⟨by rfl, ?_⟩) ?_ ?_
        rotate_left
        · intro w'
          go_simp
          with_reducible rfl
        rotate_left
        · simp only [Act.put, List.setIfInBounds_toArray, List.set_cons_zero, List.set_cons_succ, i64_w, i32_w]
          rfl
        refine take_ (i := 5) (N := some 47) (v := ?_) (a' := ?_) (bs 11 63) rfl rfl (by kernel_rfl) (fun _ _ _ h => h) (Or.inl ⟨by rfl, ?_⟩) hHeld ?_ ?_
        rotate_left
        · rintro w' ⟨s0, s1⟩
          go_simp
          with_reducible rfl
        rotate_left
        · simp only [Act.put, List.setIfInBounds_toArray, List.set_cons_zero, List.set_cons_succ, i64_w, i32_w]
          rfl
        refine pu 7 49 (.pointer (some ⟨g0, 3, none⟩)) 191 rfl rfl (by kernel_rfl) (fun _ _ _ h => h) (by rfl) (fun _ => by kernel_rfl) rfl ?_
        refine norm_ (a' := ?_) ?_ ?_
        rotate_left
        · simp only [Act.put, List.setIfInBounds_toArray, List.set_cons_zero, List.set_cons_succ, i64_w, i32_w]
          rfl
        refine one_ (i := 6) (N := some 48) (bs 11 255) rfl rfl (by kernel_rfl) (by decide) (fun K hK => ?_)
        refine goes_ Try.func25 (by kernel_rfl) rfl #[.int .u64 t4, .int .u64 1] (by rfl) rfl rfl (by simp only [List.map_toArray, List.map_cons, List.map_nil]; rfl) ?_
        with_reducible refine (fix_Add.C t4 1 Wt4 (by decide) _).mono ?_
        rintro e w63 ⟨rfl, hd⟩
        refine ⟨_, rfl, ?_⟩
        have hl := hd.below
        clear hd
        replace Bg0 := Bg0.below hl; replace Bg1 := Bg1.below hl; replace HS := HS.below hl; clear hl; replace kg0_3 := Bg0.at 3 rfl; replace zg0_3 := Bg0.frozen 3; replace kg0_4 := Bg0.at 4 rfl; replace zg0_4 := Bg0.frozen 4
        refine hK.out _ _ ⟨((Bg0.cell 3).trans rfl), ((Bg0.cell 4).trans rfl)⟩ (fun hHeld => ?_)
        clear hK K
        refine norm_ (a' := ?_) ?_ ?_
        rotate_left
        · show Act.put _ (some 48) _ = _
          simp only [Act.put, List.setIfInBounds_toArray, List.set_cons_zero, List.set_cons_succ, i64_w, i32_w]
          rfl
        refine last_ (i := 8) (N := none) (bs 11 511) rfl rfl (by kernel_rfl) (by decide) (fun K hK => ?_)
        refine skip_ (w1 := ?_) (by rfl) rfl ?_ ?_
        rotate_left
        · go_simp
          rfl
        refine hK.out _ _ ?_
        clear hK K
        refine pu 9 50 (.pointer (some ⟨g0, 4, none⟩)) 1023 rfl rfl (by kernel_rfl) (fun _ _ _ h => h) (by rfl) (fun _ => by kernel_rfl) rfl ?_
        refine norm_ (a' := ?_) ?_ ?_
        rotate_left
        · simp only [Act.put, List.setIfInBounds_toArray, List.set_cons_zero, List.set_cons_succ, i64_w, i32_w]
          rfl
        refine last_ (i := 10) (N := none) (bs 11 2047) rfl rfl (by kernel_rfl) (by decide) (fun K hK => ?_)
        refine skip_ (w1 := ?_) (by rfl) rfl ?_ ?_
        rotate_left
        · go_simp
          rfl
        refine hK.out _ _ ?_
        clear hK K
        refine done_ (by kernel_rfl) ?_
        refine letter ?_
        intro w64 hW
        have Bn_ : Blk w64 g0 27 [.int .i64 1, .int .u64 t1, .int .u64 t2, .int .u64 (min t3 took), .int .u64 (uAdd t4 1), .int .u64 t5, .int .u64 t6] := (by rw [hW]; (repeat (first | (with_reducible refine Blk.drewN ?_ _) | (with_reducible refine Blk.drew ?_))); refine Blk.set (l := [.int .i64 1, .int .u64 t1, .int .u64 t2, .int .u64 (min t3 took), .int .u64 t4, .int .u64 t5, .int .u64 t6]) ?_ 4 _ rfl; (repeat (first | (with_reducible refine Blk.drewN ?_ _) | (with_reducible refine Blk.drew ?_))); refine Blk.set (l := [.int .i64 1, .int .u64 t1, .int .u64 t2, .int .u64 t3, .int .u64 t4, .int .u64 t5, .int .u64 t6]) ?_ 3 _ rfl; (repeat (first | (with_reducible refine Blk.drewN ?_ _) | (with_reducible refine Blk.drew ?_))); exact Bg0)
        replace Bg0 := Bn_
        clear Bn_
        have Bn_ : Blk w64 g1 27 [.int .i64 0, .int .u64 0, .int .u64 0, .int .u64 0, .int .u64 0, .int .u64 0, .int .u64 0] := (by rw [hW]; (repeat (first | (with_reducible refine Blk.drewN ?_ _) | (with_reducible refine Blk.drew ?_))); refine Blk.setFar ?_ Ng1_g0; (repeat (first | (with_reducible refine Blk.drewN ?_ _) | (with_reducible refine Blk.drew ?_))); refine Blk.setFar ?_ Ng1_g0; (repeat (first | (with_reducible refine Blk.drewN ?_ _) | (with_reducible refine Blk.drew ?_))); exact Bg1)
        replace Bg1 := Bn_
        clear Bn_
        have HS_ : Since w w64 := (by rw [hW]; repeat (first | (with_reducible exact HS) | (with_reducible refine Since.drewN ?_ _) | (with_reducible refine Since.drew ?_) | (with_reducible refine Since.set ?_ GEg0)))
        replace HS := HS_
        clear HS_ hW
        clear kg0_3 zg0_3 zg0_4; replace kg0_4 := Bg0.at 4 rfl
        go_wp2_with (first | ((with_reducible refine gate_dst (N := 64) rfl ?_); refine seg_load rfl (N := 64) rfl 27 (.tmp 4) rfl g0 0 [.int .i64 1, .int .u64 t1, .int .u64 t2, .int .u64 (min t3 took), .int .u64 (uAdd t4 1), .int .u64 t5, .int .u64 t6] ?hx Bg0 rfl Try.underlying27 rfl (by kernel_rfl) ?_; (case hx => first | rfl | (go_simp; done) | (go_simp; rfl))) | ((with_reducible refine gate_ (.store 27 (.tmp 8) (.tmp 64)) rfl ?_); refine seg_store rfl rfl 27 (.tmp 8) (.tmp 64) rfl g1 0 [.int .i64 1, .int .u64 t1, .int .u64 t2, .int .u64 (min t3 took), .int .u64 (uAdd t4 1), .int .u64 t5, .int .u64 t6] [.int .i64 1, .int .u64 t1, .int .u64 t2, .int .u64 (min t3 took), .int .u64 (uAdd t4 1), .int .u64 t5, .int .u64 t6] (.agg #[.int .i64 1, .int .u64 t1, .int .u64 t2, .int .u64 (min t3 took), .int .u64 (uAdd t4 1), .int .u64 t5, .int .u64 t6]) ?hx ?hy rfl Bg1 (by kernel_rfl) (Nat.le_of_ble_eq_true rfl) rfl rfl ?_; (case hx => first | rfl | (go_simp; done) | (go_simp; rfl)); (case hy => first | rfl | (go_simp; done) | (go_simp; rfl)); intro w65 hn hw; replace Bg0 := Bg0.grown hw Ng1_g0.symm; replace HS := HS.grown hw GEg1; replace Bg1 := hn; clear hw; clear kg0_4; clear hn))
        all_goals exact bodyPost_ret (results_cell1 rfl _ _ g1 27 [.int .i64 1, .int .u64 t1, .int .u64 t2, .int .u64 (min t3 took), .int .u64 (uAdd t4 1), .int .u64 t5, .int .u64 t6] _ rfl Bg1 Try.underlying27 rfl (by kernel_rfl)) rfl ⟨_, _, _, _, _, _, _, rfl, by decide, Wt1, Wt2, (min_w Wt3 Wtook), (uAdd_w Wt4 (by decide)), Wt5, Wt6, HS.out⟩
      · rcases Bool.eq_false_or_eq_true ((min t3 took) == 18446744073709551615) with h1 | h1
        · go_wp2_with (first | ((go_at_call 63); (with_reducible refine (over1_0 t1 t2 t3 t4 t5 t6 g0 _ Bg0).mono ?_); rintro e w61 ⟨rfl, hl⟩; replace Bg0 := Bg0.below hl; replace Bg1 := Bg1.below hl; replace HS := HS.below hl; clear hl; have kg0_3 := Bg0.at 3 rfl; have zg0_3 := Bg0.frozen 3; have kg0_4 := Bg0.at 4 rfl; have zg0_4 := Bg0.frozen 4))
          refine start_ (n := 11) (S := fun w' => w'.cell? ⟨g0, 3, none⟩ = some (.int .u64 t3) ∧ w'.cell? ⟨g0, 4, none⟩ = some (.int .u64 t4)) (ds := [8, 10]) (bs 11 0) (by kernel_rfl) rfl rfl ⟨((Bg0.drew.cell 3).trans rfl), ((Bg0.drew.cell 4).trans rfl)⟩ (fun hHeld => ?_)
          generalize hWd : World.drew w61 = w62 at hHeld ⊢
          have hl : Below w61.heap.size w61 w62 := (by rw [← hWd]; exact below_drew1 (Below.refl _ _))
          clear hWd
          replace Bg0 := Bg0.below hl; replace Bg1 := Bg1.below hl; replace HS := HS.below hl; clear hl; replace kg0_3 := Bg0.at 3 rfl; replace zg0_3 := Bg0.frozen 3; replace kg0_4 := Bg0.at 4 rfl; replace zg0_4 := Bg0.frozen 4
          refine pu 0 42 (.pointer (some ⟨g0, 3, none⟩)) 1 rfl rfl (by kernel_rfl) (fun _ _ _ h => h) (by rfl) (fun _ => by kernel_rfl) rfl ?_
          refine pu 2 44 (.int .u64 took) 5 rfl rfl (by kernel_rfl) (fun _ _ _ h => h) (by rfl) (fun _ => by kernel_rfl) rfl ?_
          refine pu 4 46 (.pointer (some ⟨g0, 4, none⟩)) 21 rfl rfl (by kernel_rfl) (fun _ _ _ h => h) (by rfl) (fun _ => by kernel_rfl) rfl ?_
          refine norm_ (a' := ?_) ?_ ?_
          rotate_left
          · simp only [Act.put, List.setIfInBounds_toArray, List.set_cons_zero, List.set_cons_succ, i64_w, i32_w]
            rfl
          refine take_ (i := 1) (N := some 43) (v := ?_) (a' := ?_) (bs 11 23) rfl rfl (by kernel_rfl) (fun _ _ _ h => h) (Or.inl ⟨by rfl, ?_⟩) hHeld ?_ ?_
          rotate_left
          · rintro w' ⟨s0, s1⟩
            go_simp
            with_reducible rfl
          rotate_left
          · simp only [Act.put, List.setIfInBounds_toArray, List.set_cons_zero, List.set_cons_succ, i64_w, i32_w]
            rfl
          refine pure_ (i := 3) (N := some 45) (v := ?_) (a' := ?_) (bs 11 31) rfl rfl (by kernel_rfl) (fun _ _ _ h => h) (Or.inl ⟨by rfl, ?_⟩) ?_ ?_
          rotate_left
          · intro w'
            go_simp
            with_reducible rfl
          rotate_left
          · simp only [Act.put, List.setIfInBounds_toArray, List.set_cons_zero, List.set_cons_succ, i64_w, i32_w]
            rfl
          refine take_ (i := 5) (N := some 47) (v := ?_) (a' := ?_) (bs 11 63) rfl rfl (by kernel_rfl) (fun _ _ _ h => h) (Or.inl ⟨by rfl, ?_⟩) hHeld ?_ ?_
          rotate_left
          · rintro w' ⟨s0, s1⟩
            go_simp
            with_reducible rfl
          rotate_left
          · simp only [Act.put, List.setIfInBounds_toArray, List.set_cons_zero, List.set_cons_succ, i64_w, i32_w]
            rfl
          refine pu 7 49 (.pointer (some ⟨g0, 3, none⟩)) 191 rfl rfl (by kernel_rfl) (fun _ _ _ h => h) (by rfl) (fun _ => by kernel_rfl) rfl ?_
          refine norm_ (a' := ?_) ?_ ?_
          rotate_left
          · simp only [Act.put, List.setIfInBounds_toArray, List.set_cons_zero, List.set_cons_succ, i64_w, i32_w]
            rfl
          refine one_ (i := 6) (N := some 48) (bs 11 255) rfl rfl (by kernel_rfl) (by decide) (fun K hK => ?_)
          refine goes_ Try.func25 (by kernel_rfl) rfl #[.int .u64 t4, .int .u64 1] (by rfl) rfl rfl (by simp only [List.map_toArray, List.map_cons, List.map_nil]; rfl) ?_
          with_reducible refine (fix_Add.C t4 1 Wt4 (by decide) _).mono ?_
          rintro e w63 ⟨rfl, hd⟩
          refine ⟨_, rfl, ?_⟩
          have hl := hd.below
          clear hd
          replace Bg0 := Bg0.below hl; replace Bg1 := Bg1.below hl; replace HS := HS.below hl; clear hl; replace kg0_3 := Bg0.at 3 rfl; replace zg0_3 := Bg0.frozen 3; replace kg0_4 := Bg0.at 4 rfl; replace zg0_4 := Bg0.frozen 4
          refine hK.out _ _ ⟨((Bg0.cell 3).trans rfl), ((Bg0.cell 4).trans rfl)⟩ (fun hHeld => ?_)
          clear hK K
          refine norm_ (a' := ?_) ?_ ?_
          rotate_left
          · show Act.put _ (some 48) _ = _
            simp only [Act.put, List.setIfInBounds_toArray, List.set_cons_zero, List.set_cons_succ, i64_w, i32_w]
            rfl
          refine last_ (i := 8) (N := none) (bs 11 511) rfl rfl (by kernel_rfl) (by decide) (fun K hK => ?_)
          refine skip_ (w1 := ?_) (by rfl) rfl ?_ ?_
          rotate_left
          · go_simp
            rfl
          refine hK.out _ _ ?_
          clear hK K
          refine pu 9 50 (.pointer (some ⟨g0, 4, none⟩)) 1023 rfl rfl (by kernel_rfl) (fun _ _ _ h => h) (by rfl) (fun _ => by kernel_rfl) rfl ?_
          refine norm_ (a' := ?_) ?_ ?_
          rotate_left
          · simp only [Act.put, List.setIfInBounds_toArray, List.set_cons_zero, List.set_cons_succ, i64_w, i32_w]
            rfl
          refine last_ (i := 10) (N := none) (bs 11 2047) rfl rfl (by kernel_rfl) (by decide) (fun K hK => ?_)
          refine skip_ (w1 := ?_) (by rfl) rfl ?_ ?_
          rotate_left
          · go_simp
            rfl
          refine hK.out _ _ ?_
          clear hK K
          refine done_ (by kernel_rfl) ?_
          refine letter ?_
          intro w64 hW
          have Bn_ : Blk w64 g0 27 [.int .i64 1, .int .u64 t1, .int .u64 t2, .int .u64 (min t3 took), .int .u64 (uAdd t4 1), .int .u64 t5, .int .u64 t6] := (by rw [hW]; (repeat (first | (with_reducible refine Blk.drewN ?_ _) | (with_reducible refine Blk.drew ?_))); refine Blk.set (l := [.int .i64 1, .int .u64 t1, .int .u64 t2, .int .u64 (min t3 took), .int .u64 t4, .int .u64 t5, .int .u64 t6]) ?_ 4 _ rfl; (repeat (first | (with_reducible refine Blk.drewN ?_ _) | (with_reducible refine Blk.drew ?_))); refine Blk.set (l := [.int .i64 1, .int .u64 t1, .int .u64 t2, .int .u64 t3, .int .u64 t4, .int .u64 t5, .int .u64 t6]) ?_ 3 _ rfl; (repeat (first | (with_reducible refine Blk.drewN ?_ _) | (with_reducible refine Blk.drew ?_))); exact Bg0)
          replace Bg0 := Bn_
          clear Bn_
          have Bn_ : Blk w64 g1 27 [.int .i64 0, .int .u64 0, .int .u64 0, .int .u64 0, .int .u64 0, .int .u64 0, .int .u64 0] := (by rw [hW]; (repeat (first | (with_reducible refine Blk.drewN ?_ _) | (with_reducible refine Blk.drew ?_))); refine Blk.setFar ?_ Ng1_g0; (repeat (first | (with_reducible refine Blk.drewN ?_ _) | (with_reducible refine Blk.drew ?_))); refine Blk.setFar ?_ Ng1_g0; (repeat (first | (with_reducible refine Blk.drewN ?_ _) | (with_reducible refine Blk.drew ?_))); exact Bg1)
          replace Bg1 := Bn_
          clear Bn_
          have HS_ : Since w w64 := (by rw [hW]; repeat (first | (with_reducible exact HS) | (with_reducible refine Since.drewN ?_ _) | (with_reducible refine Since.drew ?_) | (with_reducible refine Since.set ?_ GEg0)))
          replace HS := HS_
          clear HS_ hW
          clear zg0_3 zg0_4; replace kg0_3 := Bg0.at 3 rfl; replace kg0_4 := Bg0.at 4 rfl
          go_wp2_with (first | ((with_reducible refine gate_dst (N := 64) rfl ?_); refine seg_load rfl (N := 64) rfl 27 (.tmp 4) rfl g0 0 [.int .i64 1, .int .u64 t1, .int .u64 t2, .int .u64 (min t3 took), .int .u64 (uAdd t4 1), .int .u64 t5, .int .u64 t6] ?hx Bg0 rfl Try.underlying27 rfl (by kernel_rfl) ?_; (case hx => first | rfl | (go_simp; done) | (go_simp; rfl))) | ((with_reducible refine gate_ (.store 27 (.tmp 8) (.tmp 64)) rfl ?_); refine seg_store rfl rfl 27 (.tmp 8) (.tmp 64) rfl g1 0 [.int .i64 1, .int .u64 t1, .int .u64 t2, .int .u64 (min t3 took), .int .u64 (uAdd t4 1), .int .u64 t5, .int .u64 t6] [.int .i64 1, .int .u64 t1, .int .u64 t2, .int .u64 (min t3 took), .int .u64 (uAdd t4 1), .int .u64 t5, .int .u64 t6] (.agg #[.int .i64 1, .int .u64 t1, .int .u64 t2, .int .u64 (min t3 took), .int .u64 (uAdd t4 1), .int .u64 t5, .int .u64 t6]) ?hx ?hy rfl Bg1 (by kernel_rfl) (Nat.le_of_ble_eq_true rfl) rfl rfl ?_; (case hx => first | rfl | (go_simp; done) | (go_simp; rfl)); (case hy => first | rfl | (go_simp; done) | (go_simp; rfl)); intro w65 hn hw; replace Bg0 := Bg0.grown hw Ng1_g0.symm; replace HS := HS.grown hw GEg1; replace Bg1 := hn; clear hw; clear kg0_3 kg0_4; clear hn))
          all_goals exact bodyPost_ret (results_cell1 rfl _ _ g1 27 [.int .i64 1, .int .u64 t1, .int .u64 t2, .int .u64 (min t3 took), .int .u64 (uAdd t4 1), .int .u64 t5, .int .u64 t6] _ rfl Bg1 Try.underlying27 rfl (by kernel_rfl)) rfl ⟨_, _, _, _, _, _, _, rfl, by decide, Wt1, Wt2, (min_w Wt3 Wtook), (uAdd_w Wt4 (by decide)), Wt5, Wt6, HS.out⟩
        · rcases Bool.eq_false_or_eq_true (t2 == 18446744073709551615) with h2 | h2
          · go_wp2_with (first | ((go_at_call 63); (with_reducible refine (over1_0 t1 t2 t3 t4 t5 t6 g0 _ Bg0).mono ?_); rintro e w61 ⟨rfl, hl⟩; replace Bg0 := Bg0.below hl; replace Bg1 := Bg1.below hl; replace HS := HS.below hl; clear hl; have kg0_3 := Bg0.at 3 rfl; have zg0_3 := Bg0.frozen 3; have kg0_4 := Bg0.at 4 rfl; have zg0_4 := Bg0.frozen 4))
            refine start_ (n := 11) (S := fun w' => w'.cell? ⟨g0, 3, none⟩ = some (.int .u64 t3) ∧ w'.cell? ⟨g0, 4, none⟩ = some (.int .u64 t4)) (ds := [8, 10]) (bs 11 0) (by kernel_rfl) rfl rfl ⟨((Bg0.drew.cell 3).trans rfl), ((Bg0.drew.cell 4).trans rfl)⟩ (fun hHeld => ?_)
            generalize hWd : World.drew w61 = w62 at hHeld ⊢
            have hl : Below w61.heap.size w61 w62 := (by rw [← hWd]; exact below_drew1 (Below.refl _ _))
            clear hWd
            replace Bg0 := Bg0.below hl; replace Bg1 := Bg1.below hl; replace HS := HS.below hl; clear hl; replace kg0_3 := Bg0.at 3 rfl; replace zg0_3 := Bg0.frozen 3; replace kg0_4 := Bg0.at 4 rfl; replace zg0_4 := Bg0.frozen 4
            refine pu 0 42 (.pointer (some ⟨g0, 3, none⟩)) 1 rfl rfl (by kernel_rfl) (fun _ _ _ h => h) (by rfl) (fun _ => by kernel_rfl) rfl ?_
            refine pu 2 44 (.int .u64 took) 5 rfl rfl (by kernel_rfl) (fun _ _ _ h => h) (by rfl) (fun _ => by kernel_rfl) rfl ?_
            refine pu 4 46 (.pointer (some ⟨g0, 4, none⟩)) 21 rfl rfl (by kernel_rfl) (fun _ _ _ h => h) (by rfl) (fun _ => by kernel_rfl) rfl ?_
            refine norm_ (a' := ?_) ?_ ?_
            rotate_left
            · simp only [Act.put, List.setIfInBounds_toArray, List.set_cons_zero, List.set_cons_succ, i64_w, i32_w]
              rfl
            refine take_ (i := 1) (N := some 43) (v := ?_) (a' := ?_) (bs 11 23) rfl rfl (by kernel_rfl) (fun _ _ _ h => h) (Or.inl ⟨by rfl, ?_⟩) hHeld ?_ ?_
            rotate_left
            · rintro w' ⟨s0, s1⟩
              go_simp
              with_reducible rfl
            rotate_left
            · simp only [Act.put, List.setIfInBounds_toArray, List.set_cons_zero, List.set_cons_succ, i64_w, i32_w]
              rfl
            refine pure_ (i := 3) (N := some 45) (v := ?_) (a' := ?_) (bs 11 31) rfl rfl (by kernel_rfl) (fun _ _ _ h => h) (Or.inl ⟨by rfl, ?_⟩) ?_ ?_
            rotate_left
            · intro w'
              go_simp
              with_reducible rfl
            rotate_left
            · simp only [Act.put, List.setIfInBounds_toArray, List.set_cons_zero, List.set_cons_succ, i64_w, i32_w]
              rfl
            refine take_ (i := 5) (N := some 47) (v := ?_) (a' := ?_) (bs 11 63) rfl rfl (by kernel_rfl) (fun _ _ _ h => h) (Or.inl ⟨by rfl, ?_⟩) hHeld ?_ ?_
            rotate_left
            · rintro w' ⟨s0, s1⟩
              go_simp
              with_reducible rfl
            rotate_left
            · simp only [Act.put, List.setIfInBounds_toArray, List.set_cons_zero, List.set_cons_succ, i64_w, i32_w]
              rfl
            refine pu 7 49 (.pointer (some ⟨g0, 3, none⟩)) 191 rfl rfl (by kernel_rfl) (fun _ _ _ h => h) (by rfl) (fun _ => by kernel_rfl) rfl ?_
            refine norm_ (a' := ?_) ?_ ?_
            rotate_left
            · simp only [Act.put, List.setIfInBounds_toArray, List.set_cons_zero, List.set_cons_succ, i64_w, i32_w]
              rfl
            refine one_ (i := 6) (N := some 48) (bs 11 255) rfl rfl (by kernel_rfl) (by decide) (fun K hK => ?_)
            refine goes_ Try.func25 (by kernel_rfl) rfl #[.int .u64 t4, .int .u64 1] (by rfl) rfl rfl (by simp only [List.map_toArray, List.map_cons, List.map_nil]; rfl) ?_
            with_reducible refine (fix_Add.C t4 1 Wt4 (by decide) _).mono ?_
            rintro e w63 ⟨rfl, hd⟩
            refine ⟨_, rfl, ?_⟩
            have hl := hd.below
            clear hd
            replace Bg0 := Bg0.below hl; replace Bg1 := Bg1.below hl; replace HS := HS.below hl; clear hl; replace kg0_3 := Bg0.at 3 rfl; replace zg0_3 := Bg0.frozen 3; replace kg0_4 := Bg0.at 4 rfl; replace zg0_4 := Bg0.frozen 4
            refine hK.out _ _ ⟨((Bg0.cell 3).trans rfl), ((Bg0.cell 4).trans rfl)⟩ (fun hHeld => ?_)
            clear hK K
            refine norm_ (a' := ?_) ?_ ?_
            rotate_left
            · show Act.put _ (some 48) _ = _
              simp only [Act.put, List.setIfInBounds_toArray, List.set_cons_zero, List.set_cons_succ, i64_w, i32_w]
              rfl
            refine last_ (i := 8) (N := none) (bs 11 511) rfl rfl (by kernel_rfl) (by decide) (fun K hK => ?_)
            refine skip_ (w1 := ?_) (by rfl) rfl ?_ ?_
            rotate_left
            · go_simp
              rfl
            refine hK.out _ _ ?_
            clear hK K
            refine pu 9 50 (.pointer (some ⟨g0, 4, none⟩)) 1023 rfl rfl (by kernel_rfl) (fun _ _ _ h => h) (by rfl) (fun _ => by kernel_rfl) rfl ?_
            refine norm_ (a' := ?_) ?_ ?_
            rotate_left
            · simp only [Act.put, List.setIfInBounds_toArray, List.set_cons_zero, List.set_cons_succ, i64_w, i32_w]
              rfl
            refine last_ (i := 10) (N := none) (bs 11 2047) rfl rfl (by kernel_rfl) (by decide) (fun K hK => ?_)
            refine skip_ (w1 := ?_) (by rfl) rfl ?_ ?_
            rotate_left
            · go_simp
              rfl
            refine hK.out _ _ ?_
            clear hK K
            refine done_ (by kernel_rfl) ?_
            refine letter ?_
            intro w64 hW
            have Bn_ : Blk w64 g0 27 [.int .i64 1, .int .u64 t1, .int .u64 t2, .int .u64 (min t3 took), .int .u64 (uAdd t4 1), .int .u64 t5, .int .u64 t6] := (by rw [hW]; (repeat (first | (with_reducible refine Blk.drewN ?_ _) | (with_reducible refine Blk.drew ?_))); refine Blk.set (l := [.int .i64 1, .int .u64 t1, .int .u64 t2, .int .u64 (min t3 took), .int .u64 t4, .int .u64 t5, .int .u64 t6]) ?_ 4 _ rfl; (repeat (first | (with_reducible refine Blk.drewN ?_ _) | (with_reducible refine Blk.drew ?_))); refine Blk.set (l := [.int .i64 1, .int .u64 t1, .int .u64 t2, .int .u64 t3, .int .u64 t4, .int .u64 t5, .int .u64 t6]) ?_ 3 _ rfl; (repeat (first | (with_reducible refine Blk.drewN ?_ _) | (with_reducible refine Blk.drew ?_))); exact Bg0)
            replace Bg0 := Bn_
            clear Bn_
            have Bn_ : Blk w64 g1 27 [.int .i64 0, .int .u64 0, .int .u64 0, .int .u64 0, .int .u64 0, .int .u64 0, .int .u64 0] := (by rw [hW]; (repeat (first | (with_reducible refine Blk.drewN ?_ _) | (with_reducible refine Blk.drew ?_))); refine Blk.setFar ?_ Ng1_g0; (repeat (first | (with_reducible refine Blk.drewN ?_ _) | (with_reducible refine Blk.drew ?_))); refine Blk.setFar ?_ Ng1_g0; (repeat (first | (with_reducible refine Blk.drewN ?_ _) | (with_reducible refine Blk.drew ?_))); exact Bg1)
            replace Bg1 := Bn_
            clear Bn_
            have HS_ : Since w w64 := (by rw [hW]; repeat (first | (with_reducible exact HS) | (with_reducible refine Since.drewN ?_ _) | (with_reducible refine Since.drew ?_) | (with_reducible refine Since.set ?_ GEg0)))
            replace HS := HS_
            clear HS_ hW
            clear zg0_3 zg0_4; have kg0_2 := Bg0.at 2 rfl; replace kg0_3 := Bg0.at 3 rfl; replace kg0_4 := Bg0.at 4 rfl
            go_wp2_with (first | ((with_reducible refine gate_dst (N := 64) rfl ?_); refine seg_load rfl (N := 64) rfl 27 (.tmp 4) rfl g0 0 [.int .i64 1, .int .u64 t1, .int .u64 t2, .int .u64 (min t3 took), .int .u64 (uAdd t4 1), .int .u64 t5, .int .u64 t6] ?hx Bg0 rfl Try.underlying27 rfl (by kernel_rfl) ?_; (case hx => first | rfl | (go_simp; done) | (go_simp; rfl))) | ((with_reducible refine gate_ (.store 27 (.tmp 8) (.tmp 64)) rfl ?_); refine seg_store rfl rfl 27 (.tmp 8) (.tmp 64) rfl g1 0 [.int .i64 1, .int .u64 t1, .int .u64 t2, .int .u64 (min t3 took), .int .u64 (uAdd t4 1), .int .u64 t5, .int .u64 t6] [.int .i64 1, .int .u64 t1, .int .u64 t2, .int .u64 (min t3 took), .int .u64 (uAdd t4 1), .int .u64 t5, .int .u64 t6] (.agg #[.int .i64 1, .int .u64 t1, .int .u64 t2, .int .u64 (min t3 took), .int .u64 (uAdd t4 1), .int .u64 t5, .int .u64 t6]) ?hx ?hy rfl Bg1 (by kernel_rfl) (Nat.le_of_ble_eq_true rfl) rfl rfl ?_; (case hx => first | rfl | (go_simp; done) | (go_simp; rfl)); (case hy => first | rfl | (go_simp; done) | (go_simp; rfl)); intro w65 hn hw; replace Bg0 := Bg0.grown hw Ng1_g0.symm; replace HS := HS.grown hw GEg1; replace Bg1 := hn; clear hw; clear kg0_2 kg0_3 kg0_4; clear hn))
            all_goals exact bodyPost_ret (results_cell1 rfl _ _ g1 27 [.int .i64 1, .int .u64 t1, .int .u64 t2, .int .u64 (min t3 took), .int .u64 (uAdd t4 1), .int .u64 t5, .int .u64 t6] _ rfl Bg1 Try.underlying27 rfl (by kernel_rfl)) rfl ⟨_, _, _, _, _, _, _, rfl, by decide, Wt1, Wt2, (min_w Wt3 Wtook), (uAdd_w Wt4 (by decide)), Wt5, Wt6, HS.out⟩
          · rcases Bool.eq_false_or_eq_true (decide (min t3 took < t5)) with h3 | h3
            · have q0 : IntKind.u64.wrap (Int.tdiv t2 8) = t2 / 8 := wdiv Wt2 8 (by decide)
              go_wp2_with (first | ((go_at_call 63); (with_reducible refine (over1_0 t1 t2 t3 t4 t5 t6 g0 _ Bg0).mono ?_); rintro e w61 ⟨rfl, hl⟩; replace Bg0 := Bg0.below hl; replace Bg1 := Bg1.below hl; replace HS := HS.below hl; clear hl; have kg0_3 := Bg0.at 3 rfl; have zg0_3 := Bg0.frozen 3; have kg0_4 := Bg0.at 4 rfl; have zg0_4 := Bg0.frozen 4))
              refine start_ (n := 11) (S := fun w' => w'.cell? ⟨g0, 3, none⟩ = some (.int .u64 t3) ∧ w'.cell? ⟨g0, 4, none⟩ = some (.int .u64 t4)) (ds := [8, 10]) (bs 11 0) (by kernel_rfl) rfl rfl ⟨((Bg0.drew.cell 3).trans rfl), ((Bg0.drew.cell 4).trans rfl)⟩ (fun hHeld => ?_)
              generalize hWd : World.drew w61 = w62 at hHeld ⊢
              have hl : Below w61.heap.size w61 w62 := (by rw [← hWd]; exact below_drew1 (Below.refl _ _))
              clear hWd
              replace Bg0 := Bg0.below hl; replace Bg1 := Bg1.below hl; replace HS := HS.below hl; clear hl; replace kg0_3 := Bg0.at 3 rfl; replace zg0_3 := Bg0.frozen 3; replace kg0_4 := Bg0.at 4 rfl; replace zg0_4 := Bg0.frozen 4
              refine pu 0 42 (.pointer (some ⟨g0, 3, none⟩)) 1 rfl rfl (by kernel_rfl) (fun _ _ _ h => h) (by rfl) (fun _ => by kernel_rfl) rfl ?_
              refine pu 2 44 (.int .u64 took) 5 rfl rfl (by kernel_rfl) (fun _ _ _ h => h) (by rfl) (fun _ => by kernel_rfl) rfl ?_
              refine pu 4 46 (.pointer (some ⟨g0, 4, none⟩)) 21 rfl rfl (by kernel_rfl) (fun _ _ _ h => h) (by rfl) (fun _ => by kernel_rfl) rfl ?_
              refine norm_ (a' := ?_) ?_ ?_
              rotate_left
              · simp only [Act.put, List.setIfInBounds_toArray, List.set_cons_zero, List.set_cons_succ, i64_w, i32_w]
                rfl
              refine take_ (i := 1) (N := some 43) (v := ?_) (a' := ?_) (bs 11 23) rfl rfl (by kernel_rfl) (fun _ _ _ h => h) (Or.inl ⟨by rfl, ?_⟩) hHeld ?_ ?_
              rotate_left
              · rintro w' ⟨s0, s1⟩
                go_simp
                with_reducible rfl
              rotate_left
              · simp only [Act.put, List.setIfInBounds_toArray, List.set_cons_zero, List.set_cons_succ, i64_w, i32_w]
                rfl
              refine pure_ (i := 3) (N := some 45) (v := ?_) (a' := ?_) (bs 11 31) rfl rfl (by kernel_rfl) (fun _ _ _ h => h) (Or.inl ⟨by rfl, ?_⟩) ?_ ?_
              rotate_left
              · intro w'
                go_simp
                with_reducible rfl
              rotate_left
              · simp only [Act.put, List.setIfInBounds_toArray, List.set_cons_zero, List.set_cons_succ, i64_w, i32_w]
                rfl
              refine take_ (i := 5) (N := some 47) (v := ?_) (a' := ?_) (bs 11 63) rfl rfl (by kernel_rfl) (fun _ _ _ h => h) (Or.inl ⟨by rfl, ?_⟩) hHeld ?_ ?_
              rotate_left
              · rintro w' ⟨s0, s1⟩
                go_simp
                with_reducible rfl
              rotate_left
              · simp only [Act.put, List.setIfInBounds_toArray, List.set_cons_zero, List.set_cons_succ, i64_w, i32_w]
                rfl
              refine pu 7 49 (.pointer (some ⟨g0, 3, none⟩)) 191 rfl rfl (by kernel_rfl) (fun _ _ _ h => h) (by rfl) (fun _ => by kernel_rfl) rfl ?_
              refine norm_ (a' := ?_) ?_ ?_
              rotate_left
              · simp only [Act.put, List.setIfInBounds_toArray, List.set_cons_zero, List.set_cons_succ, i64_w, i32_w]
                rfl
              refine one_ (i := 6) (N := some 48) (bs 11 255) rfl rfl (by kernel_rfl) (by decide) (fun K hK => ?_)
              refine goes_ Try.func25 (by kernel_rfl) rfl #[.int .u64 t4, .int .u64 1] (by rfl) rfl rfl (by simp only [List.map_toArray, List.map_cons, List.map_nil]; rfl) ?_
              with_reducible refine (fix_Add.C t4 1 Wt4 (by decide) _).mono ?_
              rintro e w63 ⟨rfl, hd⟩
              refine ⟨_, rfl, ?_⟩
              have hl := hd.below
              clear hd
              replace Bg0 := Bg0.below hl; replace Bg1 := Bg1.below hl; replace HS := HS.below hl; clear hl; replace kg0_3 := Bg0.at 3 rfl; replace zg0_3 := Bg0.frozen 3; replace kg0_4 := Bg0.at 4 rfl; replace zg0_4 := Bg0.frozen 4
              refine hK.out _ _ ⟨((Bg0.cell 3).trans rfl), ((Bg0.cell 4).trans rfl)⟩ (fun hHeld => ?_)
              clear hK K
              refine norm_ (a' := ?_) ?_ ?_
              rotate_left
              · show Act.put _ (some 48) _ = _
                simp only [Act.put, List.setIfInBounds_toArray, List.set_cons_zero, List.set_cons_succ, i64_w, i32_w]
                rfl
              refine last_ (i := 8) (N := none) (bs 11 511) rfl rfl (by kernel_rfl) (by decide) (fun K hK => ?_)
              refine skip_ (w1 := ?_) (by rfl) rfl ?_ ?_
              rotate_left
              · go_simp
                rfl
              refine hK.out _ _ ?_
              clear hK K
              refine pu 9 50 (.pointer (some ⟨g0, 4, none⟩)) 1023 rfl rfl (by kernel_rfl) (fun _ _ _ h => h) (by rfl) (fun _ => by kernel_rfl) rfl ?_
              refine norm_ (a' := ?_) ?_ ?_
              rotate_left
              · simp only [Act.put, List.setIfInBounds_toArray, List.set_cons_zero, List.set_cons_succ, i64_w, i32_w]
                rfl
              refine last_ (i := 10) (N := none) (bs 11 2047) rfl rfl (by kernel_rfl) (by decide) (fun K hK => ?_)
              refine skip_ (w1 := ?_) (by rfl) rfl ?_ ?_
              rotate_left
              · go_simp
                rfl
              refine hK.out _ _ ?_
              clear hK K
              refine done_ (by kernel_rfl) ?_
              refine letter ?_
              intro w64 hW
              have Bn_ : Blk w64 g0 27 [.int .i64 1, .int .u64 t1, .int .u64 t2, .int .u64 (min t3 took), .int .u64 (uAdd t4 1), .int .u64 t5, .int .u64 t6] := (by rw [hW]; (repeat (first | (with_reducible refine Blk.drewN ?_ _) | (with_reducible refine Blk.drew ?_))); refine Blk.set (l := [.int .i64 1, .int .u64 t1, .int .u64 t2, .int .u64 (min t3 took), .int .u64 t4, .int .u64 t5, .int .u64 t6]) ?_ 4 _ rfl; (repeat (first | (with_reducible refine Blk.drewN ?_ _) | (with_reducible refine Blk.drew ?_))); refine Blk.set (l := [.int .i64 1, .int .u64 t1, .int .u64 t2, .int .u64 t3, .int .u64 t4, .int .u64 t5, .int .u64 t6]) ?_ 3 _ rfl; (repeat (first | (with_reducible refine Blk.drewN ?_ _) | (with_reducible refine Blk.drew ?_))); exact Bg0)
              replace Bg0 := Bn_
              clear Bn_
              have Bn_ : Blk w64 g1 27 [.int .i64 0, .int .u64 0, .int .u64 0, .int .u64 0, .int .u64 0, .int .u64 0, .int .u64 0] := (by rw [hW]; (repeat (first | (with_reducible refine Blk.drewN ?_ _) | (with_reducible refine Blk.drew ?_))); refine Blk.setFar ?_ Ng1_g0; (repeat (first | (with_reducible refine Blk.drewN ?_ _) | (with_reducible refine Blk.drew ?_))); refine Blk.setFar ?_ Ng1_g0; (repeat (first | (with_reducible refine Blk.drewN ?_ _) | (with_reducible refine Blk.drew ?_))); exact Bg1)
              replace Bg1 := Bn_
              clear Bn_
              have HS_ : Since w w64 := (by rw [hW]; repeat (first | (with_reducible exact HS) | (with_reducible refine Since.drewN ?_ _) | (with_reducible refine Since.drew ?_) | (with_reducible refine Since.set ?_ GEg0)))
              replace HS := HS_
              clear HS_ hW
              clear zg0_3 zg0_4; have kg0_0 := Bg0.at 0 rfl; have kg0_2 := Bg0.at 2 rfl; replace kg0_3 := Bg0.at 3 rfl; replace kg0_4 := Bg0.at 4 rfl
              go_wp2
              all_goals go_quiet (fail)
              all_goals (generalize hW : World.drewN w64 _ = w65; have hl : Below w64.heap.size w64 w65 := (by rw [← hW]; exact pw_below_drewN (Below.refl _ _) _); clear hW; replace Bg0 := Bg0.below hl; replace Bg1 := Bg1.below hl; replace HS := HS.below hl; clear hl; clear kg0_2 kg0_4; replace kg0_0 := Bg0.at 0 rfl; replace kg0_3 := Bg0.at 3 rfl; have kg0_5 := Bg0.at 5 rfl)
              go_wp2_with (first | ((with_reducible refine gate_ (.store 3 (.tmp 99) (.const (.int .i64 0))) rfl ?_); refine seg_store rfl rfl 3 (.tmp 99) (.const (.int .i64 0)) rfl g0 0 [.int .i64 0] [.int .i64 0, .int .u64 t1, .int .u64 t2, .int .u64 (min t3 took), .int .u64 (uAdd t4 1), .int .u64 t5, .int .u64 t6] (.int .i64 0) ?hx ?hy rfl Bg0 (by kernel_rfl) (Nat.le_of_ble_eq_true rfl) rfl rfl ?_; (case hx => first | rfl | (go_simp; done) | (go_simp; rfl)); (case hy => first | rfl | (go_simp; done) | (go_simp; rfl)); intro w66 hn hw; replace Bg1 := Bg1.grown hw Ng1_g0; replace HS := HS.grown hw GEg0; replace Bg0 := hn; clear hw; clear kg0_0 kg0_3 kg0_5; clear hn) | ((with_reducible refine gate_ (.store 23 (.tmp 100) (.const (.int .u64 18446744073709551615))) rfl ?_); refine seg_store rfl rfl 23 (.tmp 100) (.const (.int .u64 18446744073709551615)) rfl g0 5 [.int .u64 18446744073709551615] [.int .i64 0, .int .u64 t1, .int .u64 t2, .int .u64 (min t3 took), .int .u64 (uAdd t4 1), .int .u64 18446744073709551615, .int .u64 t6] (.int .u64 18446744073709551615) ?hx ?hy rfl Bg0 (by kernel_rfl) (Nat.le_of_ble_eq_true rfl) rfl rfl ?_; (case hx => first | rfl | (go_simp; done) | (go_simp; rfl)); (case hy => first | rfl | (go_simp; done) | (go_simp; rfl)); intro w67 hn hw; replace Bg1 := Bg1.grown hw Ng1_g0; replace HS := HS.grown hw GEg0; replace Bg0 := hn; clear hw; clear hn) | ((with_reducible refine gate_dst (N := 101) rfl ?_); refine seg_load rfl (N := 101) rfl 27 (.tmp 4) rfl g0 0 [.int .i64 0, .int .u64 t1, .int .u64 t2, .int .u64 (min t3 took), .int .u64 (uAdd t4 1), .int .u64 18446744073709551615, .int .u64 t6] ?hx Bg0 rfl Try.underlying27 rfl (by kernel_rfl) ?_; (case hx => first | rfl | (go_simp; done) | (go_simp; rfl))) | ((with_reducible refine gate_ (.store 27 (.tmp 8) (.tmp 101)) rfl ?_); refine seg_store rfl rfl 27 (.tmp 8) (.tmp 101) rfl g1 0 [.int .i64 0, .int .u64 t1, .int .u64 t2, .int .u64 (min t3 took), .int .u64 (uAdd t4 1), .int .u64 18446744073709551615, .int .u64 t6] [.int .i64 0, .int .u64 t1, .int .u64 t2, .int .u64 (min t3 took), .int .u64 (uAdd t4 1), .int .u64 18446744073709551615, .int .u64 t6] (.agg #[.int .i64 0, .int .u64 t1, .int .u64 t2, .int .u64 (min t3 took), .int .u64 (uAdd t4 1), .int .u64 18446744073709551615, .int .u64 t6]) ?hx ?hy rfl Bg1 (by kernel_rfl) (Nat.le_of_ble_eq_true rfl) rfl rfl ?_; (case hx => first | rfl | (go_simp; done) | (go_simp; rfl)); (case hy => first | rfl | (go_simp; done) | (go_simp; rfl)); intro w68 hn hw; replace Bg0 := Bg0.grown hw Ng1_g0.symm; replace HS := HS.grown hw GEg1; replace Bg1 := hn; clear hw; clear hn))
              all_goals exact bodyPost_ret (results_cell1 rfl _ _ g1 27 [.int .i64 0, .int .u64 t1, .int .u64 t2, .int .u64 (min t3 took), .int .u64 (uAdd t4 1), .int .u64 18446744073709551615, .int .u64 t6] _ rfl Bg1 Try.underlying27 rfl (by kernel_rfl)) rfl ⟨_, _, _, _, _, _, _, rfl, by decide, Wt1, Wt2, (min_w Wt3 Wtook), (uAdd_w Wt4 (by decide)), (by decide), Wt6, HS.out⟩
            · have q0 : IntKind.u64.wrap (Int.tdiv t2 8) = t2 / 8 := wdiv Wt2 8 (by decide)
              go_wp2_with (first | ((go_at_call 63); (with_reducible refine (over1_0 t1 t2 t3 t4 t5 t6 g0 _ Bg0).mono ?_); rintro e w61 ⟨rfl, hl⟩; replace Bg0 := Bg0.below hl; replace Bg1 := Bg1.below hl; replace HS := HS.below hl; clear hl; have kg0_3 := Bg0.at 3 rfl; have zg0_3 := Bg0.frozen 3; have kg0_4 := Bg0.at 4 rfl; have zg0_4 := Bg0.frozen 4))
              refine start_ (n := 11) (S := fun w' => w'.cell? ⟨g0, 3, none⟩ = some (.int .u64 t3) ∧ w'.cell? ⟨g0, 4, none⟩ = some (.int .u64 t4)) (ds := [8, 10]) (bs 11 0) (by kernel_rfl) rfl rfl ⟨((Bg0.drew.cell 3).trans rfl), ((Bg0.drew.cell 4).trans rfl)⟩ (fun hHeld => ?_)
              generalize hWd : World.drew w61 = w62 at hHeld ⊢
              have hl : Below w61.heap.size w61 w62 := (by rw [← hWd]; exact below_drew1 (Below.refl _ _))
              clear hWd
              replace Bg0 := Bg0.below hl; replace Bg1 := Bg1.below hl; replace HS := HS.below hl; clear hl; replace kg0_3 := Bg0.at 3 rfl; replace zg0_3 := Bg0.frozen 3; replace kg0_4 := Bg0.at 4 rfl; replace zg0_4 := Bg0.frozen 4
              refine pu 0 42 (.pointer (some ⟨g0, 3, none⟩)) 1 rfl rfl (by kernel_rfl) (fun _ _ _ h => h) (by rfl) (fun _ => by kernel_rfl) rfl ?_
              refine pu 2 44 (.int .u64 took) 5 rfl rfl (by kernel_rfl) (fun _ _ _ h => h) (by rfl) (fun _ => by kernel_rfl) rfl ?_
              refine pu 4 46 (.pointer (some ⟨g0, 4, none⟩)) 21 rfl rfl (by kernel_rfl) (fun _ _ _ h => h) (by rfl) (fun _ => by kernel_rfl) rfl ?_
              refine norm_ (a' := ?_) ?_ ?_
              rotate_left
              · simp only [Act.put, List.setIfInBounds_toArray, List.set_cons_zero, List.set_cons_succ, i64_w, i32_w]
                rfl
              refine take_ (i := 1) (N := some 43) (v := ?_) (a' := ?_) (bs 11 23) rfl rfl (by kernel_rfl) (fun _ _ _ h => h) (Or.inl ⟨by rfl, ?_⟩) hHeld ?_ ?_
              rotate_left
              · rintro w' ⟨s0, s1⟩
                go_simp
                with_reducible rfl
              rotate_left
              · simp only [Act.put, List.setIfInBounds_toArray, List.set_cons_zero, List.set_cons_succ, i64_w, i32_w]
                rfl
              refine pure_ (i := 3) (N := some 45) (v := ?_) (a' := ?_) (bs 11 31) rfl rfl (by kernel_rfl) (fun _ _ _ h => h) (Or.inl ⟨by rfl, ?_⟩) ?_ ?_
              rotate_left
              · intro w'
                go_simp
                with_reducible rfl
              rotate_left
              · simp only [Act.put, List.setIfInBounds_toArray, List.set_cons_zero, List.set_cons_succ, i64_w, i32_w]
                rfl
              refine take_ (i := 5) (N := some 47) (v := ?_) (a' := ?_) (bs 11 63) rfl rfl (by kernel_rfl) (fun _ _ _ h => h) (Or.inl ⟨by rfl, ?_⟩) hHeld ?_ ?_
              rotate_left
              · rintro w' ⟨s0, s1⟩
                go_simp
                with_reducible rfl
              rotate_left
              · simp only [Act.put, List.setIfInBounds_toArray, List.set_cons_zero, List.set_cons_succ, i64_w, i32_w]
                rfl
              refine pu 7 49 (.pointer (some ⟨g0, 3, none⟩)) 191 rfl rfl (by kernel_rfl) (fun _ _ _ h => h) (by rfl) (fun _ => by kernel_rfl) rfl ?_
              refine norm_ (a' := ?_) ?_ ?_
              rotate_left
              · simp only [Act.put, List.setIfInBounds_toArray, List.set_cons_zero, List.set_cons_succ, i64_w, i32_w]
                rfl
              refine one_ (i := 6) (N := some 48) (bs 11 255) rfl rfl (by kernel_rfl) (by decide) (fun K hK => ?_)
              refine goes_ Try.func25 (by kernel_rfl) rfl #[.int .u64 t4, .int .u64 1] (by rfl) rfl rfl (by simp only [List.map_toArray, List.map_cons, List.map_nil]; rfl) ?_
              with_reducible refine (fix_Add.C t4 1 Wt4 (by decide) _).mono ?_
              rintro e w63 ⟨rfl, hd⟩
              refine ⟨_, rfl, ?_⟩
              have hl := hd.below
              clear hd
              replace Bg0 := Bg0.below hl; replace Bg1 := Bg1.below hl; replace HS := HS.below hl; clear hl; replace kg0_3 := Bg0.at 3 rfl; replace zg0_3 := Bg0.frozen 3; replace kg0_4 := Bg0.at 4 rfl; replace zg0_4 := Bg0.frozen 4
              refine hK.out _ _ ⟨((Bg0.cell 3).trans rfl), ((Bg0.cell 4).trans rfl)⟩ (fun hHeld => ?_)
              clear hK K
              refine norm_ (a' := ?_) ?_ ?_
              rotate_left
              · show Act.put _ (some 48) _ = _
                simp only [Act.put, List.setIfInBounds_toArray, List.set_cons_zero, List.set_cons_succ, i64_w, i32_w]
                rfl
              refine last_ (i := 8) (N := none) (bs 11 511) rfl rfl (by kernel_rfl) (by decide) (fun K hK => ?_)
              refine skip_ (w1 := ?_) (by rfl) rfl ?_ ?_
              rotate_left
              · go_simp
                rfl
              refine hK.out _ _ ?_
              clear hK K
              refine pu 9 50 (.pointer (some ⟨g0, 4, none⟩)) 1023 rfl rfl (by kernel_rfl) (fun _ _ _ h => h) (by rfl) (fun _ => by kernel_rfl) rfl ?_
              refine norm_ (a' := ?_) ?_ ?_
              rotate_left
              · simp only [Act.put, List.setIfInBounds_toArray, List.set_cons_zero, List.set_cons_succ, i64_w, i32_w]
                rfl
              refine last_ (i := 10) (N := none) (bs 11 2047) rfl rfl (by kernel_rfl) (by decide) (fun K hK => ?_)
              refine skip_ (w1 := ?_) (by rfl) rfl ?_ ?_
              rotate_left
              · go_simp
                rfl
              refine hK.out _ _ ?_
              clear hK K
              refine done_ (by kernel_rfl) ?_
              refine letter ?_
              intro w64 hW
              have Bn_ : Blk w64 g0 27 [.int .i64 1, .int .u64 t1, .int .u64 t2, .int .u64 (min t3 took), .int .u64 (uAdd t4 1), .int .u64 t5, .int .u64 t6] := (by rw [hW]; (repeat (first | (with_reducible refine Blk.drewN ?_ _) | (with_reducible refine Blk.drew ?_))); refine Blk.set (l := [.int .i64 1, .int .u64 t1, .int .u64 t2, .int .u64 (min t3 took), .int .u64 t4, .int .u64 t5, .int .u64 t6]) ?_ 4 _ rfl; (repeat (first | (with_reducible refine Blk.drewN ?_ _) | (with_reducible refine Blk.drew ?_))); refine Blk.set (l := [.int .i64 1, .int .u64 t1, .int .u64 t2, .int .u64 t3, .int .u64 t4, .int .u64 t5, .int .u64 t6]) ?_ 3 _ rfl; (repeat (first | (with_reducible refine Blk.drewN ?_ _) | (with_reducible refine Blk.drew ?_))); exact Bg0)
              replace Bg0 := Bn_
              clear Bn_
              have Bn_ : Blk w64 g1 27 [.int .i64 0, .int .u64 0, .int .u64 0, .int .u64 0, .int .u64 0, .int .u64 0, .int .u64 0] := (by rw [hW]; (repeat (first | (with_reducible refine Blk.drewN ?_ _) | (with_reducible refine Blk.drew ?_))); refine Blk.setFar ?_ Ng1_g0; (repeat (first | (with_reducible refine Blk.drewN ?_ _) | (with_reducible refine Blk.drew ?_))); refine Blk.setFar ?_ Ng1_g0; (repeat (first | (with_reducible refine Blk.drewN ?_ _) | (with_reducible refine Blk.drew ?_))); exact Bg1)
              replace Bg1 := Bn_
              clear Bn_
              have HS_ : Since w w64 := (by rw [hW]; repeat (first | (with_reducible exact HS) | (with_reducible refine Since.drewN ?_ _) | (with_reducible refine Since.drew ?_) | (with_reducible refine Since.set ?_ GEg0)))
              replace HS := HS_
              clear HS_ hW
              clear zg0_3 zg0_4; have kg0_0 := Bg0.at 0 rfl; have kg0_2 := Bg0.at 2 rfl; replace kg0_3 := Bg0.at 3 rfl; replace kg0_4 := Bg0.at 4 rfl
              go_wp2
              all_goals go_quiet (fail)
              all_goals (generalize hW : World.drewN w64 _ = w65; have hl : Below w64.heap.size w64 w65 := (by rw [← hW]; exact pw_below_drewN (Below.refl _ _) _); clear hW; replace Bg0 := Bg0.below hl; replace Bg1 := Bg1.below hl; replace HS := HS.below hl; clear hl; clear kg0_2 kg0_4; replace kg0_0 := Bg0.at 0 rfl; replace kg0_3 := Bg0.at 3 rfl; have kg0_5 := Bg0.at 5 rfl)
              go_wp2_with (first | ((with_reducible refine gate_dst (N := 101) rfl ?_); refine seg_load rfl (N := 101) rfl 27 (.tmp 4) rfl g0 0 [.int .i64 1, .int .u64 t1, .int .u64 t2, .int .u64 (min t3 took), .int .u64 (uAdd t4 1), .int .u64 t5, .int .u64 t6] ?hx Bg0 rfl Try.underlying27 rfl (by kernel_rfl) ?_; (case hx => first | rfl | (go_simp; done) | (go_simp; rfl))) | ((with_reducible refine gate_ (.store 27 (.tmp 8) (.tmp 101)) rfl ?_); refine seg_store rfl rfl 27 (.tmp 8) (.tmp 101) rfl g1 0 [.int .i64 1, .int .u64 t1, .int .u64 t2, .int .u64 (min t3 took), .int .u64 (uAdd t4 1), .int .u64 t5, .int .u64 t6] [.int .i64 1, .int .u64 t1, .int .u64 t2, .int .u64 (min t3 took), .int .u64 (uAdd t4 1), .int .u64 t5, .int .u64 t6] (.agg #[.int .i64 1, .int .u64 t1, .int .u64 t2, .int .u64 (min t3 took), .int .u64 (uAdd t4 1), .int .u64 t5, .int .u64 t6]) ?hx ?hy rfl Bg1 (by kernel_rfl) (Nat.le_of_ble_eq_true rfl) rfl rfl ?_; (case hx => first | rfl | (go_simp; done) | (go_simp; rfl)); (case hy => first | rfl | (go_simp; done) | (go_simp; rfl)); intro w66 hn hw; replace Bg0 := Bg0.grown hw Ng1_g0.symm; replace HS := HS.grown hw GEg1; replace Bg1 := hn; clear hw; clear kg0_0 kg0_3 kg0_5; clear hn))
              all_goals exact bodyPost_ret (results_cell1 rfl _ _ g1 27 [.int .i64 1, .int .u64 t1, .int .u64 t2, .int .u64 (min t3 took), .int .u64 (uAdd t4 1), .int .u64 t5, .int .u64 t6] _ rfl Bg1 Try.underlying27 rfl (by kernel_rfl)) rfl ⟨_, _, _, _, _, _, _, rfl, by decide, Wt1, Wt2, (min_w Wt3 Wtook), (uAdd_w Wt4 (by decide)), Wt5, Wt6, HS.out⟩
    skip
    · go_wp2_with (first | ((go_at_call 63); (with_reducible refine (over2_0 t1 t2 t3 t4 t5 t6 g0 _ Bg0).mono ?_); rintro e w61 ⟨rfl, hl⟩; replace Bg0 := Bg0.below hl; replace Bg1 := Bg1.below hl; replace HS := HS.below hl; clear hl) | ((with_reducible refine gate_dst (N := 41) rfl ?_); refine seg_load rfl (N := 41) rfl 27 (.tmp 4) rfl g0 0 [.int .i64 2, .int .u64 t1, .int .u64 t2, .int .u64 t3, .int .u64 t4, .int .u64 t5, .int .u64 t6] ?hx Bg0 rfl Try.underlying27 rfl (by kernel_rfl) ?_; (case hx => first | rfl | (go_simp; done) | (go_simp; rfl))) | ((with_reducible refine gate_ (.store 27 (.tmp 8) (.tmp 41)) rfl ?_); refine seg_store rfl rfl 27 (.tmp 8) (.tmp 41) rfl g1 0 [.int .i64 2, .int .u64 t1, .int .u64 t2, .int .u64 t3, .int .u64 t4, .int .u64 t5, .int .u64 t6] [.int .i64 2, .int .u64 t1, .int .u64 t2, .int .u64 t3, .int .u64 t4, .int .u64 t5, .int .u64 t6] (.agg #[.int .i64 2, .int .u64 t1, .int .u64 t2, .int .u64 t3, .int .u64 t4, .int .u64 t5, .int .u64 t6]) ?hx ?hy rfl Bg1 (by kernel_rfl) (Nat.le_of_ble_eq_true rfl) rfl rfl ?_; (case hx => first | rfl | (go_simp; done) | (go_simp; rfl)); (case hy => first | rfl | (go_simp; done) | (go_simp; rfl)); intro w62 hn hw; replace Bg0 := Bg0.grown hw Ng1_g0.symm; replace HS := HS.grown hw GEg1; replace Bg1 := hn; clear hw; clear hn))
      all_goals exact bodyPost_ret (results_cell1 rfl _ _ g1 27 [.int .i64 2, .int .u64 t1, .int .u64 t2, .int .u64 t3, .int .u64 t4, .int .u64 t5, .int .u64 t6] _ rfl Bg1 Try.underlying27 rfl (by kernel_rfl)) rfl ⟨_, _, _, _, _, _, _, rfl, by decide, Wt1, Wt2, Wt3, Wt4, Wt5, Wt6, HS.out⟩
end Go.Proofs.Ytpgffmnbdggpnaa.PCv
