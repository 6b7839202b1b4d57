/- A controller whose last loss was none is one. -/
import Derived.Deep.DeepMust
import Derived.Test.YtpgffmnbdggpnaaKCtlX5
import Derived.Test.YtpgffmnbdggpnaaKCtlX2
namespace Go.Proofs.Ytpgffmnbdggpnaa.PCv
open Go.RowKit Go.Proofs.YtpgffmnbdggpnaaW.PrintWords Go.Proofs.YtpgffmnbdggpnaaW.PrintLast Go.Proofs.YtpgffmnbdggpnaaW.PrintMore
set_option linter.unusedVariables false
set_option linter.unusedSimpArgs false
set_option maxRecDepth 100000 in
set_option maxHeartbeats 4000000 in
theorem undoS1w_0 (c1 c2 c3 c4 c5 c6 c7 c8 c9 c10 c11 c39 c40 : Int) (Wc1 : W64 c1) (Wc2 : W64 c2) (Wc3 : W64 c3) (Wc4 : W64 c4) (Wc6 : W64 c6) (Wc7 : W64 c7) (Wc8 : W64 c8) (Wc9 : W64 c9) (Wc10 : W64 c10) (Wc11 : W64 c11) (Wc39 : W64 c39) (Wc40 : W64 c40) (w : World) (hb_c1 : 2400 ≤ c1 ∧ c1 ≤ 16777216) (hp_c5 : c5 = 0 ∨ c5 = 1 ∨ c5 = 2) :
    Calls Try.prog 18 #[.agg (K36 1 c1 c2 c3 c4 c5 c6 c7 c8 c9 c10 c11 0 0 0 false 0 0 0 0 0 (.slice none 0 0) 0 0 0 0 0 0 0 0 0 0 0 0 0 0 0 0 false c39 c40).toArray] w fun e w' => ∃ (a1 a2 a3 a4 a5 a6 a7 a8 a9 a10 a11 a39 a40 : Int), e = .returned (.agg (K36 1 a1 a2 a3 a4 a5 a6 a7 a8 a9 a10 a11 0 0 0 false 0 0 0 0 0 (.slice none 0 0) 0 0 0 0 0 0 0 0 0 0 0 0 0 0 0 0 false a39 a40).toArray) ∧ (2400 ≤ a1 ∧ a1 ≤ 16777216) ∧ (a5 = 0 ∨ a5 = 1 ∨ a5 = 2) ∧ W64 a1 ∧ W64 a2 ∧ W64 a3 ∧ W64 a4 ∧ W64 a6 ∧ W64 a7 ∧ W64 a8 ∧ W64 a9 ∧ W64 a10 ∧ W64 a11 ∧ W64 a39 ∧ W64 a40 ∧ (c1 ≤ a1 ∧ (c39 ≤ 16777216 → c39 ≤ a1) ∧ a39 = 0) ∧ Below w.heap.size w w' := by
  have hu36 := Try.underlying36
  have HS := Since.refl w
  go_enter Try.func18, Try.ntmps18
  go_wp2_with (first | ((with_reducible refine gate_dst (N := 1) rfl ?_); refine seg_new rfl (N := 1) rfl (K36 1 c1 c2 c3 c4 c5 c6 c7 c8 c9 c10 c11 0 0 0 false 0 0 0 0 0 (.slice none 0 0) 0 0 0 0 0 0 0 0 0 0 0 0 0 0 0 0 false c39 c40) 36 ?hr ?_; (case hr => first | (go_simp; done) | (go_simp; rfl) | kernel_rfl); intro g0 hg w1 hn hl; have GEg0 := ge_new HS hg; clear hg; replace HS := HS.below hl; have Bg0 := hn; clear hl hn) | ((with_reducible refine gate_dst (N := 2) rfl ?_); refine seg_new rfl (N := 2) rfl (K36 0 0 0 0 0 0 0 0 0 0 0 0 0 0 0 false 0 0 0 0 0 (.slice none 0 0) 0 0 0 0 0 0 0 0 0 0 0 0 0 0 0 0 false 0 0) 36 ?hr ?_; (case hr => first | (go_simp; done) | (go_simp; rfl) | kernel_rfl); intro g1 hg w2 hn hl; have Ng1_g0 := ne_new Bg0 hg; have GEg1 := ge_new HS hg; clear hg; replace Bg0 := Bg0.below hl; replace HS := HS.below hl; have Bg1 := hn; clear hl hn; have kg0_0 := Bg0.at 0 rfl) | ((go_at_call 36); (with_reducible refine (parts_reno g0 _ ((Bg0.cell 0).trans rfl)).mono ?_); rintro e w3 ⟨rfl, hd⟩; have hl := hd.below; clear hd; replace Bg0 := Bg0.below hl; replace Bg1 := Bg1.below hl; replace HS := HS.below hl; clear hl; clear kg0_0; have kg0_1 := Bg0.at 1 rfl; have zg0_1 := Bg0.frozen 1; have kg0_2 := Bg0.at 2 rfl; have zg0_2 := Bg0.frozen 2; have kg0_3 := Bg0.at 3 rfl; have zg0_3 := Bg0.frozen 3; have kg0_39 := Bg0.at 39 rfl; have kg0_40 := Bg0.at 40 rfl))
  refine start_ (n := 23) (S := fun w' => w'.cell? ⟨g0, 1, none⟩ = some (.int .u64 c1) ∧ w'.cell? ⟨g0, 39, none⟩ = some (.int .u64 c39) ∧ w'.cell? ⟨g0, 2, none⟩ = some (.int .u64 c2) ∧ w'.cell? ⟨g0, 40, none⟩ = some (.int .u64 c40)) (ds := [18, 20, 22]) (bs 23 0) (by kernel_rfl) rfl rfl ⟨((Bg0.drew.cell 1).trans rfl), ((Bg0.drew.cell 39).trans rfl), ((Bg0.drew.cell 2).trans rfl), ((Bg0.drew.cell 40).trans rfl)⟩ (fun hHeld => ?_)
  generalize hWd : World.drew w3 = w4 at hHeld ⊢
  have hl : Below w3.heap.size w3 w4 := (by rw [← hWd]; exact below_drew1 (Below.refl _ _))
  clear hWd
  replace Bg0 := Bg0.below hl; replace Bg1 := Bg1.below hl; replace HS := HS.below hl; clear hl; replace kg0_1 := Bg0.at 1 rfl; replace zg0_1 := Bg0.frozen 1; replace kg0_2 := Bg0.at 2 rfl; replace zg0_2 := Bg0.frozen 2; replace kg0_3 := Bg0.at 3 rfl; replace zg0_3 := Bg0.frozen 3; replace kg0_39 := Bg0.at 39 rfl; replace kg0_40 := Bg0.at 40 rfl
  refine pu 0 22 (.pointer (some ⟨g0, 1, none⟩)) 1 rfl rfl (by kernel_rfl) (fun _ _ _ h => h) (by rfl) (fun _ => by kernel_rfl) rfl ?_
  refine pu 1 23 (.pointer (some ⟨g0, 2, none⟩)) 3 rfl rfl (by kernel_rfl) (fun _ _ _ h => h) (by rfl) (fun _ => by kernel_rfl) rfl ?_
  refine pu 2 24 (.pointer (some ⟨g0, 3, none⟩)) 7 rfl rfl (by kernel_rfl) (fun _ _ _ h => h) (by rfl) (fun _ => by kernel_rfl) rfl ?_
  refine pu 3 25 (.pointer (some ⟨g0, 1, none⟩)) 15 rfl rfl (by kernel_rfl) (fun _ _ _ h => h) (by rfl) (fun _ => by kernel_rfl) rfl ?_
  refine pu 4 26 (.pointer (some ⟨g0, 1, none⟩)) 31 rfl rfl (by kernel_rfl) (fun _ _ _ h => h) (by rfl) (fun _ => by kernel_rfl) rfl ?_
  refine pu 6 28 (.pointer (some ⟨g0, 39, none⟩)) 95 rfl rfl (by kernel_rfl) (fun _ _ _ h => h) (by rfl) (fun _ => by kernel_rfl) rfl ?_
  refine pu 10 32 (.pointer (some ⟨g0, 2, none⟩)) 1119 rfl rfl (by kernel_rfl) (fun _ _ _ h => h) (by rfl) (fun _ => by kernel_rfl) rfl ?_
  refine pu 11 33 (.pointer (some ⟨g0, 2, none⟩)) 3167 rfl rfl (by kernel_rfl) (fun _ _ _ h => h) (by rfl) (fun _ => by kernel_rfl) rfl ?_
  refine pu 13 35 (.pointer (some ⟨g0, 40, none⟩)) 11359 rfl rfl (by kernel_rfl) (fun _ _ _ h => h) (by rfl) (fun _ => by kernel_rfl) rfl ?_
  refine norm_ (a' := ?_) ?_ ?_
  rotate_left
  · simp only [Act.put, List.setIfInBounds_toArray, List.set_cons_zero, List.set_cons_succ, i64_w, i32_w]
    rfl
  refine take_ (i := 5) (N := some 27) (v := ?_) (a' := ?_) (bs 23 11391) rfl rfl (by kernel_rfl) (fun _ _ _ h => h) (Or.inl ⟨by rfl, ?_⟩) hHeld ?_ ?_
  rotate_left
  · rintro w' ⟨s0, s1, s2, s3⟩
    go_simp
    with_reducible rfl
  rotate_left
  · simp only [Act.put, List.setIfInBounds_toArray, List.set_cons_zero, List.set_cons_succ, i64_w, i32_w]
    rfl
  refine take_ (i := 7) (N := some 29) (v := ?_) (a' := ?_) (bs 23 11519) rfl rfl (by kernel_rfl) (fun _ _ _ h => h) (Or.inl ⟨by rfl, ?_⟩) hHeld ?_ ?_
  rotate_left
  · rintro w' ⟨s0, s1, s2, s3⟩
    go_simp
    with_reducible rfl
  rotate_left
  · simp only [Act.put, List.setIfInBounds_toArray, List.set_cons_zero, List.set_cons_succ, i64_w, i32_w]
    rfl
  refine pure_ (i := 8) (N := some 30) (v := ?_) (a' := ?_) (bs 23 11775) rfl rfl (by kernel_rfl) (fun _ _ _ h => h) (Or.inl ⟨by rfl, ?_⟩) ?_ ?_
  rotate_left
  · intro w'
    go_simp
    with_reducible rfl
  rotate_left
  · simp only [Act.put, List.setIfInBounds_toArray, List.set_cons_zero, List.set_cons_succ, i64_w, i32_w]
    rfl
  refine take_ (i := 12) (N := some 34) (v := ?_) (a' := ?_) (bs 23 15871) rfl rfl (by kernel_rfl) (fun _ _ _ h => h) (Or.inl ⟨by rfl, ?_⟩) hHeld ?_ ?_
  rotate_left
  · rintro w' ⟨s0, s1, s2, s3⟩
    go_simp
    with_reducible rfl
  rotate_left
  · simp only [Act.put, List.setIfInBounds_toArray, List.set_cons_zero, List.set_cons_succ, i64_w, i32_w]
    rfl
  refine take_ (i := 14) (N := some 36) (v := ?_) (a' := ?_) (bs 23 32255) rfl rfl (by kernel_rfl) (fun _ _ _ h => h) (Or.inl ⟨by rfl, ?_⟩) hHeld ?_ ?_
  rotate_left
  · rintro w' ⟨s0, s1, s2, s3⟩
    go_simp
    with_reducible rfl
  rotate_left
  · simp only [Act.put, List.setIfInBounds_toArray, List.set_cons_zero, List.set_cons_succ, i64_w, i32_w]
    rfl
  refine pure_ (i := 15) (N := some 37) (v := ?_) (a' := ?_) (bs 23 65023) rfl rfl (by kernel_rfl) (fun _ _ _ h => h) (Or.inl ⟨by rfl, ?_⟩) ?_ ?_
  rotate_left
  · intro w'
    go_simp
    with_reducible rfl
  rotate_left
  · simp only [Act.put, List.setIfInBounds_toArray, List.set_cons_zero, List.set_cons_succ, i64_w, i32_w]
    rfl
  refine one_ (i := 9) (N := some 31) (bs 23 65535) rfl rfl (by kernel_rfl) (by decide) (fun K hK => ?_)
  refine goes_ Try.func24 (by kernel_rfl) rfl #[.int .u64 (max c1 c39)] (by rfl) rfl rfl (by simp only [List.map_toArray, List.map_cons, List.map_nil]; rfl) ?_
  with_reducible refine (reno_Held.C (max c1 c39) _).mono ?_
  rintro e w5 ⟨rfl, hd⟩
  refine ⟨_, rfl, ?_⟩
  have hl := hd.below
  clear hd
  replace Bg0 := Bg0.below hl; replace Bg1 := Bg1.below hl; replace HS := HS.below hl; clear hl; replace kg0_1 := Bg0.at 1 rfl; replace zg0_1 := Bg0.frozen 1; replace kg0_2 := Bg0.at 2 rfl; replace zg0_2 := Bg0.frozen 2; replace kg0_3 := Bg0.at 3 rfl; replace zg0_3 := Bg0.frozen 3; replace kg0_39 := Bg0.at 39 rfl; replace kg0_40 := Bg0.at 40 rfl
  refine hK.out _ _ ⟨((Bg0.cell 1).trans rfl), ((Bg0.cell 39).trans rfl), ((Bg0.cell 2).trans rfl), ((Bg0.cell 40).trans rfl)⟩ (fun hHeld => ?_)
  clear hK K
  refine norm_ (a' := ?_) ?_ ?_
  rotate_left
  · show Act.put _ (some 31) _ = _
    simp only [Act.put, List.setIfInBounds_toArray, List.set_cons_zero, List.set_cons_succ, i64_w, i32_w]
    rfl
  refine one_ (i := 16) (N := some 38) (bs 23 131071) rfl rfl (by kernel_rfl) (by decide) (fun K hK => ?_)
  refine goes_ Try.func24 (by kernel_rfl) rfl #[.int .u64 (max c2 c40)] (by rfl) rfl rfl (by simp only [List.map_toArray, List.map_cons, List.map_nil]; rfl) ?_
  with_reducible refine (reno_Held.C (max c2 c40) _).mono ?_
  rintro e w6 ⟨rfl, hd⟩
  refine ⟨_, rfl, ?_⟩
  have hl := hd.below
  clear hd
  replace Bg0 := Bg0.below hl; replace Bg1 := Bg1.below hl; replace HS := HS.below hl; clear hl; replace kg0_1 := Bg0.at 1 rfl; replace zg0_1 := Bg0.frozen 1; replace kg0_2 := Bg0.at 2 rfl; replace zg0_2 := Bg0.frozen 2; replace kg0_3 := Bg0.at 3 rfl; replace zg0_3 := Bg0.frozen 3; replace kg0_39 := Bg0.at 39 rfl; replace kg0_40 := Bg0.at 40 rfl
  refine hK.out _ _ ⟨((Bg0.cell 1).trans rfl), ((Bg0.cell 39).trans rfl), ((Bg0.cell 2).trans rfl), ((Bg0.cell 40).trans rfl)⟩ (fun hHeld => ?_)
  clear hK K
  refine norm_ (a' := ?_) ?_ ?_
  rotate_left
  · show Act.put _ (some 38) _ = _
    simp only [Act.put, List.setIfInBounds_toArray, List.set_cons_zero, List.set_cons_succ, i64_w, i32_w]
    rfl
  refine pu 17 39 (.pointer (some ⟨g0, 1, none⟩)) 262143 rfl rfl (by kernel_rfl) (fun _ _ _ h => h) (by rfl) (fun _ => by kernel_rfl) rfl ?_
  refine norm_ (a' := ?_) ?_ ?_
  rotate_left
  · simp only [Act.put, List.setIfInBounds_toArray, List.set_cons_zero, List.set_cons_succ, i64_w, i32_w]
    rfl
  refine last_ (i := 18) (N := none) (bs 23 524287) rfl rfl (by kernel_rfl) (by decide) (fun K hK => ?_)
  refine skip_ (w1 := ?_) (by rfl) rfl ?_ ?_
  rotate_left
  · go_simp
    rfl
  refine hK.out _ _ ?_
  clear hK K
  refine pu 19 40 (.pointer (some ⟨g0, 2, none⟩)) 1048575 rfl rfl (by kernel_rfl) (fun _ _ _ h => h) (by rfl) (fun _ => by kernel_rfl) rfl ?_
  refine norm_ (a' := ?_) ?_ ?_
  rotate_left
  · simp only [Act.put, List.setIfInBounds_toArray, List.set_cons_zero, List.set_cons_succ, i64_w, i32_w]
    rfl
  refine last_ (i := 20) (N := none) (bs 23 2097151) rfl rfl (by kernel_rfl) (by decide) (fun K hK => ?_)
  refine skip_ (w1 := ?_) (by rfl) rfl ?_ ?_
  rotate_left
  · go_simp
    rfl
  refine hK.out _ _ ?_
  clear hK K
  refine pu 21 41 (.pointer (some ⟨g0, 3, none⟩)) 4194303 rfl rfl (by kernel_rfl) (fun _ _ _ h => h) (by rfl) (fun _ => by kernel_rfl) rfl ?_
  refine norm_ (a' := ?_) ?_ ?_
  rotate_left
  · simp only [Act.put, List.setIfInBounds_toArray, List.set_cons_zero, List.set_cons_succ, i64_w, i32_w]
    rfl
  refine last_ (i := 22) (N := none) (bs 23 8388607) rfl rfl (by kernel_rfl) (by decide) (fun K hK => ?_)
  refine skip_ (w1 := ?_) (by rfl) rfl ?_ ?_
  rotate_left
  · go_simp
    rfl
  refine hK.out _ _ ?_
  clear hK K
  refine done_ (by kernel_rfl) ?_
  refine letter ?_
  intro w7 hW
  have Bn_ : Blk w7 g0 36 (K36 1 (uHeld (max c1 c39)) (uHeld (max c2 c40)) 0 c4 c5 c6 c7 c8 c9 c10 c11 0 0 0 false 0 0 0 0 0 (.slice none 0 0) 0 0 0 0 0 0 0 0 0 0 0 0 0 0 0 0 false c39 c40) := (by rw [hW]; (repeat (first | (with_reducible refine Blk.drewN ?_ _) | (with_reducible refine Blk.drew ?_))); refine Blk.set (l := (K36 1 (uHeld (max c1 c39)) (uHeld (max c2 c40)) c3 c4 c5 c6 c7 c8 c9 c10 c11 0 0 0 false 0 0 0 0 0 (.slice none 0 0) 0 0 0 0 0 0 0 0 0 0 0 0 0 0 0 0 false c39 c40)) ?_ 3 _ rfl; (repeat (first | (with_reducible refine Blk.drewN ?_ _) | (with_reducible refine Blk.drew ?_))); refine Blk.set (l := (K36 1 (uHeld (max c1 c39)) c2 c3 c4 c5 c6 c7 c8 c9 c10 c11 0 0 0 false 0 0 0 0 0 (.slice none 0 0) 0 0 0 0 0 0 0 0 0 0 0 0 0 0 0 0 false c39 c40)) ?_ 2 _ rfl; (repeat (first | (with_reducible refine Blk.drewN ?_ _) | (with_reducible refine Blk.drew ?_))); refine Blk.set (l := (K36 1 c1 c2 c3 c4 c5 c6 c7 c8 c9 c10 c11 0 0 0 false 0 0 0 0 0 (.slice none 0 0) 0 0 0 0 0 0 0 0 0 0 0 0 0 0 0 0 false c39 c40)) ?_ 1 _ rfl; (repeat (first | (with_reducible refine Blk.drewN ?_ _) | (with_reducible refine Blk.drew ?_))); exact Bg0)
  replace Bg0 := Bn_
  clear Bn_
  have Bn_ : Blk w7 g1 36 (K36 0 0 0 0 0 0 0 0 0 0 0 0 0 0 0 false 0 0 0 0 0 (.slice none 0 0) 0 0 0 0 0 0 0 0 0 0 0 0 0 0 0 0 false 0 0) := (by rw [hW]; (repeat (first | (with_reducible refine Blk.drewN ?_ _) | (with_reducible refine Blk.drew ?_))); refine Blk.setFar ?_ Ng1_g0; (repeat (first | (with_reducible refine Blk.drewN ?_ _) | (with_reducible refine Blk.drew ?_))); refine Blk.setFar ?_ Ng1_g0; (repeat (first | (with_reducible refine Blk.drewN ?_ _) | (with_reducible refine Blk.drew ?_))); refine Blk.setFar ?_ Ng1_g0; (repeat (first | (with_reducible refine Blk.drewN ?_ _) | (with_reducible refine Blk.drew ?_))); exact Bg1)
  replace Bg1 := Bn_
  clear Bn_
  have HS_ : Since w w7 := (by rw [hW]; repeat (first | (with_reducible exact HS) | (with_reducible refine Since.drewN ?_ _) | (with_reducible refine Since.drew ?_) | (with_reducible refine Since.set ?_ GEg0)))
  replace HS := HS_
  clear HS_ hW
  clear kg0_1 zg0_1 kg0_2 zg0_2 kg0_3 zg0_3 kg0_39 kg0_40
  go_wp2_with (first | ((with_reducible refine gate_ (.store 23 (.tmp 42) (.const (.int .u64 0))) rfl ?_); refine seg_store rfl rfl 23 (.tmp 42) (.const (.int .u64 0)) rfl g0 39 [.int .u64 0] (K36 1 (uHeld (max c1 c39)) (uHeld (max c2 c40)) 0 c4 c5 c6 c7 c8 c9 c10 c11 0 0 0 false 0 0 0 0 0 (.slice none 0 0) 0 0 0 0 0 0 0 0 0 0 0 0 0 0 0 0 false 0 c40) (.int .u64 0) ?hx ?hy rfl Bg0 (by kernel_rfl) (Nat.le_of_ble_eq_true rfl) rfl rfl ?_; (case hx => first | rfl | (go_simp; done) | (go_simp; rfl)); (case hy => first | rfl | (go_simp; done) | (go_simp; rfl)); intro w8 hn hw; replace Bg1 := Bg1.grown hw Ng1_g0; replace HS := HS.grown hw GEg0; replace Bg0 := hn; clear hw; clear hn) | ((with_reducible refine gate_ (.store 23 (.tmp 43) (.const (.int .u64 0))) rfl ?_); refine seg_store rfl rfl 23 (.tmp 43) (.const (.int .u64 0)) rfl g0 40 [.int .u64 0] (K36 1 (uHeld (max c1 c39)) (uHeld (max c2 c40)) 0 c4 c5 c6 c7 c8 c9 c10 c11 0 0 0 false 0 0 0 0 0 (.slice none 0 0) 0 0 0 0 0 0 0 0 0 0 0 0 0 0 0 0 false 0 0) (.int .u64 0) ?hx ?hy rfl Bg0 (by kernel_rfl) (Nat.le_of_ble_eq_true rfl) rfl rfl ?_; (case hx => first | rfl | (go_simp; done) | (go_simp; rfl)); (case hy => first | rfl | (go_simp; done) | (go_simp; rfl)); intro w9 hn hw; replace Bg1 := Bg1.grown hw Ng1_g0; replace HS := HS.grown hw GEg0; replace Bg0 := hn; clear hw; clear hn) | ((with_reducible refine gate_dst (N := 44) rfl ?_); refine seg_load rfl (N := 44) rfl 36 (.tmp 1) rfl g0 0 (K36 1 (uHeld (max c1 c39)) (uHeld (max c2 c40)) 0 c4 c5 c6 c7 c8 c9 c10 c11 0 0 0 false 0 0 0 0 0 (.slice none 0 0) 0 0 0 0 0 0 0 0 0 0 0 0 0 0 0 0 false 0 0) ?hx Bg0 rfl Try.underlying36 rfl (by kernel_rfl) ?_; (case hx => first | rfl | (go_simp; done) | (go_simp; rfl))) | ((with_reducible refine gate_ (.store 36 (.tmp 2) (.tmp 44)) rfl ?_); refine seg_store rfl rfl 36 (.tmp 2) (.tmp 44) rfl g1 0 (K36 1 (uHeld (max c1 c39)) (uHeld (max c2 c40)) 0 c4 c5 c6 c7 c8 c9 c10 c11 0 0 0 false 0 0 0 0 0 (.slice none 0 0) 0 0 0 0 0 0 0 0 0 0 0 0 0 0 0 0 false 0 0) (K36 1 (uHeld (max c1 c39)) (uHeld (max c2 c40)) 0 c4 c5 c6 c7 c8 c9 c10 c11 0 0 0 false 0 0 0 0 0 (.slice none 0 0) 0 0 0 0 0 0 0 0 0 0 0 0 0 0 0 0 false 0 0) (.agg (K36 1 (uHeld (max c1 c39)) (uHeld (max c2 c40)) 0 c4 c5 c6 c7 c8 c9 c10 c11 0 0 0 false 0 0 0 0 0 (.slice none 0 0) 0 0 0 0 0 0 0 0 0 0 0 0 0 0 0 0 false 0 0).toArray) ?hx ?hy rfl Bg1 (by kernel_rfl) (Nat.le_of_ble_eq_true rfl) rfl rfl ?_; (case hx => first | rfl | (go_simp; done) | (go_simp; rfl)); (case hy => first | rfl | (go_simp; done) | (go_simp; rfl)); intro w10 hn hw; replace Bg0 := Bg0.grown hw Ng1_g0.symm; replace HS := HS.grown hw GEg1; replace Bg1 := hn; clear hw; clear hn))
  all_goals exact bodyPost_ret (results_cell1 rfl _ _ g1 36 (K36 1 (uHeld (max c1 c39)) (uHeld (max c2 c40)) 0 c4 c5 c6 c7 c8 c9 c10 c11 0 0 0 false 0 0 0 0 0 (.slice none 0 0) 0 0 0 0 0 0 0 0 0 0 0 0 0 0 0 0 false 0 0) _ rfl Bg1 Try.underlying36 rfl (by kernel_rfl)) rfl ⟨_, _, _, _, _, _, _, _, _, _, _, _, _, rfl, (uHeld_in _), hp_c5, (uHeld_w _), (uHeld_w _), (by decide), Wc4, Wc6, Wc7, Wc8, Wc9, Wc10, Wc11, (by decide), (by decide), ⟨undo_ge hb_c1, fun h_ => undo_old h_, rfl⟩, HS.out⟩
theorem undoS1 (c1 : Int) (c2 : Int) (c3 : Int) (c4 : Int) (c5 : Int) (c6 : Int) (c7 : Int) (c8 : Int) (c9 : Int) (c10 : Int) (c11 : Int) (c39 : Int) (c40 : Int) (Wc1 : W64 c1) (Wc2 : W64 c2) (Wc3 : W64 c3) (Wc4 : W64 c4) (Wc6 : W64 c6) (Wc7 : W64 c7) (Wc8 : W64 c8) (Wc9 : W64 c9) (Wc10 : W64 c10) (Wc11 : W64 c11) (Wc39 : W64 c39) (Wc40 : W64 c40) (hb_c1 : 2400 ≤ c1 ∧ c1 ≤ 16777216) (hp_c5 : c5 = 0 ∨ c5 = 1 ∨ c5 = 2) (w : World) :
    Calls Try.prog 18 #[.agg (K36 1 c1 c2 c3 c4 c5 c6 c7 c8 c9 c10 c11 0 0 0 false 0 0 0 0 0 (.slice none 0 0) 0 0 0 0 0 0 0 0 0 0 0 0 0 0 0 0 false c39 c40).toArray] w fun e w' => ∃ (a1 a2 a3 a4 a5 a6 a7 a8 a9 a10 a11 a39 a40 : Int), e = .returned (.agg (K36 1 a1 a2 a3 a4 a5 a6 a7 a8 a9 a10 a11 0 0 0 false 0 0 0 0 0 (.slice none 0 0) 0 0 0 0 0 0 0 0 0 0 0 0 0 0 0 0 false a39 a40).toArray) ∧ (2400 ≤ a1 ∧ a1 ≤ 16777216) ∧ (a5 = 0 ∨ a5 = 1 ∨ a5 = 2) ∧ W64 a1 ∧ W64 a2 ∧ W64 a3 ∧ W64 a4 ∧ W64 a6 ∧ W64 a7 ∧ W64 a8 ∧ W64 a9 ∧ W64 a10 ∧ W64 a11 ∧ W64 a39 ∧ W64 a40 ∧ (c1 ≤ a1 ∧ (c39 ≤ 16777216 → c39 ≤ a1) ∧ a39 = 0) ∧ Below w.heap.size w w' := by
  exact undoS1w_0 c1 c2 c3 c4 c5 c6 c7 c8 c9 c10 c11 c39 c40 Wc1 Wc2 Wc3 Wc4 Wc6 Wc7 Wc8 Wc9 Wc10 Wc11 Wc39 Wc40 w hb_c1 hp_c5 
set_option maxRecDepth 100000 in
set_option maxHeartbeats 4000000 in
theorem undoS2w_0 (c5 c6 c7 c8 c9 c10 c11 c12 c13 c14 c16 c17 c18 c19 c39 c40 : Int) (c15 : Bool) (Wc6 : W64 c6) (Wc7 : W64 c7) (Wc8 : W64 c8) (Wc9 : W64 c9) (Wc10 : W64 c10) (Wc11 : W64 c11) (Wc12 : W64 c12) (Wc13 : W64 c13) (Wc14 : W64 c14) (Wc16 : W64 c16) (Wc17 : W64 c17) (Wc18 : W64 c18) (Wc19 : W64 c19) (Wc39 : W64 c39) (Wc40 : W64 c40) (w : World) (hb_c12 : 2400 ≤ c12 ∧ c12 ≤ 16777216) (hp_c5 : c5 = 0 ∨ c5 = 1 ∨ c5 = 2) :
    Calls Try.prog 18 #[.agg (K36 2 0 0 0 0 c5 c6 c7 c8 c9 c10 c11 c12 c13 c14 c15 c16 c17 c18 c19 0 (.slice none 0 0) 0 0 0 0 0 0 0 0 0 0 0 0 0 0 0 0 false c39 c40).toArray] w fun e w' => ∃ (a5 a6 a7 a8 a9 a10 a11 a12 a13 a14 a16 a17 a18 a19 a39 a40 : Int) (a15 : Bool), e = .returned (.agg (K36 2 0 0 0 0 a5 a6 a7 a8 a9 a10 a11 a12 a13 a14 a15 a16 a17 a18 a19 0 (.slice none 0 0) 0 0 0 0 0 0 0 0 0 0 0 0 0 0 0 0 false a39 a40).toArray) ∧ (2400 ≤ a12 ∧ a12 ≤ 16777216) ∧ (a5 = 0 ∨ a5 = 1 ∨ a5 = 2) ∧ W64 a6 ∧ W64 a7 ∧ W64 a8 ∧ W64 a9 ∧ W64 a10 ∧ W64 a11 ∧ W64 a12 ∧ W64 a13 ∧ W64 a14 ∧ W64 a16 ∧ W64 a17 ∧ W64 a18 ∧ W64 a19 ∧ W64 a39 ∧ W64 a40 ∧ (c12 ≤ a12 ∧ (c39 ≤ 16777216 → c39 ≤ a12) ∧ a39 = 0) ∧ Below w.heap.size w w' := by
  have hu36 := Try.underlying36
  have HS := Since.refl w
  go_enter Try.func18, Try.ntmps18
  go_wp2_with (first | ((with_reducible refine gate_dst (N := 1) rfl ?_); refine seg_new rfl (N := 1) rfl (K36 2 0 0 0 0 c5 c6 c7 c8 c9 c10 c11 c12 c13 c14 c15 c16 c17 c18 c19 0 (.slice none 0 0) 0 0 0 0 0 0 0 0 0 0 0 0 0 0 0 0 false c39 c40) 36 ?hr ?_; (case hr => first | (go_simp; done) | (go_simp; rfl) | kernel_rfl); intro g0 hg w1 hn hl; have GEg0 := ge_new HS hg; clear hg; replace HS := HS.below hl; have Bg0 := hn; clear hl hn) | ((with_reducible refine gate_dst (N := 2) rfl ?_); refine seg_new rfl (N := 2) rfl (K36 0 0 0 0 0 0 0 0 0 0 0 0 0 0 0 false 0 0 0 0 0 (.slice none 0 0) 0 0 0 0 0 0 0 0 0 0 0 0 0 0 0 0 false 0 0) 36 ?hr ?_; (case hr => first | (go_simp; done) | (go_simp; rfl) | kernel_rfl); intro g1 hg w2 hn hl; have Ng1_g0 := ne_new Bg0 hg; have GEg1 := ge_new HS hg; clear hg; replace Bg0 := Bg0.below hl; replace HS := HS.below hl; have Bg1 := hn; clear hl hn; have kg0_0 := Bg0.at 0 rfl) | ((go_at_call 36); (with_reducible refine (parts_cubic g0 _ ((Bg0.cell 0).trans rfl)).mono ?_); rintro e w3 ⟨rfl, hd⟩; have hl := hd.below; clear hd; replace Bg0 := Bg0.below hl; replace Bg1 := Bg1.below hl; replace HS := HS.below hl; clear hl; clear kg0_0; have kg0_12 := Bg0.at 12 rfl; have zg0_12 := Bg0.frozen 12; have kg0_13 := Bg0.at 13 rfl; have zg0_13 := Bg0.frozen 13; have kg0_14 := Bg0.at 14 rfl; have zg0_14 := Bg0.frozen 14; have kg0_39 := Bg0.at 39 rfl; have kg0_40 := Bg0.at 40 rfl))
  refine start_ (n := 23) (S := fun w' => w'.cell? ⟨g0, 12, none⟩ = some (.int .u64 c12) ∧ w'.cell? ⟨g0, 39, none⟩ = some (.int .u64 c39) ∧ w'.cell? ⟨g0, 13, none⟩ = some (.int .u64 c13) ∧ w'.cell? ⟨g0, 40, none⟩ = some (.int .u64 c40)) (ds := [18, 20, 22]) (bs 23 0) (by kernel_rfl) rfl rfl ⟨((Bg0.drew.cell 12).trans rfl), ((Bg0.drew.cell 39).trans rfl), ((Bg0.drew.cell 13).trans rfl), ((Bg0.drew.cell 40).trans rfl)⟩ (fun hHeld => ?_)
  generalize hWd : World.drew w3 = w4 at hHeld ⊢
  have hl : Below w3.heap.size w3 w4 := (by rw [← hWd]; exact below_drew1 (Below.refl _ _))
  clear hWd
  replace Bg0 := Bg0.below hl; replace Bg1 := Bg1.below hl; replace HS := HS.below hl; clear hl; replace kg0_12 := Bg0.at 12 rfl; replace zg0_12 := Bg0.frozen 12; replace kg0_13 := Bg0.at 13 rfl; replace zg0_13 := Bg0.frozen 13; replace kg0_14 := Bg0.at 14 rfl; replace zg0_14 := Bg0.frozen 14; replace kg0_39 := Bg0.at 39 rfl; replace kg0_40 := Bg0.at 40 rfl
  refine pu 0 22 (.pointer (some ⟨g0, 12, none⟩)) 1 rfl rfl (by kernel_rfl) (fun _ _ _ h => h) (by rfl) (fun _ => by kernel_rfl) rfl ?_
  refine pu 1 23 (.pointer (some ⟨g0, 13, none⟩)) 3 rfl rfl (by kernel_rfl) (fun _ _ _ h => h) (by rfl) (fun _ => by kernel_rfl) rfl ?_
  refine pu 2 24 (.pointer (some ⟨g0, 14, none⟩)) 7 rfl rfl (by kernel_rfl) (fun _ _ _ h => h) (by rfl) (fun _ => by kernel_rfl) rfl ?_
  refine pu 3 25 (.pointer (some ⟨g0, 12, none⟩)) 15 rfl rfl (by kernel_rfl) (fun _ _ _ h => h) (by rfl) (fun _ => by kernel_rfl) rfl ?_
  refine pu 4 26 (.pointer (some ⟨g0, 12, none⟩)) 31 rfl rfl (by kernel_rfl) (fun _ _ _ h => h) (by rfl) (fun _ => by kernel_rfl) rfl ?_
  refine pu 6 28 (.pointer (some ⟨g0, 39, none⟩)) 95 rfl rfl (by kernel_rfl) (fun _ _ _ h => h) (by rfl) (fun _ => by kernel_rfl) rfl ?_
  refine pu 10 32 (.pointer (some ⟨g0, 13, none⟩)) 1119 rfl rfl (by kernel_rfl) (fun _ _ _ h => h) (by rfl) (fun _ => by kernel_rfl) rfl ?_
  refine pu 11 33 (.pointer (some ⟨g0, 13, none⟩)) 3167 rfl rfl (by kernel_rfl) (fun _ _ _ h => h) (by rfl) (fun _ => by kernel_rfl) rfl ?_
  refine pu 13 35 (.pointer (some ⟨g0, 40, none⟩)) 11359 rfl rfl (by kernel_rfl) (fun _ _ _ h => h) (by rfl) (fun _ => by kernel_rfl) rfl ?_
  refine norm_ (a' := ?_) ?_ ?_
  rotate_left
  · simp only [Act.put, List.setIfInBounds_toArray, List.set_cons_zero, List.set_cons_succ, i64_w, i32_w]
    rfl
  refine take_ (i := 5) (N := some 27) (v := ?_) (a' := ?_) (bs 23 11391) rfl rfl (by kernel_rfl) (fun _ _ _ h => h) (Or.inl ⟨by rfl, ?_⟩) hHeld ?_ ?_
  rotate_left
  · rintro w' ⟨s0, s1, s2, s3⟩
    go_simp
    with_reducible rfl
  rotate_left
  · simp only [Act.put, List.setIfInBounds_toArray, List.set_cons_zero, List.set_cons_succ, i64_w, i32_w]
    rfl
  refine take_ (i := 7) (N := some 29) (v := ?_) (a' := ?_) (bs 23 11519) rfl rfl (by kernel_rfl) (fun _ _ _ h => h) (Or.inl ⟨by rfl, ?_⟩) hHeld ?_ ?_
  rotate_left
  · rintro w' ⟨s0, s1, s2, s3⟩
    go_simp
    with_reducible rfl
  rotate_left
  · simp only [Act.put, List.setIfInBounds_toArray, List.set_cons_zero, List.set_cons_succ, i64_w, i32_w]
    rfl
  refine pure_ (i := 8) (N := some 30) (v := ?_) (a' := ?_) (bs 23 11775) rfl rfl (by kernel_rfl) (fun _ _ _ h => h) (Or.inl ⟨by rfl, ?_⟩) ?_ ?_
  rotate_left
  · intro w'
    go_simp
    with_reducible rfl
  rotate_left
  · simp only [Act.put, List.setIfInBounds_toArray, List.set_cons_zero, List.set_cons_succ, i64_w, i32_w]
    rfl
  refine take_ (i := 12) (N := some 34) (v := ?_) (a' := ?_) (bs 23 15871) rfl rfl (by kernel_rfl) (fun _ _ _ h => h) (Or.inl ⟨by rfl, ?_⟩) hHeld ?_ ?_
  rotate_left
  · rintro w' ⟨s0, s1, s2, s3⟩
    go_simp
    with_reducible rfl
  rotate_left
  · simp only [Act.put, List.setIfInBounds_toArray, List.set_cons_zero, List.set_cons_succ, i64_w, i32_w]
    rfl
  refine take_ (i := 14) (N := some 36) (v := ?_) (a' := ?_) (bs 23 32255) rfl rfl (by kernel_rfl) (fun _ _ _ h => h) (Or.inl ⟨by rfl, ?_⟩) hHeld ?_ ?_
  rotate_left
  · rintro w' ⟨s0, s1, s2, s3⟩
    go_simp
    with_reducible rfl
  rotate_left
  · simp only [Act.put, List.setIfInBounds_toArray, List.set_cons_zero, List.set_cons_succ, i64_w, i32_w]
    rfl
  refine pure_ (i := 15) (N := some 37) (v := ?_) (a' := ?_) (bs 23 65023) rfl rfl (by kernel_rfl) (fun _ _ _ h => h) (Or.inl ⟨by rfl, ?_⟩) ?_ ?_
  rotate_left
  · intro w'
    go_simp
    with_reducible rfl
  rotate_left
  · simp only [Act.put, List.setIfInBounds_toArray, List.set_cons_zero, List.set_cons_succ, i64_w, i32_w]
    rfl
  refine one_ (i := 9) (N := some 31) (bs 23 65535) rfl rfl (by kernel_rfl) (by decide) (fun K hK => ?_)
  refine goes_ Try.func24 (by kernel_rfl) rfl #[.int .u64 (max c12 c39)] (by rfl) rfl rfl (by simp only [List.map_toArray, List.map_cons, List.map_nil]; rfl) ?_
  with_reducible refine (reno_Held.C (max c12 c39) _).mono ?_
  rintro e w5 ⟨rfl, hd⟩
  refine ⟨_, rfl, ?_⟩
  have hl := hd.below
  clear hd
  replace Bg0 := Bg0.below hl; replace Bg1 := Bg1.below hl; replace HS := HS.below hl; clear hl; replace kg0_12 := Bg0.at 12 rfl; replace zg0_12 := Bg0.frozen 12; replace kg0_13 := Bg0.at 13 rfl; replace zg0_13 := Bg0.frozen 13; replace kg0_14 := Bg0.at 14 rfl; replace zg0_14 := Bg0.frozen 14; replace kg0_39 := Bg0.at 39 rfl; replace kg0_40 := Bg0.at 40 rfl
  refine hK.out _ _ ⟨((Bg0.cell 12).trans rfl), ((Bg0.cell 39).trans rfl), ((Bg0.cell 13).trans rfl), ((Bg0.cell 40).trans rfl)⟩ (fun hHeld => ?_)
  clear hK K
  refine norm_ (a' := ?_) ?_ ?_
  rotate_left
  · show Act.put _ (some 31) _ = _
    simp only [Act.put, List.setIfInBounds_toArray, List.set_cons_zero, List.set_cons_succ, i64_w, i32_w]
    rfl
  refine one_ (i := 16) (N := some 38) (bs 23 131071) rfl rfl (by kernel_rfl) (by decide) (fun K hK => ?_)
  refine goes_ Try.func24 (by kernel_rfl) rfl #[.int .u64 (max c13 c40)] (by rfl) rfl rfl (by simp only [List.map_toArray, List.map_cons, List.map_nil]; rfl) ?_
  with_reducible refine (reno_Held.C (max c13 c40) _).mono ?_
  rintro e w6 ⟨rfl, hd⟩
  refine ⟨_, rfl, ?_⟩
  have hl := hd.below
  clear hd
  replace Bg0 := Bg0.below hl; replace Bg1 := Bg1.below hl; replace HS := HS.below hl; clear hl; replace kg0_12 := Bg0.at 12 rfl; replace zg0_12 := Bg0.frozen 12; replace kg0_13 := Bg0.at 13 rfl; replace zg0_13 := Bg0.frozen 13; replace kg0_14 := Bg0.at 14 rfl; replace zg0_14 := Bg0.frozen 14; replace kg0_39 := Bg0.at 39 rfl; replace kg0_40 := Bg0.at 40 rfl
  refine hK.out _ _ ⟨((Bg0.cell 12).trans rfl), ((Bg0.cell 39).trans rfl), ((Bg0.cell 13).trans rfl), ((Bg0.cell 40).trans rfl)⟩ (fun hHeld => ?_)
  clear hK K
  refine norm_ (a' := ?_) ?_ ?_
  rotate_left
  · show Act.put _ (some 38) _ = _
    simp only [Act.put, List.setIfInBounds_toArray, List.set_cons_zero, List.set_cons_succ, i64_w, i32_w]
    rfl
  refine pu 17 39 (.pointer (some ⟨g0, 12, none⟩)) 262143 rfl rfl (by kernel_rfl) (fun _ _ _ h => h) (by rfl) (fun _ => by kernel_rfl) rfl ?_
  refine norm_ (a' := ?_) ?_ ?_
  rotate_left
  · simp only [Act.put, List.setIfInBounds_toArray, List.set_cons_zero, List.set_cons_succ, i64_w, i32_w]
    rfl
  refine last_ (i := 18) (N := none) (bs 23 524287) rfl rfl (by kernel_rfl) (by decide) (fun K hK => ?_)
  refine skip_ (w1 := ?_) (by rfl) rfl ?_ ?_
  rotate_left
  · go_simp
    rfl
  refine hK.out _ _ ?_
  clear hK K
  refine pu 19 40 (.pointer (some ⟨g0, 13, none⟩)) 1048575 rfl rfl (by kernel_rfl) (fun _ _ _ h => h) (by rfl) (fun _ => by kernel_rfl) rfl ?_
  refine norm_ (a' := ?_) ?_ ?_
  rotate_left
  · simp only [Act.put, List.setIfInBounds_toArray, List.set_cons_zero, List.set_cons_succ, i64_w, i32_w]
    rfl
  refine last_ (i := 20) (N := none) (bs 23 2097151) rfl rfl (by kernel_rfl) (by decide) (fun K hK => ?_)
  refine skip_ (w1 := ?_) (by rfl) rfl ?_ ?_
  rotate_left
  · go_simp
    rfl
  refine hK.out _ _ ?_
  clear hK K
  refine pu 21 41 (.pointer (some ⟨g0, 14, none⟩)) 4194303 rfl rfl (by kernel_rfl) (fun _ _ _ h => h) (by rfl) (fun _ => by kernel_rfl) rfl ?_
  refine norm_ (a' := ?_) ?_ ?_
  rotate_left
  · simp only [Act.put, List.setIfInBounds_toArray, List.set_cons_zero, List.set_cons_succ, i64_w, i32_w]
    rfl
  refine last_ (i := 22) (N := none) (bs 23 8388607) rfl rfl (by kernel_rfl) (by decide) (fun K hK => ?_)
  refine skip_ (w1 := ?_) (by rfl) rfl ?_ ?_
  rotate_left
  · go_simp
    rfl
  refine hK.out _ _ ?_
  clear hK K
  refine done_ (by kernel_rfl) ?_
  refine letter ?_
  intro w7 hW
  have Bn_ : Blk w7 g0 36 (K36 2 0 0 0 0 c5 c6 c7 c8 c9 c10 c11 (uHeld (max c12 c39)) (uHeld (max c13 c40)) 0 c15 c16 c17 c18 c19 0 (.slice none 0 0) 0 0 0 0 0 0 0 0 0 0 0 0 0 0 0 0 false c39 c40) := (by rw [hW]; (repeat (first | (with_reducible refine Blk.drewN ?_ _) | (with_reducible refine Blk.drew ?_))); refine Blk.set (l := (K36 2 0 0 0 0 c5 c6 c7 c8 c9 c10 c11 (uHeld (max c12 c39)) (uHeld (max c13 c40)) c14 c15 c16 c17 c18 c19 0 (.slice none 0 0) 0 0 0 0 0 0 0 0 0 0 0 0 0 0 0 0 false c39 c40)) ?_ 14 _ rfl; (repeat (first | (with_reducible refine Blk.drewN ?_ _) | (with_reducible refine Blk.drew ?_))); refine Blk.set (l := (K36 2 0 0 0 0 c5 c6 c7 c8 c9 c10 c11 (uHeld (max c12 c39)) c13 c14 c15 c16 c17 c18 c19 0 (.slice none 0 0) 0 0 0 0 0 0 0 0 0 0 0 0 0 0 0 0 false c39 c40)) ?_ 13 _ rfl; (repeat (first | (with_reducible refine Blk.drewN ?_ _) | (with_reducible refine Blk.drew ?_))); refine Blk.set (l := (K36 2 0 0 0 0 c5 c6 c7 c8 c9 c10 c11 c12 c13 c14 c15 c16 c17 c18 c19 0 (.slice none 0 0) 0 0 0 0 0 0 0 0 0 0 0 0 0 0 0 0 false c39 c40)) ?_ 12 _ rfl; (repeat (first | (with_reducible refine Blk.drewN ?_ _) | (with_reducible refine Blk.drew ?_))); exact Bg0)
  replace Bg0 := Bn_
  clear Bn_
  have Bn_ : Blk w7 g1 36 (K36 0 0 0 0 0 0 0 0 0 0 0 0 0 0 0 false 0 0 0 0 0 (.slice none 0 0) 0 0 0 0 0 0 0 0 0 0 0 0 0 0 0 0 false 0 0) := (by rw [hW]; (repeat (first | (with_reducible refine Blk.drewN ?_ _) | (with_reducible refine Blk.drew ?_))); refine Blk.setFar ?_ Ng1_g0; (repeat (first | (with_reducible refine Blk.drewN ?_ _) | (with_reducible refine Blk.drew ?_))); refine Blk.setFar ?_ Ng1_g0; (repeat (first | (with_reducible refine Blk.drewN ?_ _) | (with_reducible refine Blk.drew ?_))); refine Blk.setFar ?_ Ng1_g0; (repeat (first | (with_reducible refine Blk.drewN ?_ _) | (with_reducible refine Blk.drew ?_))); exact Bg1)
  replace Bg1 := Bn_
  clear Bn_
  have HS_ : Since w w7 := (by rw [hW]; repeat (first | (with_reducible exact HS) | (with_reducible refine Since.drewN ?_ _) | (with_reducible refine Since.drew ?_) | (with_reducible refine Since.set ?_ GEg0)))
  replace HS := HS_
  clear HS_ hW
  clear kg0_12 zg0_12 kg0_13 zg0_13 kg0_14 zg0_14 kg0_39 kg0_40
  go_wp2_with (first | ((with_reducible refine gate_ (.store 23 (.tmp 42) (.const (.int .u64 0))) rfl ?_); refine seg_store rfl rfl 23 (.tmp 42) (.const (.int .u64 0)) rfl g0 39 [.int .u64 0] (K36 2 0 0 0 0 c5 c6 c7 c8 c9 c10 c11 (uHeld (max c12 c39)) (uHeld (max c13 c40)) 0 c15 c16 c17 c18 c19 0 (.slice none 0 0) 0 0 0 0 0 0 0 0 0 0 0 0 0 0 0 0 false 0 c40) (.int .u64 0) ?hx ?hy rfl Bg0 (by kernel_rfl) (Nat.le_of_ble_eq_true rfl) rfl rfl ?_; (case hx => first | rfl | (go_simp; done) | (go_simp; rfl)); (case hy => first | rfl | (go_simp; done) | (go_simp; rfl)); intro w8 hn hw; replace Bg1 := Bg1.grown hw Ng1_g0; replace HS := HS.grown hw GEg0; replace Bg0 := hn; clear hw; clear hn) | ((with_reducible refine gate_ (.store 23 (.tmp 43) (.const (.int .u64 0))) rfl ?_); refine seg_store rfl rfl 23 (.tmp 43) (.const (.int .u64 0)) rfl g0 40 [.int .u64 0] (K36 2 0 0 0 0 c5 c6 c7 c8 c9 c10 c11 (uHeld (max c12 c39)) (uHeld (max c13 c40)) 0 c15 c16 c17 c18 c19 0 (.slice none 0 0) 0 0 0 0 0 0 0 0 0 0 0 0 0 0 0 0 false 0 0) (.int .u64 0) ?hx ?hy rfl Bg0 (by kernel_rfl) (Nat.le_of_ble_eq_true rfl) rfl rfl ?_; (case hx => first | rfl | (go_simp; done) | (go_simp; rfl)); (case hy => first | rfl | (go_simp; done) | (go_simp; rfl)); intro w9 hn hw; replace Bg1 := Bg1.grown hw Ng1_g0; replace HS := HS.grown hw GEg0; replace Bg0 := hn; clear hw; clear hn) | ((with_reducible refine gate_dst (N := 44) rfl ?_); refine seg_load rfl (N := 44) rfl 36 (.tmp 1) rfl g0 0 (K36 2 0 0 0 0 c5 c6 c7 c8 c9 c10 c11 (uHeld (max c12 c39)) (uHeld (max c13 c40)) 0 c15 c16 c17 c18 c19 0 (.slice none 0 0) 0 0 0 0 0 0 0 0 0 0 0 0 0 0 0 0 false 0 0) ?hx Bg0 rfl Try.underlying36 rfl (by kernel_rfl) ?_; (case hx => first | rfl | (go_simp; done) | (go_simp; rfl))) | ((with_reducible refine gate_ (.store 36 (.tmp 2) (.tmp 44)) rfl ?_); refine seg_store rfl rfl 36 (.tmp 2) (.tmp 44) rfl g1 0 (K36 2 0 0 0 0 c5 c6 c7 c8 c9 c10 c11 (uHeld (max c12 c39)) (uHeld (max c13 c40)) 0 c15 c16 c17 c18 c19 0 (.slice none 0 0) 0 0 0 0 0 0 0 0 0 0 0 0 0 0 0 0 false 0 0) (K36 2 0 0 0 0 c5 c6 c7 c8 c9 c10 c11 (uHeld (max c12 c39)) (uHeld (max c13 c40)) 0 c15 c16 c17 c18 c19 0 (.slice none 0 0) 0 0 0 0 0 0 0 0 0 0 0 0 0 0 0 0 false 0 0) (.agg (K36 2 0 0 0 0 c5 c6 c7 c8 c9 c10 c11 (uHeld (max c12 c39)) (uHeld (max c13 c40)) 0 c15 c16 c17 c18 c19 0 (.slice none 0 0) 0 0 0 0 0 0 0 0 0 0 0 0 0 0 0 0 false 0 0).toArray) ?hx ?hy rfl Bg1 (by kernel_rfl) (Nat.le_of_ble_eq_true rfl) rfl rfl ?_; (case hx => first | rfl | (go_simp; done) | (go_simp; rfl)); (case hy => first | rfl | (go_simp; done) | (go_simp; rfl)); intro w10 hn hw; replace Bg0 := Bg0.grown hw Ng1_g0.symm; replace HS := HS.grown hw GEg1; replace Bg1 := hn; clear hw; clear hn))
  all_goals exact bodyPost_ret (results_cell1 rfl _ _ g1 36 (K36 2 0 0 0 0 c5 c6 c7 c8 c9 c10 c11 (uHeld (max c12 c39)) (uHeld (max c13 c40)) 0 c15 c16 c17 c18 c19 0 (.slice none 0 0) 0 0 0 0 0 0 0 0 0 0 0 0 0 0 0 0 false 0 0) _ rfl Bg1 Try.underlying36 rfl (by kernel_rfl)) rfl ⟨_, _, _, _, _, _, _, _, _, _, _, _, _, _, _, _, _, rfl, (uHeld_in _), hp_c5, Wc6, Wc7, Wc8, Wc9, Wc10, Wc11, (uHeld_w _), (uHeld_w _), (by decide), Wc16, Wc17, Wc18, Wc19, (by decide), (by decide), ⟨undo_ge hb_c12, fun h_ => undo_old h_, rfl⟩, HS.out⟩
theorem undoS2 (c5 : Int) (c6 : Int) (c7 : Int) (c8 : Int) (c9 : Int) (c10 : Int) (c11 : Int) (c12 : Int) (c13 : Int) (c14 : Int) (c15 : Bool) (c16 : Int) (c17 : Int) (c18 : Int) (c19 : Int) (c39 : Int) (c40 : Int) (Wc6 : W64 c6) (Wc7 : W64 c7) (Wc8 : W64 c8) (Wc9 : W64 c9) (Wc10 : W64 c10) (Wc11 : W64 c11) (Wc12 : W64 c12) (Wc13 : W64 c13) (Wc14 : W64 c14) (Wc16 : W64 c16) (Wc17 : W64 c17) (Wc18 : W64 c18) (Wc19 : W64 c19) (Wc39 : W64 c39) (Wc40 : W64 c40) (hb_c12 : 2400 ≤ c12 ∧ c12 ≤ 16777216) (hp_c5 : c5 = 0 ∨ c5 = 1 ∨ c5 = 2) (w : World) :
    Calls Try.prog 18 #[.agg (K36 2 0 0 0 0 c5 c6 c7 c8 c9 c10 c11 c12 c13 c14 c15 c16 c17 c18 c19 0 (.slice none 0 0) 0 0 0 0 0 0 0 0 0 0 0 0 0 0 0 0 false c39 c40).toArray] w fun e w' => ∃ (a5 a6 a7 a8 a9 a10 a11 a12 a13 a14 a16 a17 a18 a19 a39 a40 : Int) (a15 : Bool), e = .returned (.agg (K36 2 0 0 0 0 a5 a6 a7 a8 a9 a10 a11 a12 a13 a14 a15 a16 a17 a18 a19 0 (.slice none 0 0) 0 0 0 0 0 0 0 0 0 0 0 0 0 0 0 0 false a39 a40).toArray) ∧ (2400 ≤ a12 ∧ a12 ≤ 16777216) ∧ (a5 = 0 ∨ a5 = 1 ∨ a5 = 2) ∧ W64 a6 ∧ W64 a7 ∧ W64 a8 ∧ W64 a9 ∧ W64 a10 ∧ W64 a11 ∧ W64 a12 ∧ W64 a13 ∧ W64 a14 ∧ W64 a16 ∧ W64 a17 ∧ W64 a18 ∧ W64 a19 ∧ W64 a39 ∧ W64 a40 ∧ (c12 ≤ a12 ∧ (c39 ≤ 16777216 → c39 ≤ a12) ∧ a39 = 0) ∧ Below w.heap.size w w' := by
  exact undoS2w_0 c5 c6 c7 c8 c9 c10 c11 c12 c13 c14 c16 c17 c18 c19 c39 c40 c15 Wc6 Wc7 Wc8 Wc9 Wc10 Wc11 Wc12 Wc13 Wc14 Wc16 Wc17 Wc18 Wc19 Wc39 Wc40 w hb_c12 hp_c5 
set_option maxRecDepth 100000 in
set_option maxHeartbeats 4000000 in
theorem undoS4w_0 (c5 c6 c7 c8 c9 c10 c11 c30 c31 c32 c33 c34 c35 c36 c37 c39 c40 : Int) (c38 : Bool) (Wc6 : W64 c6) (Wc7 : W64 c7) (Wc8 : W64 c8) (Wc9 : W64 c9) (Wc10 : W64 c10) (Wc11 : W64 c11) (Wc30 : W64 c30) (Wc31 : W64 c31) (Wc32 : W64 c32) (Wc33 : W64 c33) (Wc34 : W64 c34) (Wc35 : W64 c35) (Wc36 : W64 c36) (Wc37 : W64 c37) (Wc39 : W64 c39) (Wc40 : W64 c40) (w : World) (hb_c30 : 2400 ≤ c30 ∧ c30 ≤ 16777216) (hp_c5 : c5 = 0 ∨ c5 = 1 ∨ c5 = 2) :
    Calls Try.prog 18 #[.agg (K36 4 0 0 0 0 c5 c6 c7 c8 c9 c10 c11 0 0 0 false 0 0 0 0 0 (.slice none 0 0) 0 0 0 0 0 0 0 0 c30 c31 c32 c33 c34 c35 c36 c37 c38 c39 c40).toArray] w fun e w' => ∃ (a5 a6 a7 a8 a9 a10 a11 a30 a31 a32 a33 a34 a35 a36 a37 a39 a40 : Int) (a38 : Bool), e = .returned (.agg (K36 4 0 0 0 0 a5 a6 a7 a8 a9 a10 a11 0 0 0 false 0 0 0 0 0 (.slice none 0 0) 0 0 0 0 0 0 0 0 a30 a31 a32 a33 a34 a35 a36 a37 a38 a39 a40).toArray) ∧ (2400 ≤ a30 ∧ a30 ≤ 16777216) ∧ (a5 = 0 ∨ a5 = 1 ∨ a5 = 2) ∧ W64 a6 ∧ W64 a7 ∧ W64 a8 ∧ W64 a9 ∧ W64 a10 ∧ W64 a11 ∧ W64 a30 ∧ W64 a31 ∧ W64 a32 ∧ W64 a33 ∧ W64 a34 ∧ W64 a35 ∧ W64 a36 ∧ W64 a37 ∧ W64 a39 ∧ W64 a40 ∧ (c30 ≤ a30 ∧ (c39 ≤ 16777216 → c39 ≤ a30) ∧ a39 = 0) ∧ Below w.heap.size w w' := by
  have hu36 := Try.underlying36
  have HS := Since.refl w
  go_enter Try.func18, Try.ntmps18
  go_wp2_with (first | ((with_reducible refine gate_dst (N := 1) rfl ?_); refine seg_new rfl (N := 1) rfl (K36 4 0 0 0 0 c5 c6 c7 c8 c9 c10 c11 0 0 0 false 0 0 0 0 0 (.slice none 0 0) 0 0 0 0 0 0 0 0 c30 c31 c32 c33 c34 c35 c36 c37 c38 c39 c40) 36 ?hr ?_; (case hr => first | (go_simp; done) | (go_simp; rfl) | kernel_rfl); intro g0 hg w1 hn hl; have GEg0 := ge_new HS hg; clear hg; replace HS := HS.below hl; have Bg0 := hn; clear hl hn) | ((with_reducible refine gate_dst (N := 2) rfl ?_); refine seg_new rfl (N := 2) rfl (K36 0 0 0 0 0 0 0 0 0 0 0 0 0 0 0 false 0 0 0 0 0 (.slice none 0 0) 0 0 0 0 0 0 0 0 0 0 0 0 0 0 0 0 false 0 0) 36 ?hr ?_; (case hr => first | (go_simp; done) | (go_simp; rfl) | kernel_rfl); intro g1 hg w2 hn hl; have Ng1_g0 := ne_new Bg0 hg; have GEg1 := ge_new HS hg; clear hg; replace Bg0 := Bg0.below hl; replace HS := HS.below hl; have Bg1 := hn; clear hl hn; have kg0_0 := Bg0.at 0 rfl) | ((go_at_call 36); (with_reducible refine (parts_prague g0 _ ((Bg0.cell 0).trans rfl)).mono ?_); rintro e w3 ⟨rfl, hd⟩; have hl := hd.below; clear hd; replace Bg0 := Bg0.below hl; replace Bg1 := Bg1.below hl; replace HS := HS.below hl; clear hl; clear kg0_0; have kg0_30 := Bg0.at 30 rfl; have zg0_30 := Bg0.frozen 30; have kg0_31 := Bg0.at 31 rfl; have zg0_31 := Bg0.frozen 31; have kg0_32 := Bg0.at 32 rfl; have zg0_32 := Bg0.frozen 32; have kg0_39 := Bg0.at 39 rfl; have kg0_40 := Bg0.at 40 rfl))
  refine start_ (n := 23) (S := fun w' => w'.cell? ⟨g0, 30, none⟩ = some (.int .u64 c30) ∧ w'.cell? ⟨g0, 39, none⟩ = some (.int .u64 c39) ∧ w'.cell? ⟨g0, 31, none⟩ = some (.int .u64 c31) ∧ w'.cell? ⟨g0, 40, none⟩ = some (.int .u64 c40)) (ds := [18, 20, 22]) (bs 23 0) (by kernel_rfl) rfl rfl ⟨((Bg0.drew.cell 30).trans rfl), ((Bg0.drew.cell 39).trans rfl), ((Bg0.drew.cell 31).trans rfl), ((Bg0.drew.cell 40).trans rfl)⟩ (fun hHeld => ?_)
  generalize hWd : World.drew w3 = w4 at hHeld ⊢
  have hl : Below w3.heap.size w3 w4 := (by rw [← hWd]; exact below_drew1 (Below.refl _ _))
  clear hWd
  replace Bg0 := Bg0.below hl; replace Bg1 := Bg1.below hl; replace HS := HS.below hl; clear hl; replace kg0_30 := Bg0.at 30 rfl; replace zg0_30 := Bg0.frozen 30; replace kg0_31 := Bg0.at 31 rfl; replace zg0_31 := Bg0.frozen 31; replace kg0_32 := Bg0.at 32 rfl; replace zg0_32 := Bg0.frozen 32; replace kg0_39 := Bg0.at 39 rfl; replace kg0_40 := Bg0.at 40 rfl
  refine pu 0 22 (.pointer (some ⟨g0, 30, none⟩)) 1 rfl rfl (by kernel_rfl) (fun _ _ _ h => h) (by rfl) (fun _ => by kernel_rfl) rfl ?_
  refine pu 1 23 (.pointer (some ⟨g0, 31, none⟩)) 3 rfl rfl (by kernel_rfl) (fun _ _ _ h => h) (by rfl) (fun _ => by kernel_rfl) rfl ?_
  refine pu 2 24 (.pointer (some ⟨g0, 32, none⟩)) 7 rfl rfl (by kernel_rfl) (fun _ _ _ h => h) (by rfl) (fun _ => by kernel_rfl) rfl ?_
  refine pu 3 25 (.pointer (some ⟨g0, 30, none⟩)) 15 rfl rfl (by kernel_rfl) (fun _ _ _ h => h) (by rfl) (fun _ => by kernel_rfl) rfl ?_
  refine pu 4 26 (.pointer (some ⟨g0, 30, none⟩)) 31 rfl rfl (by kernel_rfl) (fun _ _ _ h => h) (by rfl) (fun _ => by kernel_rfl) rfl ?_
  refine pu 6 28 (.pointer (some ⟨g0, 39, none⟩)) 95 rfl rfl (by kernel_rfl) (fun _ _ _ h => h) (by rfl) (fun _ => by kernel_rfl) rfl ?_
  refine pu 10 32 (.pointer (some ⟨g0, 31, none⟩)) 1119 rfl rfl (by kernel_rfl) (fun _ _ _ h => h) (by rfl) (fun _ => by kernel_rfl) rfl ?_
  refine pu 11 33 (.pointer (some ⟨g0, 31, none⟩)) 3167 rfl rfl (by kernel_rfl) (fun _ _ _ h => h) (by rfl) (fun _ => by kernel_rfl) rfl ?_
  refine pu 13 35 (.pointer (some ⟨g0, 40, none⟩)) 11359 rfl rfl (by kernel_rfl) (fun _ _ _ h => h) (by rfl) (fun _ => by kernel_rfl) rfl ?_
  refine norm_ (a' := ?_) ?_ ?_
  rotate_left
  · simp only [Act.put, List.setIfInBounds_toArray, List.set_cons_zero, List.set_cons_succ, i64_w, i32_w]
    rfl
  refine take_ (i := 5) (N := some 27) (v := ?_) (a' := ?_) (bs 23 11391) rfl rfl (by kernel_rfl) (fun _ _ _ h => h) (Or.inl ⟨by rfl, ?_⟩) hHeld ?_ ?_
  rotate_left
  · rintro w' ⟨s0, s1, s2, s3⟩
    go_simp
    with_reducible rfl
  rotate_left
  · simp only [Act.put, List.setIfInBounds_toArray, List.set_cons_zero, List.set_cons_succ, i64_w, i32_w]
    rfl
  refine take_ (i := 7) (N := some 29) (v := ?_) (a' := ?_) (bs 23 11519) rfl rfl (by kernel_rfl) (fun _ _ _ h => h) (Or.inl ⟨by rfl, ?_⟩) hHeld ?_ ?_
  rotate_left
  · rintro w' ⟨s0, s1, s2, s3⟩
    go_simp
    with_reducible rfl
  rotate_left
  · simp only [Act.put, List.setIfInBounds_toArray, List.set_cons_zero, List.set_cons_succ, i64_w, i32_w]
    rfl
  refine pure_ (i := 8) (N := some 30) (v := ?_) (a' := ?_) (bs 23 11775) rfl rfl (by kernel_rfl) (fun _ _ _ h => h) (Or.inl ⟨by rfl, ?_⟩) ?_ ?_
  rotate_left
  · intro w'
    go_simp
    with_reducible rfl
  rotate_left
  · simp only [Act.put, List.setIfInBounds_toArray, List.set_cons_zero, List.set_cons_succ, i64_w, i32_w]
    rfl
  refine take_ (i := 12) (N := some 34) (v := ?_) (a' := ?_) (bs 23 15871) rfl rfl (by kernel_rfl) (fun _ _ _ h => h) (Or.inl ⟨by rfl, ?_⟩) hHeld ?_ ?_
  rotate_left
  · rintro w' ⟨s0, s1, s2, s3⟩
    go_simp
    with_reducible rfl
  rotate_left
  · simp only [Act.put, List.setIfInBounds_toArray, List.set_cons_zero, List.set_cons_succ, i64_w, i32_w]
    rfl
  refine take_ (i := 14) (N := some 36) (v := ?_) (a' := ?_) (bs 23 32255) rfl rfl (by kernel_rfl) (fun _ _ _ h => h) (Or.inl ⟨by rfl, ?_⟩) hHeld ?_ ?_
  rotate_left
  · rintro w' ⟨s0, s1, s2, s3⟩
    go_simp
    with_reducible rfl
  rotate_left
  · simp only [Act.put, List.setIfInBounds_toArray, List.set_cons_zero, List.set_cons_succ, i64_w, i32_w]
    rfl
  refine pure_ (i := 15) (N := some 37) (v := ?_) (a' := ?_) (bs 23 65023) rfl rfl (by kernel_rfl) (fun _ _ _ h => h) (Or.inl ⟨by rfl, ?_⟩) ?_ ?_
  rotate_left
  · intro w'
    go_simp
    with_reducible rfl
  rotate_left
  · simp only [Act.put, List.setIfInBounds_toArray, List.set_cons_zero, List.set_cons_succ, i64_w, i32_w]
    rfl
  refine one_ (i := 9) (N := some 31) (bs 23 65535) rfl rfl (by kernel_rfl) (by decide) (fun K hK => ?_)
  refine goes_ Try.func24 (by kernel_rfl) rfl #[.int .u64 (max c30 c39)] (by rfl) rfl rfl (by simp only [List.map_toArray, List.map_cons, List.map_nil]; rfl) ?_
  with_reducible refine (reno_Held.C (max c30 c39) _).mono ?_
  rintro e w5 ⟨rfl, hd⟩
  refine ⟨_, rfl, ?_⟩
  have hl := hd.below
  clear hd
  replace Bg0 := Bg0.below hl; replace Bg1 := Bg1.below hl; replace HS := HS.below hl; clear hl; replace kg0_30 := Bg0.at 30 rfl; replace zg0_30 := Bg0.frozen 30; replace kg0_31 := Bg0.at 31 rfl; replace zg0_31 := Bg0.frozen 31; replace kg0_32 := Bg0.at 32 rfl; replace zg0_32 := Bg0.frozen 32; replace kg0_39 := Bg0.at 39 rfl; replace kg0_40 := Bg0.at 40 rfl
  refine hK.out _ _ ⟨((Bg0.cell 30).trans rfl), ((Bg0.cell 39).trans rfl), ((Bg0.cell 31).trans rfl), ((Bg0.cell 40).trans rfl)⟩ (fun hHeld => ?_)
  clear hK K
  refine norm_ (a' := ?_) ?_ ?_
  rotate_left
  · show Act.put _ (some 31) _ = _
    simp only [Act.put, List.setIfInBounds_toArray, List.set_cons_zero, List.set_cons_succ, i64_w, i32_w]
    rfl
  refine one_ (i := 16) (N := some 38) (bs 23 131071) rfl rfl (by kernel_rfl) (by decide) (fun K hK => ?_)
  refine goes_ Try.func24 (by kernel_rfl) rfl #[.int .u64 (max c31 c40)] (by rfl) rfl rfl (by simp only [List.map_toArray, List.map_cons, List.map_nil]; rfl) ?_
  with_reducible refine (reno_Held.C (max c31 c40) _).mono ?_
  rintro e w6 ⟨rfl, hd⟩
  refine ⟨_, rfl, ?_⟩
  have hl := hd.below
  clear hd
  replace Bg0 := Bg0.below hl; replace Bg1 := Bg1.below hl; replace HS := HS.below hl; clear hl; replace kg0_30 := Bg0.at 30 rfl; replace zg0_30 := Bg0.frozen 30; replace kg0_31 := Bg0.at 31 rfl; replace zg0_31 := Bg0.frozen 31; replace kg0_32 := Bg0.at 32 rfl; replace zg0_32 := Bg0.frozen 32; replace kg0_39 := Bg0.at 39 rfl; replace kg0_40 := Bg0.at 40 rfl
  refine hK.out _ _ ⟨((Bg0.cell 30).trans rfl), ((Bg0.cell 39).trans rfl), ((Bg0.cell 31).trans rfl), ((Bg0.cell 40).trans rfl)⟩ (fun hHeld => ?_)
  clear hK K
  refine norm_ (a' := ?_) ?_ ?_
  rotate_left
  · show Act.put _ (some 38) _ = _
    simp only [Act.put, List.setIfInBounds_toArray, List.set_cons_zero, List.set_cons_succ, i64_w, i32_w]
    rfl
  refine pu 17 39 (.pointer (some ⟨g0, 30, none⟩)) 262143 rfl rfl (by kernel_rfl) (fun _ _ _ h => h) (by rfl) (fun _ => by kernel_rfl) rfl ?_
  refine norm_ (a' := ?_) ?_ ?_
  rotate_left
  · simp only [Act.put, List.setIfInBounds_toArray, List.set_cons_zero, List.set_cons_succ, i64_w, i32_w]
    rfl
  refine last_ (i := 18) (N := none) (bs 23 524287) rfl rfl (by kernel_rfl) (by decide) (fun K hK => ?_)
  refine skip_ (w1 := ?_) (by rfl) rfl ?_ ?_
  rotate_left
  · go_simp
    rfl
  refine hK.out _ _ ?_
  clear hK K
  refine pu 19 40 (.pointer (some ⟨g0, 31, none⟩)) 1048575 rfl rfl (by kernel_rfl) (fun _ _ _ h => h) (by rfl) (fun _ => by kernel_rfl) rfl ?_
  refine norm_ (a' := ?_) ?_ ?_
  rotate_left
  · simp only [Act.put, List.setIfInBounds_toArray, List.set_cons_zero, List.set_cons_succ, i64_w, i32_w]
    rfl
  refine last_ (i := 20) (N := none) (bs 23 2097151) rfl rfl (by kernel_rfl) (by decide) (fun K hK => ?_)
  refine skip_ (w1 := ?_) (by rfl) rfl ?_ ?_
  rotate_left
  · go_simp
    rfl
  refine hK.out _ _ ?_
  clear hK K
  refine pu 21 41 (.pointer (some ⟨g0, 32, none⟩)) 4194303 rfl rfl (by kernel_rfl) (fun _ _ _ h => h) (by rfl) (fun _ => by kernel_rfl) rfl ?_
  refine norm_ (a' := ?_) ?_ ?_
  rotate_left
  · simp only [Act.put, List.setIfInBounds_toArray, List.set_cons_zero, List.set_cons_succ, i64_w, i32_w]
    rfl
  refine last_ (i := 22) (N := none) (bs 23 8388607) rfl rfl (by kernel_rfl) (by decide) (fun K hK => ?_)
  refine skip_ (w1 := ?_) (by rfl) rfl ?_ ?_
  rotate_left
  · go_simp
    rfl
  refine hK.out _ _ ?_
  clear hK K
  refine done_ (by kernel_rfl) ?_
  refine letter ?_
  intro w7 hW
  have Bn_ : Blk w7 g0 36 (K36 4 0 0 0 0 c5 c6 c7 c8 c9 c10 c11 0 0 0 false 0 0 0 0 0 (.slice none 0 0) 0 0 0 0 0 0 0 0 (uHeld (max c30 c39)) (uHeld (max c31 c40)) 0 c33 c34 c35 c36 c37 c38 c39 c40) := (by rw [hW]; (repeat (first | (with_reducible refine Blk.drewN ?_ _) | (with_reducible refine Blk.drew ?_))); refine Blk.set (l := (K36 4 0 0 0 0 c5 c6 c7 c8 c9 c10 c11 0 0 0 false 0 0 0 0 0 (.slice none 0 0) 0 0 0 0 0 0 0 0 (uHeld (max c30 c39)) (uHeld (max c31 c40)) c32 c33 c34 c35 c36 c37 c38 c39 c40)) ?_ 32 _ rfl; (repeat (first | (with_reducible refine Blk.drewN ?_ _) | (with_reducible refine Blk.drew ?_))); refine Blk.set (l := (K36 4 0 0 0 0 c5 c6 c7 c8 c9 c10 c11 0 0 0 false 0 0 0 0 0 (.slice none 0 0) 0 0 0 0 0 0 0 0 (uHeld (max c30 c39)) c31 c32 c33 c34 c35 c36 c37 c38 c39 c40)) ?_ 31 _ rfl; (repeat (first | (with_reducible refine Blk.drewN ?_ _) | (with_reducible refine Blk.drew ?_))); refine Blk.set (l := (K36 4 0 0 0 0 c5 c6 c7 c8 c9 c10 c11 0 0 0 false 0 0 0 0 0 (.slice none 0 0) 0 0 0 0 0 0 0 0 c30 c31 c32 c33 c34 c35 c36 c37 c38 c39 c40)) ?_ 30 _ rfl; (repeat (first | (with_reducible refine Blk.drewN ?_ _) | (with_reducible refine Blk.drew ?_))); exact Bg0)
  replace Bg0 := Bn_
  clear Bn_
  have Bn_ : Blk w7 g1 36 (K36 0 0 0 0 0 0 0 0 0 0 0 0 0 0 0 false 0 0 0 0 0 (.slice none 0 0) 0 0 0 0 0 0 0 0 0 0 0 0 0 0 0 0 false 0 0) := (by rw [hW]; (repeat (first | (with_reducible refine Blk.drewN ?_ _) | (with_reducible refine Blk.drew ?_))); refine Blk.setFar ?_ Ng1_g0; (repeat (first | (with_reducible refine Blk.drewN ?_ _) | (with_reducible refine Blk.drew ?_))); refine Blk.setFar ?_ Ng1_g0; (repeat (first | (with_reducible refine Blk.drewN ?_ _) | (with_reducible refine Blk.drew ?_))); refine Blk.setFar ?_ Ng1_g0; (repeat (first | (with_reducible refine Blk.drewN ?_ _) | (with_reducible refine Blk.drew ?_))); exact Bg1)
  replace Bg1 := Bn_
  clear Bn_
  have HS_ : Since w w7 := (by rw [hW]; repeat (first | (with_reducible exact HS) | (with_reducible refine Since.drewN ?_ _) | (with_reducible refine Since.drew ?_) | (with_reducible refine Since.set ?_ GEg0)))
  replace HS := HS_
  clear HS_ hW
  clear kg0_30 zg0_30 kg0_31 zg0_31 kg0_32 zg0_32 kg0_39 kg0_40
  go_wp2_with (first | ((with_reducible refine gate_ (.store 23 (.tmp 42) (.const (.int .u64 0))) rfl ?_); refine seg_store rfl rfl 23 (.tmp 42) (.const (.int .u64 0)) rfl g0 39 [.int .u64 0] (K36 4 0 0 0 0 c5 c6 c7 c8 c9 c10 c11 0 0 0 false 0 0 0 0 0 (.slice none 0 0) 0 0 0 0 0 0 0 0 (uHeld (max c30 c39)) (uHeld (max c31 c40)) 0 c33 c34 c35 c36 c37 c38 0 c40) (.int .u64 0) ?hx ?hy rfl Bg0 (by kernel_rfl) (Nat.le_of_ble_eq_true rfl) rfl rfl ?_; (case hx => first | rfl | (go_simp; done) | (go_simp; rfl)); (case hy => first | rfl | (go_simp; done) | (go_simp; rfl)); intro w8 hn hw; replace Bg1 := Bg1.grown hw Ng1_g0; replace HS := HS.grown hw GEg0; replace Bg0 := hn; clear hw; clear hn) | ((with_reducible refine gate_ (.store 23 (.tmp 43) (.const (.int .u64 0))) rfl ?_); refine seg_store rfl rfl 23 (.tmp 43) (.const (.int .u64 0)) rfl g0 40 [.int .u64 0] (K36 4 0 0 0 0 c5 c6 c7 c8 c9 c10 c11 0 0 0 false 0 0 0 0 0 (.slice none 0 0) 0 0 0 0 0 0 0 0 (uHeld (max c30 c39)) (uHeld (max c31 c40)) 0 c33 c34 c35 c36 c37 c38 0 0) (.int .u64 0) ?hx ?hy rfl Bg0 (by kernel_rfl) (Nat.le_of_ble_eq_true rfl) rfl rfl ?_; (case hx => first | rfl | (go_simp; done) | (go_simp; rfl)); (case hy => first | rfl | (go_simp; done) | (go_simp; rfl)); intro w9 hn hw; replace Bg1 := Bg1.grown hw Ng1_g0; replace HS := HS.grown hw GEg0; replace Bg0 := hn; clear hw; clear hn) | ((with_reducible refine gate_dst (N := 44) rfl ?_); refine seg_load rfl (N := 44) rfl 36 (.tmp 1) rfl g0 0 (K36 4 0 0 0 0 c5 c6 c7 c8 c9 c10 c11 0 0 0 false 0 0 0 0 0 (.slice none 0 0) 0 0 0 0 0 0 0 0 (uHeld (max c30 c39)) (uHeld (max c31 c40)) 0 c33 c34 c35 c36 c37 c38 0 0) ?hx Bg0 rfl Try.underlying36 rfl (by kernel_rfl) ?_; (case hx => first | rfl | (go_simp; done) | (go_simp; rfl))) | ((with_reducible refine gate_ (.store 36 (.tmp 2) (.tmp 44)) rfl ?_); refine seg_store rfl rfl 36 (.tmp 2) (.tmp 44) rfl g1 0 (K36 4 0 0 0 0 c5 c6 c7 c8 c9 c10 c11 0 0 0 false 0 0 0 0 0 (.slice none 0 0) 0 0 0 0 0 0 0 0 (uHeld (max c30 c39)) (uHeld (max c31 c40)) 0 c33 c34 c35 c36 c37 c38 0 0) (K36 4 0 0 0 0 c5 c6 c7 c8 c9 c10 c11 0 0 0 false 0 0 0 0 0 (.slice none 0 0) 0 0 0 0 0 0 0 0 (uHeld (max c30 c39)) (uHeld (max c31 c40)) 0 c33 c34 c35 c36 c37 c38 0 0) (.agg (K36 4 0 0 0 0 c5 c6 c7 c8 c9 c10 c11 0 0 0 false 0 0 0 0 0 (.slice none 0 0) 0 0 0 0 0 0 0 0 (uHeld (max c30 c39)) (uHeld (max c31 c40)) 0 c33 c34 c35 c36 c37 c38 0 0).toArray) ?hx ?hy rfl Bg1 (by kernel_rfl) (Nat.le_of_ble_eq_true rfl) rfl rfl ?_; (case hx => first | rfl | (go_simp; done) | (go_simp; rfl)); (case hy => first | rfl | (go_simp; done) | (go_simp; rfl)); intro w10 hn hw; replace Bg0 := Bg0.grown hw Ng1_g0.symm; replace HS := HS.grown hw GEg1; replace Bg1 := hn; clear hw; clear hn))
  all_goals exact bodyPost_ret (results_cell1 rfl _ _ g1 36 (K36 4 0 0 0 0 c5 c6 c7 c8 c9 c10 c11 0 0 0 false 0 0 0 0 0 (.slice none 0 0) 0 0 0 0 0 0 0 0 (uHeld (max c30 c39)) (uHeld (max c31 c40)) 0 c33 c34 c35 c36 c37 c38 0 0) _ rfl Bg1 Try.underlying36 rfl (by kernel_rfl)) rfl ⟨_, _, _, _, _, _, _, _, _, _, _, _, _, _, _, _, _, _, rfl, (uHeld_in _), hp_c5, Wc6, Wc7, Wc8, Wc9, Wc10, Wc11, (uHeld_w _), (uHeld_w _), (by decide), Wc33, Wc34, Wc35, Wc36, Wc37, (by decide), (by decide), ⟨undo_ge hb_c30, fun h_ => undo_old h_, rfl⟩, HS.out⟩
theorem undoS4 (c5 : Int) (c6 : Int) (c7 : Int) (c8 : Int) (c9 : Int) (c10 : Int) (c11 : Int) (c30 : Int) (c31 : Int) (c32 : Int) (c33 : Int) (c34 : Int) (c35 : Int) (c36 : Int) (c37 : Int) (c38 : Bool) (c39 : Int) (c40 : Int) (Wc6 : W64 c6) (Wc7 : W64 c7) (Wc8 : W64 c8) (Wc9 : W64 c9) (Wc10 : W64 c10) (Wc11 : W64 c11) (Wc30 : W64 c30) (Wc31 : W64 c31) (Wc32 : W64 c32) (Wc33 : W64 c33) (Wc34 : W64 c34) (Wc35 : W64 c35) (Wc36 : W64 c36) (Wc37 : W64 c37) (Wc39 : W64 c39) (Wc40 : W64 c40) (hb_c30 : 2400 ≤ c30 ∧ c30 ≤ 16777216) (hp_c5 : c5 = 0 ∨ c5 = 1 ∨ c5 = 2) (w : World) :
    Calls Try.prog 18 #[.agg (K36 4 0 0 0 0 c5 c6 c7 c8 c9 c10 c11 0 0 0 false 0 0 0 0 0 (.slice none 0 0) 0 0 0 0 0 0 0 0 c30 c31 c32 c33 c34 c35 c36 c37 c38 c39 c40).toArray] w fun e w' => ∃ (a5 a6 a7 a8 a9 a10 a11 a30 a31 a32 a33 a34 a35 a36 a37 a39 a40 : Int) (a38 : Bool), e = .returned (.agg (K36 4 0 0 0 0 a5 a6 a7 a8 a9 a10 a11 0 0 0 false 0 0 0 0 0 (.slice none 0 0) 0 0 0 0 0 0 0 0 a30 a31 a32 a33 a34 a35 a36 a37 a38 a39 a40).toArray) ∧ (2400 ≤ a30 ∧ a30 ≤ 16777216) ∧ (a5 = 0 ∨ a5 = 1 ∨ a5 = 2) ∧ W64 a6 ∧ W64 a7 ∧ W64 a8 ∧ W64 a9 ∧ W64 a10 ∧ W64 a11 ∧ W64 a30 ∧ W64 a31 ∧ W64 a32 ∧ W64 a33 ∧ W64 a34 ∧ W64 a35 ∧ W64 a36 ∧ W64 a37 ∧ W64 a39 ∧ W64 a40 ∧ (c30 ≤ a30 ∧ (c39 ≤ 16777216 → c39 ≤ a30) ∧ a39 = 0) ∧ Below w.heap.size w w' := by
  exact undoS4w_0 c5 c6 c7 c8 c9 c10 c11 c30 c31 c32 c33 c34 c35 c36 c37 c39 c40 c38 Wc6 Wc7 Wc8 Wc9 Wc10 Wc11 Wc30 Wc31 Wc32 Wc33 Wc34 Wc35 Wc36 Wc37 Wc39 Wc40 w hb_c30 hp_c5 
end Go.Proofs.Ytpgffmnbdggpnaa.PCv
