/- What packets that came make of a model, by the document. -/
import Derived.Deep.DeepMust
import Derived.Test.YtoanhimhomgjmaaKP
import Derived.Test.YtoanhimhomgjmaaKB
namespace Go.Proofs.Ytoanhimhomgjmaa.PPrN
open Go.RowKit Go.Proofs.Ytoanhimhomgjmaa.ProEq Go.Proofs.YtoanhimhomgjmaaW.PrintWords Go.Proofs.YtoanhimhomgjmaaW.PrintLast Go.Proofs.YtoanhimhomgjmaaW.PrintMore
set_option linter.unusedVariables false
set_option linter.unusedSimpArgs false
set_option maxRecDepth 100000
set_option maxHeartbeats 8000000
theorem rack_0 (p0 p2 p3 p4 p5 p6 p7 p8 p9 g_0 g_1 g_2 g_3 g_4 g_5 g_6 g_7 : Int) (A1 : Option Addr) (k1 : Nat) (Wp2 : W64 p2) (Wp3 : W64 p3) (Wp4 : W64 p4) (Wp5 : W64 p5) (Wp6 : W64 p6) (Wp7 : W64 p7) (Wp8 : W64 p8) (Wp9 : W64 p9) (Wg_0 : W64 g_0) (Wg_1 : W64 g_1) (Wg_2 : W64 g_2) (Wg_3 : W64 g_3) (Wg_4 : W64 g_4) (Wg_5 : W64 g_5) (Wg_6 : W64 g_6) (Wg_7 : W64 g_7) (w : World) (l1 : List S52) (hr1 : Kd.C k52 w A1 l1.length l1) (hk1 : l1.length ≤ k1) (hw1 : SWf l1) (hL1 : l1.length < 1000000) (h0 : (decide (uBest l1 ≤ g_7)) = true) (h1 : (decide (uAdd p3 10000 ≤ g_0)) = true) :
  Calls Try.prog 12 #[.agg #[.int .i64 p0, .slice A1 l1.length k1, .int .u64 p2, .int .u64 p3, .int .u64 p4, .int .u64 p5, .int .u64 p6, .int .u64 p7, .int .u64 p8, .int .u64 p9], .agg #[.int .u64 g_0, .int .u64 g_1, .int .u64 g_2, .int .u64 g_3, .int .u64 g_4, .int .u64 g_5, .int .u64 g_6, .int .u64 g_7, .bool true, .bool true]] w fun e w' => ∃ (qA : Option Addr) (qk : Nat), e = .returned (.agg #[.int .i64 ((pMove p0 (uPush l1 10 (uAdd p6 1) g_7) g_5 g_0 p4 p5 (uAdd p6 1) p7 p8 (uHeld (uAdd p9 (p9 / 8))) g_0 g_6 true true true).1), .slice qA (uPush l1 10 (uAdd p6 1) g_7).length qk, .int .u64 g_5, .int .u64 g_0, .int .u64 ((pMove p0 (uPush l1 10 (uAdd p6 1) g_7) g_5 g_0 p4 p5 (uAdd p6 1) p7 p8 (uHeld (uAdd p9 (p9 / 8))) g_0 g_6 true true true).2.2.2.2.1), .int .u64 ((pMove p0 (uPush l1 10 (uAdd p6 1) g_7) g_5 g_0 p4 p5 (uAdd p6 1) p7 p8 (uHeld (uAdd p9 (p9 / 8))) g_0 g_6 true true true).2.2.2.2.2.1), .int .u64 (uAdd p6 1), .int .u64 ((pMove p0 (uPush l1 10 (uAdd p6 1) g_7) g_5 g_0 p4 p5 (uAdd p6 1) p7 p8 (uHeld (uAdd p9 (p9 / 8))) g_0 g_6 true true true).2.2.2.2.2.2.2.1), .int .u64 ((pMove p0 (uPush l1 10 (uAdd p6 1) g_7) g_5 g_0 p4 p5 (uAdd p6 1) p7 p8 (uHeld (uAdd p9 (p9 / 8))) g_0 g_6 true true true).2.2.2.2.2.2.2.2.1), .int .u64 (uHeld (uAdd p9 (p9 / 8)))]) ∧ (uPush l1 10 (uAdd p6 1) g_7).length ≤ qk ∧ RB w' qA (uPush l1 10 (uAdd p6 1) g_7) ∧ Below w.heap.size w w' := by
 have hu26 := Try.underlying26
 have hu28 := Try.underlying28
 have hu52 := Try.underlying52
 have q0 : IntKind.u64.wrap (Int.tdiv p9 8) = p9 / 8 := wdiv Wp9 8 (by decide)
 have HS := Since.refl w
 go_enter Try.func12, Try.ntmps12
 go_wp2_with (first | (refine seg_new rfl (N := 2) rfl [.int .i64 p0, .slice A1 l1.length k1, .int .u64 p2, .int .u64 p3, .int .u64 p4, .int .u64 p5, .int .u64 p6, .int .u64 p7, .int .u64 p8, .int .u64 p9] 26 ?hr ?_; (case hr => rfl); intro g0 hg w1 hn hl; have GEg0 := ge_new HS hg; clear hg; replace HS := HS.below hl; have Bg0 := hn; clear hl hn) | (refine seg_new rfl (N := 3) rfl [.int .u64 g_0, .int .u64 g_1, .int .u64 g_2, .int .u64 g_3, .int .u64 g_4, .int .u64 g_5, .int .u64 g_6, .int .u64 g_7, .bool true, .bool true] 28 ?hr ?_; (case hr => rfl); intro g1 hg w2 hn hl; have Ng1_g0 := ne_new Bg0 hg; have GEg1 := ge_new HS hg; clear hg; replace Bg0 := Bg0.below hl; replace HS := HS.below hl; have Bg1 := hn; clear hl hn) | (refine seg_new rfl (N := 4) rfl [.int .i64 0, .slice none 0 0, .int .u64 0, .int .u64 0, .int .u64 0, .int .u64 0, .int .u64 0, .int .u64 0, .int .u64 0, .int .u64 0] 26 ?hr ?_; (case hr => rfl); intro g2 hg w3 hn hl; have Ng2_g0 := ne_new Bg0 hg; have Ng2_g1 := ne_new Bg1 hg; have GEg2 := ge_new HS hg; clear hg; replace Bg0 := Bg0.below hl; replace Bg1 := Bg1.below hl; replace HS := HS.below hl; have Bg2 := hn; clear hl hn; have kg0_6 := Bg0.at 6 rfl; have kg1_9 := Bg1.at 9 rfl) | ((go_at_call 30); (with_reducible refine (wigwagref01_AddT.C p6 1 Wp6 (by decide) _).mono ?_); rintro e w4 ⟨rfl, hd⟩; have hl := hd.below; clear hd; replace Bg0 := Bg0.below hl; replace Bg1 := Bg1.below hl; replace Bg2 := Bg2.below hl; replace HS := HS.below hl; clear hl; clear kg0_6 kg1_9) | (refine seg_store rfl rfl 24 (.tmp 11) (.tmp 10) rfl g0 6 [.int .u64 (uAdd p6 1)] [.int .i64 p0, .slice A1 l1.length k1, .int .u64 p2, .int .u64 p3, .int .u64 p4, .int .u64 p5, .int .u64 (uAdd p6 1), .int .u64 p7, .int .u64 p8, .int .u64 p9] (.int .u64 (uAdd p6 1)) rfl rfl rfl Bg0 (by kernel_rfl) (nle rfl) rfl rfl ?_; intro w5 hn hw; replace Bg1 := Bg1.grown hw Ng1_g0; replace Bg2 := Bg2.grown hw Ng2_g0; replace HS := HS.grown hw GEg0; replace Bg0 := hn; clear hw; have kg0_9 := Bg0.at 9 rfl; clear hn) | ((go_at_call 30); (with_reducible refine (wigwagref01_AddT.C p9 (p9 / 8) Wp9 (div_w Wp9 8 (by decide)) _).mono ?_); rintro e w6 ⟨rfl, hd⟩; have hl := hd.below; clear hd; replace Bg0 := Bg0.below hl; replace Bg1 := Bg1.below hl; replace Bg2 := Bg2.below hl; replace HS := HS.below hl; clear hl; clear kg0_9) | ((go_at_call 31); (with_reducible refine (wigwagref10_HeldT.C (uAdd p9 (p9 / 8)) _).mono ?_); rintro e w7 ⟨rfl, hd⟩; have hl := hd.below; clear hd; replace Bg0 := Bg0.below hl; replace Bg1 := Bg1.below hl; replace Bg2 := Bg2.below hl; replace HS := HS.below hl; clear hl) | (refine seg_store rfl rfl 24 (.tmp 19) (.tmp 18) rfl g0 9 [.int .u64 (uHeld (uAdd p9 (p9 / 8)))] [.int .i64 p0, .slice A1 l1.length k1, .int .u64 p2, .int .u64 p3, .int .u64 p4, .int .u64 p5, .int .u64 (uAdd p6 1), .int .u64 p7, .int .u64 p8, .int .u64 (uHeld (uAdd p9 (p9 / 8)))] (.int .u64 (uHeld (uAdd p9 (p9 / 8)))) rfl rfl rfl Bg0 (by kernel_rfl) (nle rfl) rfl rfl ?_; intro w8 hn hw; replace Bg1 := Bg1.grown hw Ng1_g0; replace Bg2 := Bg2.grown hw Ng2_g0; replace HS := HS.grown hw GEg0; replace Bg0 := hn; clear hw; have kg1_7 := Bg1.at 7 rfl; have kg1_8 := Bg1.at 8 rfl; clear hn))
 refine start_ (n := 10) (S := fun w' => w'.cell? ⟨g1, 8, none⟩ = some (.bool true) ∧ w'.cell? ⟨g1, 7, none⟩ = some (.int .u64 g_7) ∧ Blk w' g0 26 [.int .i64 p0, .slice A1 l1.length k1, .int .u64 p2, .int .u64 p3, .int .u64 p4, .int .u64 p5, .int .u64 (uAdd p6 1), .int .u64 p7, .int .u64 p8, .int .u64 (uHeld (uAdd p9 (p9 / 8)))]) (ds := []) (bs 10 0) (by kernel_rfl) rfl rfl ⟨((Bg1.drew.cell 8).trans rfl), ((Bg1.drew.cell 7).trans rfl), Bg0.drew⟩ (fun hHeld => ?_)
 generalize hWd : World.drew w8 = w9 at hHeld ⊢
 have hl : Below w8.heap.size w8 w9 := (by rw [← hWd]; exact below_drew1 (Below.refl _ _))
 clear hWd
 replace Bg0 := Bg0.below hl; replace Bg1 := Bg1.below hl; replace Bg2 := Bg2.below hl; replace HS := HS.below hl; clear hl; replace kg1_7 := Bg1.at 7 rfl; replace kg1_8 := Bg1.at 8 rfl
 refine pu 0 20 (.pointer (some ⟨g1, 8, none⟩)) 1 rfl rfl (by kernel_rfl) (fun _ _ _ h => h) (by rfl) (fun _ => by kernel_rfl) rfl ?_
 refine norm_ (a' := ?_) ?_ ?_
 rotate_left
 ·simp only [Act.put, zA_, z0_, z1_, i64_w, i32_w]
  rfl
 refine take_ (i := 1) (N := some 21) (v := ?_) (a' := ?_) (bs 10 3) rfl rfl (by kernel_rfl) (fun _ _ _ h => h) (Or.inl ⟨by rfl, ?_⟩) hHeld ?_ ?_
 rotate_left
 ·rintro w' ⟨s0, s1, s2⟩
  go_simp
  with_reducible rfl
 rotate_left
 ·simp only [Act.put, zA_, z0_, z1_, i64_w, i32_w]
  rfl
 refine pure_ (i := 2) (N := some 22) (v := ?_) (a' := ?_) (bs 10 7) rfl rfl (by kernel_rfl) (fun _ _ _ h => h) (Or.inl ⟨by rfl, ?_⟩) ?_ ?_
 rotate_left
 ·intro w'
  go_simp
  with_reducible rfl
 rotate_left
 ·simp only [Act.put, zA_, z0_, z1_, i64_w, i32_w]
  rfl
 refine pure_ (i := 3) (N := some 23) (v := ?_) (a' := ?_) (bs 10 15) rfl rfl (by kernel_rfl) (fun _ _ _ h => h) (Or.inl ⟨by rfl, ?_⟩) ?_ ?_
 rotate_left
 ·intro w'
  go_simp
  with_reducible rfl
 rotate_left
 ·simp only [Act.put, zA_, z0_, z1_, i64_w, i32_w]
  rfl
 refine pu 4 24 (.pointer (some ⟨g1, 7, none⟩)) 31 rfl rfl (by kernel_rfl) (fun _ _ _ h => h) (by rfl) (fun _ => by kernel_rfl) rfl ?_
 refine norm_ (a' := ?_) ?_ ?_
 rotate_left
 ·simp only [Act.put, zA_, z0_, z1_, i64_w, i32_w]
  rfl
 refine take_ (i := 5) (N := some 25) (v := ?_) (a' := ?_) (bs 10 63) rfl rfl (by kernel_rfl) (fun _ _ _ h => h) (Or.inl ⟨by rfl, ?_⟩) hHeld ?_ ?_
 rotate_left
 ·rintro w' ⟨s0, s1, s2⟩
  go_simp
  with_reducible rfl
 rotate_left
 ·simp only [Act.put, zA_, z0_, z1_, i64_w, i32_w]
  rfl
 refine take_ (i := 6) (N := some 26) (v := .agg #[.int .i64 p0, .slice A1 l1.length k1, .int .u64 p2, .int .u64 p3, .int .u64 p4, .int .u64 p5, .int .u64 (uAdd p6 1), .int .u64 p7, .int .u64 p8, .int .u64 (uHeld (uAdd p9 (p9 / 8)))]) (a' := ?_) (bs 10 127) rfl rfl (by kernel_rfl) (fun _ _ _ h => h) (Or.inl ⟨by rfl, ?_⟩) hHeld ?_ ?_
 ·rintro w' ⟨s0, s1, s2⟩
  exact exec_seg_load 26 (.tmp 2) (by rfl) g0 0 [.int .i64 p0, .slice A1 l1.length k1, .int .u64 p2, .int .u64 p3, .int .u64 p4, .int .u64 p5, .int .u64 (uAdd p6 1), .int .u64 p7, .int .u64 p8, .int .u64 (uHeld (uAdd p9 (p9 / 8)))] (by rfl) s2 (by rfl) Try.underlying26 (by rfl) (by kernel_rfl)
 rotate_left
 ·simp only [Act.put, zA_, z0_, z1_, i64_w, i32_w]
  rfl
 refine one_ (i := 7) (N := some 27) (bs 10 255) rfl rfl (by kernel_rfl) (by decide) (fun K hK => ?_)
 refine goes_ Try.func32 (by kernel_rfl) rfl #[.agg #[.int .i64 p0, .slice A1 l1.length k1, .int .u64 p2, .int .u64 p3, .int .u64 p4, .int .u64 p5, .int .u64 (uAdd p6 1), .int .u64 p7, .int .u64 p8, .int .u64 (uHeld (uAdd p9 (p9 / 8)))]] (by rfl) rfl rfl (by simp only [List.map_toArray, List.map_cons, List.map_nil]; rfl) ?_
 with_reducible refine (rbestC p0 p2 p3 p4 p5 (uAdd p6 1) p7 p8 (uHeld (uAdd p9 (p9 / 8))) A1 k1 l1 _ (Kd.C_below hr1 HS.out) hk1).mono ?_
 rintro e w10 ⟨rfl, hl⟩
 refine ⟨_, rfl, ?_⟩
 replace Bg0 := Bg0.below hl; replace Bg1 := Bg1.below hl; replace Bg2 := Bg2.below hl; replace HS := HS.below hl; clear hl; replace kg1_7 := Bg1.at 7 rfl; replace kg1_8 := Bg1.at 8 rfl
 refine hK.out _ _ ⟨((Bg1.cell 8).trans rfl), ((Bg1.cell 7).trans rfl), Bg0⟩ (fun hHeld => ?_)
 clear hK K
 refine norm_ (a' := ?_) ?_ ?_
 rotate_left
 ·show Act.put _ (some 27) _ = _
  simp only [Act.put, zA_, z0_, z1_, i64_w, i32_w]
  rfl
 refine pure_ (i := 8) (N := some 28) (v := ?_) (a' := ?_) (bs 10 511) rfl rfl (by kernel_rfl) (fun _ _ _ h => h) (Or.inl ⟨by rfl, ?_⟩) ?_ ?_
 rotate_left
 ·intro w'
  go_simp
  with_reducible rfl
 rotate_left
 ·simp only [Act.put, zA_, z0_, z1_, i64_w, i32_w]
  rfl
 refine pure_ (i := 9) (N := some 29) (v := ?_) (a' := ?_) (bs 10 1023) rfl rfl (by kernel_rfl) (fun _ _ _ h => h) (Or.inl ⟨by rfl, ?_⟩) ?_ ?_
 rotate_left
 ·intro w'
  go_simp
  with_reducible rfl
 rotate_left
 ·simp only [Act.put, zA_, z0_, z1_, i64_w, i32_w]
  rfl
 refine done_ (by kernel_rfl) ?_
 clear kg1_8; have kg0_1 := Bg0.at 1 rfl; have kg0_6 := Bg0.at 6 rfl; replace kg1_7 := Bg1.at 7 rfl
 go_wp2_with (first | ((go_at_call 33); (with_reducible refine (pushC 10 (uAdd p6 1) g_7 A1 k1 l1 hw1 (by decide) (uAdd_w Wp6 (by decide)) Wg_7 _ ⟨(Kd.C_below hr1 HS.out)⟩ hk1 hL1).mono ?_); rintro e w11 ⟨qA, qk, rfl, hk_qA, RB_qA, hF_qA, hl⟩; have NRB_qA_g0 := hF_qA.ne (NE_old ⟨hr1⟩ GEg0) Bg0; have NRB_qA_g1 := hF_qA.ne (NE_old ⟨hr1⟩ GEg1) Bg1; have NRB_qA_g2 := hF_qA.ne (NE_old ⟨hr1⟩ GEg2) Bg2; replace hF_qA := hF_qA.mono HS.le; replace Bg0 := Bg0.below hl; replace Bg1 := Bg1.below hl; replace Bg2 := Bg2.below hl; replace HS := HS.below hl; clear hl; clear kg0_1 kg0_6 kg1_7) | (refine seg_store rfl rfl 23 (.tmp 38) (.tmp 37) rfl g0 1 [.slice qA (uPush l1 10 (uAdd p6 1) g_7).length qk] [.int .i64 p0, .slice qA (uPush l1 10 (uAdd p6 1) g_7).length qk, .int .u64 p2, .int .u64 p3, .int .u64 p4, .int .u64 p5, .int .u64 (uAdd p6 1), .int .u64 p7, .int .u64 p8, .int .u64 (uHeld (uAdd p9 (p9 / 8)))] (.slice qA (uPush l1 10 (uAdd p6 1) g_7).length qk) rfl rfl rfl Bg0 (by kernel_rfl) (nle rfl) rfl rfl ?_; intro w12 hn hw; replace Bg1 := Bg1.grown hw Ng1_g0; replace Bg2 := Bg2.grown hw Ng2_g0; replace RB_qA := RB_qA.grown hw NRB_qA_g0; replace HS := HS.grown hw GEg0; replace Bg0 := hn; clear hw; have kg0_3 := Bg0.at 3 rfl; have kg1_0 := Bg1.at 0 rfl; clear hn))
 all_goals go_quiet (first | (go_at_call 30; with_reducible exact wigwagref01_AddT.Q p3 10000 Wp3 (by decide) _ _))
 all_goals (generalize hW : World.drewN w12 _ = w13; have hl : Below w12.heap.size w12 w13 := (by rw [← hW]; exact pw_below_drewN (Below.refl _ _) _); clear hW; replace Bg0 := Bg0.below hl; replace Bg1 := Bg1.below hl; replace Bg2 := Bg2.below hl; replace RB_qA := RB_qA.below hl; replace HS := HS.below hl; clear hl; clear kg0_3 kg1_0; have kg1_5 := Bg1.at 5 rfl)
 go_wp2_with (first | (refine seg_store rfl rfl 24 (.tmp 60) (.tmp 59) rfl g0 2 [.int .u64 g_5] [.int .i64 p0, .slice qA (uPush l1 10 (uAdd p6 1) g_7).length qk, .int .u64 g_5, .int .u64 p3, .int .u64 p4, .int .u64 p5, .int .u64 (uAdd p6 1), .int .u64 p7, .int .u64 p8, .int .u64 (uHeld (uAdd p9 (p9 / 8)))] (.int .u64 g_5) rfl rfl rfl Bg0 (by kernel_rfl) (nle rfl) rfl rfl ?_; intro w14 hn hw; replace Bg1 := Bg1.grown hw Ng1_g0; replace Bg2 := Bg2.grown hw Ng2_g0; replace RB_qA := RB_qA.grown hw NRB_qA_g0; replace HS := HS.grown hw GEg0; replace Bg0 := hn; clear hw; clear kg1_5; have kg1_0 := Bg1.at 0 rfl; clear hn) | (refine seg_store rfl rfl 24 (.tmp 63) (.tmp 62) rfl g0 3 [.int .u64 g_0] [.int .i64 p0, .slice qA (uPush l1 10 (uAdd p6 1) g_7).length qk, .int .u64 g_5, .int .u64 g_0, .int .u64 p4, .int .u64 p5, .int .u64 (uAdd p6 1), .int .u64 p7, .int .u64 p8, .int .u64 (uHeld (uAdd p9 (p9 / 8)))] (.int .u64 g_0) rfl rfl rfl Bg0 (by kernel_rfl) (nle rfl) rfl rfl ?_; intro w15 hn hw; replace Bg1 := Bg1.grown hw Ng1_g0; replace Bg2 := Bg2.grown hw Ng2_g0; replace RB_qA := RB_qA.grown hw NRB_qA_g0; replace HS := HS.grown hw GEg0; replace Bg0 := hn; clear hw; clear kg1_0; clear hn) | (refine seg_load rfl (N := 64) rfl 26 (.tmp 2) rfl g0 0 [.int .i64 p0, .slice qA (uPush l1 10 (uAdd p6 1) g_7).length qk, .int .u64 g_5, .int .u64 g_0, .int .u64 p4, .int .u64 p5, .int .u64 (uAdd p6 1), .int .u64 p7, .int .u64 p8, .int .u64 (uHeld (uAdd p9 (p9 / 8)))] rfl Bg0 rfl Try.underlying26 rfl (by kernel_rfl) ?_) | (refine seg_load rfl (N := 65) rfl 28 (.tmp 3) rfl g1 0 [.int .u64 g_0, .int .u64 g_1, .int .u64 g_2, .int .u64 g_3, .int .u64 g_4, .int .u64 g_5, .int .u64 g_6, .int .u64 g_7, .bool true, .bool true] rfl Bg1 rfl Try.underlying28 rfl (by kernel_rfl) ?_) | ((go_at_call 34); (with_reducible refine (moveC p0 g_5 g_0 p4 p5 (uAdd p6 1) p7 p8 (uHeld (uAdd p9 (p9 / 8))) g_0 g_1 g_2 g_3 g_4 g_5 g_6 g_7 true true true qA qk (uPush l1 10 (uAdd p6 1) g_7) (wf_push hw1 (uAdd_w Wp6 (by decide)) Wg_7) Wg_5 Wg_0 Wp4 Wp5 (uAdd_w Wp6 (by decide)) Wp7 Wp8 (uHeld_w _) _ RB_qA.out hk_qA).mono ?_); rintro e w16 ⟨rfl, hl⟩; replace Bg0 := Bg0.below hl; replace Bg1 := Bg1.below hl; replace Bg2 := Bg2.below hl; replace RB_qA := RB_qA.below hl; replace HS := HS.below hl; clear hl) | (refine seg_store rfl rfl 26 (.tmp 4) (.tmp 67) rfl g2 0 [.int .i64 ((pMove p0 (uPush l1 10 (uAdd p6 1) g_7) g_5 g_0 p4 p5 (uAdd p6 1) p7 p8 (uHeld (uAdd p9 (p9 / 8))) g_0 g_6 true true true).1), .slice qA (uPush l1 10 (uAdd p6 1) g_7).length qk, .int .u64 g_5, .int .u64 g_0, .int .u64 ((pMove p0 (uPush l1 10 (uAdd p6 1) g_7) g_5 g_0 p4 p5 (uAdd p6 1) p7 p8 (uHeld (uAdd p9 (p9 / 8))) g_0 g_6 true true true).2.2.2.2.1), .int .u64 ((pMove p0 (uPush l1 10 (uAdd p6 1) g_7) g_5 g_0 p4 p5 (uAdd p6 1) p7 p8 (uHeld (uAdd p9 (p9 / 8))) g_0 g_6 true true true).2.2.2.2.2.1), .int .u64 (uAdd p6 1), .int .u64 ((pMove p0 (uPush l1 10 (uAdd p6 1) g_7) g_5 g_0 p4 p5 (uAdd p6 1) p7 p8 (uHeld (uAdd p9 (p9 / 8))) g_0 g_6 true true true).2.2.2.2.2.2.2.1), .int .u64 ((pMove p0 (uPush l1 10 (uAdd p6 1) g_7) g_5 g_0 p4 p5 (uAdd p6 1) p7 p8 (uHeld (uAdd p9 (p9 / 8))) g_0 g_6 true true true).2.2.2.2.2.2.2.2.1), .int .u64 (uHeld (uAdd p9 (p9 / 8)))] [.int .i64 ((pMove p0 (uPush l1 10 (uAdd p6 1) g_7) g_5 g_0 p4 p5 (uAdd p6 1) p7 p8 (uHeld (uAdd p9 (p9 / 8))) g_0 g_6 true true true).1), .slice qA (uPush l1 10 (uAdd p6 1) g_7).length qk, .int .u64 g_5, .int .u64 g_0, .int .u64 ((pMove p0 (uPush l1 10 (uAdd p6 1) g_7) g_5 g_0 p4 p5 (uAdd p6 1) p7 p8 (uHeld (uAdd p9 (p9 / 8))) g_0 g_6 true true true).2.2.2.2.1), .int .u64 ((pMove p0 (uPush l1 10 (uAdd p6 1) g_7) g_5 g_0 p4 p5 (uAdd p6 1) p7 p8 (uHeld (uAdd p9 (p9 / 8))) g_0 g_6 true true true).2.2.2.2.2.1), .int .u64 (uAdd p6 1), .int .u64 ((pMove p0 (uPush l1 10 (uAdd p6 1) g_7) g_5 g_0 p4 p5 (uAdd p6 1) p7 p8 (uHeld (uAdd p9 (p9 / 8))) g_0 g_6 true true true).2.2.2.2.2.2.2.1), .int .u64 ((pMove p0 (uPush l1 10 (uAdd p6 1) g_7) g_5 g_0 p4 p5 (uAdd p6 1) p7 p8 (uHeld (uAdd p9 (p9 / 8))) g_0 g_6 true true true).2.2.2.2.2.2.2.2.1), .int .u64 (uHeld (uAdd p9 (p9 / 8)))] (.agg #[.int .i64 ((pMove p0 (uPush l1 10 (uAdd p6 1) g_7) g_5 g_0 p4 p5 (uAdd p6 1) p7 p8 (uHeld (uAdd p9 (p9 / 8))) g_0 g_6 true true true).1), .slice qA (uPush l1 10 (uAdd p6 1) g_7).length qk, .int .u64 g_5, .int .u64 g_0, .int .u64 ((pMove p0 (uPush l1 10 (uAdd p6 1) g_7) g_5 g_0 p4 p5 (uAdd p6 1) p7 p8 (uHeld (uAdd p9 (p9 / 8))) g_0 g_6 true true true).2.2.2.2.1), .int .u64 ((pMove p0 (uPush l1 10 (uAdd p6 1) g_7) g_5 g_0 p4 p5 (uAdd p6 1) p7 p8 (uHeld (uAdd p9 (p9 / 8))) g_0 g_6 true true true).2.2.2.2.2.1), .int .u64 (uAdd p6 1), .int .u64 ((pMove p0 (uPush l1 10 (uAdd p6 1) g_7) g_5 g_0 p4 p5 (uAdd p6 1) p7 p8 (uHeld (uAdd p9 (p9 / 8))) g_0 g_6 true true true).2.2.2.2.2.2.2.1), .int .u64 ((pMove p0 (uPush l1 10 (uAdd p6 1) g_7) g_5 g_0 p4 p5 (uAdd p6 1) p7 p8 (uHeld (uAdd p9 (p9 / 8))) g_0 g_6 true true true).2.2.2.2.2.2.2.2.1), .int .u64 (uHeld (uAdd p9 (p9 / 8)))]) rfl rfl rfl Bg2 (by kernel_rfl) (nle rfl) rfl rfl ?_; intro w17 hn hw; replace Bg0 := Bg0.grown hw Ng2_g0.symm; replace Bg1 := Bg1.grown hw Ng2_g1.symm; replace RB_qA := RB_qA.grown hw NRB_qA_g2; replace HS := HS.grown hw GEg2; replace Bg2 := hn; clear hw; clear hn))
 all_goals exact bodyPost_ret (results_cell1 rfl _ _ g2 26 [.int .i64 ((pMove p0 (uPush l1 10 (uAdd p6 1) g_7) g_5 g_0 p4 p5 (uAdd p6 1) p7 p8 (uHeld (uAdd p9 (p9 / 8))) g_0 g_6 true true true).1), .slice qA (uPush l1 10 (uAdd p6 1) g_7).length qk, .int .u64 g_5, .int .u64 g_0, .int .u64 ((pMove p0 (uPush l1 10 (uAdd p6 1) g_7) g_5 g_0 p4 p5 (uAdd p6 1) p7 p8 (uHeld (uAdd p9 (p9 / 8))) g_0 g_6 true true true).2.2.2.2.1), .int .u64 ((pMove p0 (uPush l1 10 (uAdd p6 1) g_7) g_5 g_0 p4 p5 (uAdd p6 1) p7 p8 (uHeld (uAdd p9 (p9 / 8))) g_0 g_6 true true true).2.2.2.2.2.1), .int .u64 (uAdd p6 1), .int .u64 ((pMove p0 (uPush l1 10 (uAdd p6 1) g_7) g_5 g_0 p4 p5 (uAdd p6 1) p7 p8 (uHeld (uAdd p9 (p9 / 8))) g_0 g_6 true true true).2.2.2.2.2.2.2.1), .int .u64 ((pMove p0 (uPush l1 10 (uAdd p6 1) g_7) g_5 g_0 p4 p5 (uAdd p6 1) p7 p8 (uHeld (uAdd p9 (p9 / 8))) g_0 g_6 true true true).2.2.2.2.2.2.2.2.1), .int .u64 (uHeld (uAdd p9 (p9 / 8)))] _ rfl Bg2 Try.underlying26 rfl (by kernel_rfl)) rfl ⟨qA, qk, rfl, hk_qA, RB_qA, HS.out⟩
theorem rack_1 (p0 p2 p3 p4 p5 p6 p7 p8 p9 g_0 g_1 g_2 g_3 g_4 g_5 g_6 g_7 : Int) (A1 : Option Addr) (k1 : Nat) (Wp2 : W64 p2) (Wp3 : W64 p3) (Wp4 : W64 p4) (Wp5 : W64 p5) (Wp6 : W64 p6) (Wp7 : W64 p7) (Wp8 : W64 p8) (Wp9 : W64 p9) (Wg_0 : W64 g_0) (Wg_1 : W64 g_1) (Wg_2 : W64 g_2) (Wg_3 : W64 g_3) (Wg_4 : W64 g_4) (Wg_5 : W64 g_5) (Wg_6 : W64 g_6) (Wg_7 : W64 g_7) (w : World) (l1 : List S52) (hr1 : Kd.C k52 w A1 l1.length l1) (hk1 : l1.length ≤ k1) (hw1 : SWf l1) (hL1 : l1.length < 1000000) (h0 : (decide (uBest l1 ≤ g_7)) = true) (h1 : (decide (uAdd p3 10000 ≤ g_0)) = false) (h2 : (decide (g_5 < p2)) = true) :
  Calls Try.prog 12 #[.agg #[.int .i64 p0, .slice A1 l1.length k1, .int .u64 p2, .int .u64 p3, .int .u64 p4, .int .u64 p5, .int .u64 p6, .int .u64 p7, .int .u64 p8, .int .u64 p9], .agg #[.int .u64 g_0, .int .u64 g_1, .int .u64 g_2, .int .u64 g_3, .int .u64 g_4, .int .u64 g_5, .int .u64 g_6, .int .u64 g_7, .bool true, .bool true]] w fun e w' => ∃ (qA : Option Addr) (qk : Nat), e = .returned (.agg #[.int .i64 ((pMove p0 (uPush l1 10 (uAdd p6 1) g_7) g_5 g_0 p4 p5 (uAdd p6 1) p7 p8 (uHeld (uAdd p9 (p9 / 8))) g_0 g_6 true true false).1), .slice qA (uPush l1 10 (uAdd p6 1) g_7).length qk, .int .u64 g_5, .int .u64 g_0, .int .u64 ((pMove p0 (uPush l1 10 (uAdd p6 1) g_7) g_5 g_0 p4 p5 (uAdd p6 1) p7 p8 (uHeld (uAdd p9 (p9 / 8))) g_0 g_6 true true false).2.2.2.2.1), .int .u64 ((pMove p0 (uPush l1 10 (uAdd p6 1) g_7) g_5 g_0 p4 p5 (uAdd p6 1) p7 p8 (uHeld (uAdd p9 (p9 / 8))) g_0 g_6 true true false).2.2.2.2.2.1), .int .u64 (uAdd p6 1), .int .u64 ((pMove p0 (uPush l1 10 (uAdd p6 1) g_7) g_5 g_0 p4 p5 (uAdd p6 1) p7 p8 (uHeld (uAdd p9 (p9 / 8))) g_0 g_6 true true false).2.2.2.2.2.2.2.1), .int .u64 ((pMove p0 (uPush l1 10 (uAdd p6 1) g_7) g_5 g_0 p4 p5 (uAdd p6 1) p7 p8 (uHeld (uAdd p9 (p9 / 8))) g_0 g_6 true true false).2.2.2.2.2.2.2.2.1), .int .u64 (uHeld (uAdd p9 (p9 / 8)))]) ∧ (uPush l1 10 (uAdd p6 1) g_7).length ≤ qk ∧ RB w' qA (uPush l1 10 (uAdd p6 1) g_7) ∧ Below w.heap.size w w' := by
 have hu26 := Try.underlying26
 have hu28 := Try.underlying28
 have hu52 := Try.underlying52
 have q0 : IntKind.u64.wrap (Int.tdiv p9 8) = p9 / 8 := wdiv Wp9 8 (by decide)
 have HS := Since.refl w
 go_enter Try.func12, Try.ntmps12
 go_wp2_with (first | (refine seg_new rfl (N := 2) rfl [.int .i64 p0, .slice A1 l1.length k1, .int .u64 p2, .int .u64 p3, .int .u64 p4, .int .u64 p5, .int .u64 p6, .int .u64 p7, .int .u64 p8, .int .u64 p9] 26 ?hr ?_; (case hr => rfl); intro g0 hg w1 hn hl; have GEg0 := ge_new HS hg; clear hg; replace HS := HS.below hl; have Bg0 := hn; clear hl hn) | (refine seg_new rfl (N := 3) rfl [.int .u64 g_0, .int .u64 g_1, .int .u64 g_2, .int .u64 g_3, .int .u64 g_4, .int .u64 g_5, .int .u64 g_6, .int .u64 g_7, .bool true, .bool true] 28 ?hr ?_; (case hr => rfl); intro g1 hg w2 hn hl; have Ng1_g0 := ne_new Bg0 hg; have GEg1 := ge_new HS hg; clear hg; replace Bg0 := Bg0.below hl; replace HS := HS.below hl; have Bg1 := hn; clear hl hn) | (refine seg_new rfl (N := 4) rfl [.int .i64 0, .slice none 0 0, .int .u64 0, .int .u64 0, .int .u64 0, .int .u64 0, .int .u64 0, .int .u64 0, .int .u64 0, .int .u64 0] 26 ?hr ?_; (case hr => rfl); intro g2 hg w3 hn hl; have Ng2_g0 := ne_new Bg0 hg; have Ng2_g1 := ne_new Bg1 hg; have GEg2 := ge_new HS hg; clear hg; replace Bg0 := Bg0.below hl; replace Bg1 := Bg1.below hl; replace HS := HS.below hl; have Bg2 := hn; clear hl hn; have kg0_6 := Bg0.at 6 rfl; have kg1_9 := Bg1.at 9 rfl) | ((go_at_call 30); (with_reducible refine (wigwagref01_AddT.C p6 1 Wp6 (by decide) _).mono ?_); rintro e w4 ⟨rfl, hd⟩; have hl := hd.below; clear hd; replace Bg0 := Bg0.below hl; replace Bg1 := Bg1.below hl; replace Bg2 := Bg2.below hl; replace HS := HS.below hl; clear hl; clear kg0_6 kg1_9) | (refine seg_store rfl rfl 24 (.tmp 11) (.tmp 10) rfl g0 6 [.int .u64 (uAdd p6 1)] [.int .i64 p0, .slice A1 l1.length k1, .int .u64 p2, .int .u64 p3, .int .u64 p4, .int .u64 p5, .int .u64 (uAdd p6 1), .int .u64 p7, .int .u64 p8, .int .u64 p9] (.int .u64 (uAdd p6 1)) rfl rfl rfl Bg0 (by kernel_rfl) (nle rfl) rfl rfl ?_; intro w5 hn hw; replace Bg1 := Bg1.grown hw Ng1_g0; replace Bg2 := Bg2.grown hw Ng2_g0; replace HS := HS.grown hw GEg0; replace Bg0 := hn; clear hw; have kg0_9 := Bg0.at 9 rfl; clear hn) | ((go_at_call 30); (with_reducible refine (wigwagref01_AddT.C p9 (p9 / 8) Wp9 (div_w Wp9 8 (by decide)) _).mono ?_); rintro e w6 ⟨rfl, hd⟩; have hl := hd.below; clear hd; replace Bg0 := Bg0.below hl; replace Bg1 := Bg1.below hl; replace Bg2 := Bg2.below hl; replace HS := HS.below hl; clear hl; clear kg0_9) | ((go_at_call 31); (with_reducible refine (wigwagref10_HeldT.C (uAdd p9 (p9 / 8)) _).mono ?_); rintro e w7 ⟨rfl, hd⟩; have hl := hd.below; clear hd; replace Bg0 := Bg0.below hl; replace Bg1 := Bg1.below hl; replace Bg2 := Bg2.below hl; replace HS := HS.below hl; clear hl) | (refine seg_store rfl rfl 24 (.tmp 19) (.tmp 18) rfl g0 9 [.int .u64 (uHeld (uAdd p9 (p9 / 8)))] [.int .i64 p0, .slice A1 l1.length k1, .int .u64 p2, .int .u64 p3, .int .u64 p4, .int .u64 p5, .int .u64 (uAdd p6 1), .int .u64 p7, .int .u64 p8, .int .u64 (uHeld (uAdd p9 (p9 / 8)))] (.int .u64 (uHeld (uAdd p9 (p9 / 8)))) rfl rfl rfl Bg0 (by kernel_rfl) (nle rfl) rfl rfl ?_; intro w8 hn hw; replace Bg1 := Bg1.grown hw Ng1_g0; replace Bg2 := Bg2.grown hw Ng2_g0; replace HS := HS.grown hw GEg0; replace Bg0 := hn; clear hw; have kg1_7 := Bg1.at 7 rfl; have kg1_8 := Bg1.at 8 rfl; clear hn))
 refine start_ (n := 10) (S := fun w' => w'.cell? ⟨g1, 8, none⟩ = some (.bool true) ∧ w'.cell? ⟨g1, 7, none⟩ = some (.int .u64 g_7) ∧ Blk w' g0 26 [.int .i64 p0, .slice A1 l1.length k1, .int .u64 p2, .int .u64 p3, .int .u64 p4, .int .u64 p5, .int .u64 (uAdd p6 1), .int .u64 p7, .int .u64 p8, .int .u64 (uHeld (uAdd p9 (p9 / 8)))]) (ds := []) (bs 10 0) (by kernel_rfl) rfl rfl ⟨((Bg1.drew.cell 8).trans rfl), ((Bg1.drew.cell 7).trans rfl), Bg0.drew⟩ (fun hHeld => ?_)
 generalize hWd : World.drew w8 = w9 at hHeld ⊢
 have hl : Below w8.heap.size w8 w9 := (by rw [← hWd]; exact below_drew1 (Below.refl _ _))
 clear hWd
 replace Bg0 := Bg0.below hl; replace Bg1 := Bg1.below hl; replace Bg2 := Bg2.below hl; replace HS := HS.below hl; clear hl; replace kg1_7 := Bg1.at 7 rfl; replace kg1_8 := Bg1.at 8 rfl
 refine pu 0 20 (.pointer (some ⟨g1, 8, none⟩)) 1 rfl rfl (by kernel_rfl) (fun _ _ _ h => h) (by rfl) (fun _ => by kernel_rfl) rfl ?_
 refine norm_ (a' := ?_) ?_ ?_
 rotate_left
 ·simp only [Act.put, zA_, z0_, z1_, i64_w, i32_w]
  rfl
 refine take_ (i := 1) (N := some 21) (v := ?_) (a' := ?_) (bs 10 3) rfl rfl (by kernel_rfl) (fun _ _ _ h => h) (Or.inl ⟨by rfl, ?_⟩) hHeld ?_ ?_
 rotate_left
 ·rintro w' ⟨s0, s1, s2⟩
  go_simp
  with_reducible rfl
 rotate_left
 ·simp only [Act.put, zA_, z0_, z1_, i64_w, i32_w]
  rfl
 refine pure_ (i := 2) (N := some 22) (v := ?_) (a' := ?_) (bs 10 7) rfl rfl (by kernel_rfl) (fun _ _ _ h => h) (Or.inl ⟨by rfl, ?_⟩) ?_ ?_
 rotate_left
 ·intro w'
  go_simp
  with_reducible rfl
 rotate_left
 ·simp only [Act.put, zA_, z0_, z1_, i64_w, i32_w]
  rfl
 refine pure_ (i := 3) (N := some 23) (v := ?_) (a' := ?_) (bs 10 15) rfl rfl (by kernel_rfl) (fun _ _ _ h => h) (Or.inl ⟨by rfl, ?_⟩) ?_ ?_
 rotate_left
 ·intro w'
  go_simp
  with_reducible rfl
 rotate_left
 ·simp only [Act.put, zA_, z0_, z1_, i64_w, i32_w]
  rfl
 refine pu 4 24 (.pointer (some ⟨g1, 7, none⟩)) 31 rfl rfl (by kernel_rfl) (fun _ _ _ h => h) (by rfl) (fun _ => by kernel_rfl) rfl ?_
 refine norm_ (a' := ?_) ?_ ?_
 rotate_left
 ·simp only [Act.put, zA_, z0_, z1_, i64_w, i32_w]
  rfl
 refine take_ (i := 5) (N := some 25) (v := ?_) (a' := ?_) (bs 10 63) rfl rfl (by kernel_rfl) (fun _ _ _ h => h) (Or.inl ⟨by rfl, ?_⟩) hHeld ?_ ?_
 rotate_left
 ·rintro w' ⟨s0, s1, s2⟩
  go_simp
  with_reducible rfl
 rotate_left
 ·simp only [Act.put, zA_, z0_, z1_, i64_w, i32_w]
  rfl
 refine take_ (i := 6) (N := some 26) (v := .agg #[.int .i64 p0, .slice A1 l1.length k1, .int .u64 p2, .int .u64 p3, .int .u64 p4, .int .u64 p5, .int .u64 (uAdd p6 1), .int .u64 p7, .int .u64 p8, .int .u64 (uHeld (uAdd p9 (p9 / 8)))]) (a' := ?_) (bs 10 127) rfl rfl (by kernel_rfl) (fun _ _ _ h => h) (Or.inl ⟨by rfl, ?_⟩) hHeld ?_ ?_
 ·rintro w' ⟨s0, s1, s2⟩
  exact exec_seg_load 26 (.tmp 2) (by rfl) g0 0 [.int .i64 p0, .slice A1 l1.length k1, .int .u64 p2, .int .u64 p3, .int .u64 p4, .int .u64 p5, .int .u64 (uAdd p6 1), .int .u64 p7, .int .u64 p8, .int .u64 (uHeld (uAdd p9 (p9 / 8)))] (by rfl) s2 (by rfl) Try.underlying26 (by rfl) (by kernel_rfl)
 rotate_left
 ·simp only [Act.put, zA_, z0_, z1_, i64_w, i32_w]
  rfl
 refine one_ (i := 7) (N := some 27) (bs 10 255) rfl rfl (by kernel_rfl) (by decide) (fun K hK => ?_)
 refine goes_ Try.func32 (by kernel_rfl) rfl #[.agg #[.int .i64 p0, .slice A1 l1.length k1, .int .u64 p2, .int .u64 p3, .int .u64 p4, .int .u64 p5, .int .u64 (uAdd p6 1), .int .u64 p7, .int .u64 p8, .int .u64 (uHeld (uAdd p9 (p9 / 8)))]] (by rfl) rfl rfl (by simp only [List.map_toArray, List.map_cons, List.map_nil]; rfl) ?_
 with_reducible refine (rbestC p0 p2 p3 p4 p5 (uAdd p6 1) p7 p8 (uHeld (uAdd p9 (p9 / 8))) A1 k1 l1 _ (Kd.C_below hr1 HS.out) hk1).mono ?_
 rintro e w10 ⟨rfl, hl⟩
 refine ⟨_, rfl, ?_⟩
 replace Bg0 := Bg0.below hl; replace Bg1 := Bg1.below hl; replace Bg2 := Bg2.below hl; replace HS := HS.below hl; clear hl; replace kg1_7 := Bg1.at 7 rfl; replace kg1_8 := Bg1.at 8 rfl
 refine hK.out _ _ ⟨((Bg1.cell 8).trans rfl), ((Bg1.cell 7).trans rfl), Bg0⟩ (fun hHeld => ?_)
 clear hK K
 refine norm_ (a' := ?_) ?_ ?_
 rotate_left
 ·show Act.put _ (some 27) _ = _
  simp only [Act.put, zA_, z0_, z1_, i64_w, i32_w]
  rfl
 refine pure_ (i := 8) (N := some 28) (v := ?_) (a' := ?_) (bs 10 511) rfl rfl (by kernel_rfl) (fun _ _ _ h => h) (Or.inl ⟨by rfl, ?_⟩) ?_ ?_
 rotate_left
 ·intro w'
  go_simp
  with_reducible rfl
 rotate_left
 ·simp only [Act.put, zA_, z0_, z1_, i64_w, i32_w]
  rfl
 refine pure_ (i := 9) (N := some 29) (v := ?_) (a' := ?_) (bs 10 1023) rfl rfl (by kernel_rfl) (fun _ _ _ h => h) (Or.inl ⟨by rfl, ?_⟩) ?_ ?_
 rotate_left
 ·intro w'
  go_simp
  with_reducible rfl
 rotate_left
 ·simp only [Act.put, zA_, z0_, z1_, i64_w, i32_w]
  rfl
 refine done_ (by kernel_rfl) ?_
 clear kg1_8; have kg0_1 := Bg0.at 1 rfl; have kg0_6 := Bg0.at 6 rfl; replace kg1_7 := Bg1.at 7 rfl
 go_wp2_with (first | ((go_at_call 33); (with_reducible refine (pushC 10 (uAdd p6 1) g_7 A1 k1 l1 hw1 (by decide) (uAdd_w Wp6 (by decide)) Wg_7 _ ⟨(Kd.C_below hr1 HS.out)⟩ hk1 hL1).mono ?_); rintro e w11 ⟨qA, qk, rfl, hk_qA, RB_qA, hF_qA, hl⟩; have NRB_qA_g0 := hF_qA.ne (NE_old ⟨hr1⟩ GEg0) Bg0; have NRB_qA_g1 := hF_qA.ne (NE_old ⟨hr1⟩ GEg1) Bg1; have NRB_qA_g2 := hF_qA.ne (NE_old ⟨hr1⟩ GEg2) Bg2; replace hF_qA := hF_qA.mono HS.le; replace Bg0 := Bg0.below hl; replace Bg1 := Bg1.below hl; replace Bg2 := Bg2.below hl; replace HS := HS.below hl; clear hl; clear kg0_1 kg0_6 kg1_7) | (refine seg_store rfl rfl 23 (.tmp 38) (.tmp 37) rfl g0 1 [.slice qA (uPush l1 10 (uAdd p6 1) g_7).length qk] [.int .i64 p0, .slice qA (uPush l1 10 (uAdd p6 1) g_7).length qk, .int .u64 p2, .int .u64 p3, .int .u64 p4, .int .u64 p5, .int .u64 (uAdd p6 1), .int .u64 p7, .int .u64 p8, .int .u64 (uHeld (uAdd p9 (p9 / 8)))] (.slice qA (uPush l1 10 (uAdd p6 1) g_7).length qk) rfl rfl rfl Bg0 (by kernel_rfl) (nle rfl) rfl rfl ?_; intro w12 hn hw; replace Bg1 := Bg1.grown hw Ng1_g0; replace Bg2 := Bg2.grown hw Ng2_g0; replace RB_qA := RB_qA.grown hw NRB_qA_g0; replace HS := HS.grown hw GEg0; replace Bg0 := hn; clear hw; have kg0_3 := Bg0.at 3 rfl; have kg1_0 := Bg1.at 0 rfl; clear hn))
 all_goals go_quiet (first | (go_at_call 30; with_reducible exact wigwagref01_AddT.Q p3 10000 Wp3 (by decide) _ _))
 all_goals (generalize hW : World.drewN w12 _ = w13; have hl : Below w12.heap.size w12 w13 := (by rw [← hW]; exact pw_below_drewN (Below.refl _ _) _); clear hW; replace Bg0 := Bg0.below hl; replace Bg1 := Bg1.below hl; replace Bg2 := Bg2.below hl; replace RB_qA := RB_qA.below hl; replace HS := HS.below hl; clear hl; clear kg0_3 kg1_0; have kg0_2 := Bg0.at 2 rfl; have kg1_5 := Bg1.at 5 rfl)
 go_wp2_with (first | (refine seg_store rfl rfl 24 (.tmp 60) (.tmp 59) rfl g0 2 [.int .u64 g_5] [.int .i64 p0, .slice qA (uPush l1 10 (uAdd p6 1) g_7).length qk, .int .u64 g_5, .int .u64 p3, .int .u64 p4, .int .u64 p5, .int .u64 (uAdd p6 1), .int .u64 p7, .int .u64 p8, .int .u64 (uHeld (uAdd p9 (p9 / 8)))] (.int .u64 g_5) rfl rfl rfl Bg0 (by kernel_rfl) (nle rfl) rfl rfl ?_; intro w14 hn hw; replace Bg1 := Bg1.grown hw Ng1_g0; replace Bg2 := Bg2.grown hw Ng2_g0; replace RB_qA := RB_qA.grown hw NRB_qA_g0; replace HS := HS.grown hw GEg0; replace Bg0 := hn; clear hw; clear kg0_2 kg1_5; have kg1_0 := Bg1.at 0 rfl; clear hn) | (refine seg_store rfl rfl 24 (.tmp 63) (.tmp 62) rfl g0 3 [.int .u64 g_0] [.int .i64 p0, .slice qA (uPush l1 10 (uAdd p6 1) g_7).length qk, .int .u64 g_5, .int .u64 g_0, .int .u64 p4, .int .u64 p5, .int .u64 (uAdd p6 1), .int .u64 p7, .int .u64 p8, .int .u64 (uHeld (uAdd p9 (p9 / 8)))] (.int .u64 g_0) rfl rfl rfl Bg0 (by kernel_rfl) (nle rfl) rfl rfl ?_; intro w15 hn hw; replace Bg1 := Bg1.grown hw Ng1_g0; replace Bg2 := Bg2.grown hw Ng2_g0; replace RB_qA := RB_qA.grown hw NRB_qA_g0; replace HS := HS.grown hw GEg0; replace Bg0 := hn; clear hw; clear kg1_0; clear hn) | (refine seg_load rfl (N := 64) rfl 26 (.tmp 2) rfl g0 0 [.int .i64 p0, .slice qA (uPush l1 10 (uAdd p6 1) g_7).length qk, .int .u64 g_5, .int .u64 g_0, .int .u64 p4, .int .u64 p5, .int .u64 (uAdd p6 1), .int .u64 p7, .int .u64 p8, .int .u64 (uHeld (uAdd p9 (p9 / 8)))] rfl Bg0 rfl Try.underlying26 rfl (by kernel_rfl) ?_) | (refine seg_load rfl (N := 65) rfl 28 (.tmp 3) rfl g1 0 [.int .u64 g_0, .int .u64 g_1, .int .u64 g_2, .int .u64 g_3, .int .u64 g_4, .int .u64 g_5, .int .u64 g_6, .int .u64 g_7, .bool true, .bool true] rfl Bg1 rfl Try.underlying28 rfl (by kernel_rfl) ?_) | ((go_at_call 34); (with_reducible refine (moveC p0 g_5 g_0 p4 p5 (uAdd p6 1) p7 p8 (uHeld (uAdd p9 (p9 / 8))) g_0 g_1 g_2 g_3 g_4 g_5 g_6 g_7 true true false qA qk (uPush l1 10 (uAdd p6 1) g_7) (wf_push hw1 (uAdd_w Wp6 (by decide)) Wg_7) Wg_5 Wg_0 Wp4 Wp5 (uAdd_w Wp6 (by decide)) Wp7 Wp8 (uHeld_w _) _ RB_qA.out hk_qA).mono ?_); rintro e w16 ⟨rfl, hl⟩; replace Bg0 := Bg0.below hl; replace Bg1 := Bg1.below hl; replace Bg2 := Bg2.below hl; replace RB_qA := RB_qA.below hl; replace HS := HS.below hl; clear hl) | (refine seg_store rfl rfl 26 (.tmp 4) (.tmp 67) rfl g2 0 [.int .i64 ((pMove p0 (uPush l1 10 (uAdd p6 1) g_7) g_5 g_0 p4 p5 (uAdd p6 1) p7 p8 (uHeld (uAdd p9 (p9 / 8))) g_0 g_6 true true false).1), .slice qA (uPush l1 10 (uAdd p6 1) g_7).length qk, .int .u64 g_5, .int .u64 g_0, .int .u64 ((pMove p0 (uPush l1 10 (uAdd p6 1) g_7) g_5 g_0 p4 p5 (uAdd p6 1) p7 p8 (uHeld (uAdd p9 (p9 / 8))) g_0 g_6 true true false).2.2.2.2.1), .int .u64 ((pMove p0 (uPush l1 10 (uAdd p6 1) g_7) g_5 g_0 p4 p5 (uAdd p6 1) p7 p8 (uHeld (uAdd p9 (p9 / 8))) g_0 g_6 true true false).2.2.2.2.2.1), .int .u64 (uAdd p6 1), .int .u64 ((pMove p0 (uPush l1 10 (uAdd p6 1) g_7) g_5 g_0 p4 p5 (uAdd p6 1) p7 p8 (uHeld (uAdd p9 (p9 / 8))) g_0 g_6 true true false).2.2.2.2.2.2.2.1), .int .u64 ((pMove p0 (uPush l1 10 (uAdd p6 1) g_7) g_5 g_0 p4 p5 (uAdd p6 1) p7 p8 (uHeld (uAdd p9 (p9 / 8))) g_0 g_6 true true false).2.2.2.2.2.2.2.2.1), .int .u64 (uHeld (uAdd p9 (p9 / 8)))] [.int .i64 ((pMove p0 (uPush l1 10 (uAdd p6 1) g_7) g_5 g_0 p4 p5 (uAdd p6 1) p7 p8 (uHeld (uAdd p9 (p9 / 8))) g_0 g_6 true true false).1), .slice qA (uPush l1 10 (uAdd p6 1) g_7).length qk, .int .u64 g_5, .int .u64 g_0, .int .u64 ((pMove p0 (uPush l1 10 (uAdd p6 1) g_7) g_5 g_0 p4 p5 (uAdd p6 1) p7 p8 (uHeld (uAdd p9 (p9 / 8))) g_0 g_6 true true false).2.2.2.2.1), .int .u64 ((pMove p0 (uPush l1 10 (uAdd p6 1) g_7) g_5 g_0 p4 p5 (uAdd p6 1) p7 p8 (uHeld (uAdd p9 (p9 / 8))) g_0 g_6 true true false).2.2.2.2.2.1), .int .u64 (uAdd p6 1), .int .u64 ((pMove p0 (uPush l1 10 (uAdd p6 1) g_7) g_5 g_0 p4 p5 (uAdd p6 1) p7 p8 (uHeld (uAdd p9 (p9 / 8))) g_0 g_6 true true false).2.2.2.2.2.2.2.1), .int .u64 ((pMove p0 (uPush l1 10 (uAdd p6 1) g_7) g_5 g_0 p4 p5 (uAdd p6 1) p7 p8 (uHeld (uAdd p9 (p9 / 8))) g_0 g_6 true true false).2.2.2.2.2.2.2.2.1), .int .u64 (uHeld (uAdd p9 (p9 / 8)))] (.agg #[.int .i64 ((pMove p0 (uPush l1 10 (uAdd p6 1) g_7) g_5 g_0 p4 p5 (uAdd p6 1) p7 p8 (uHeld (uAdd p9 (p9 / 8))) g_0 g_6 true true false).1), .slice qA (uPush l1 10 (uAdd p6 1) g_7).length qk, .int .u64 g_5, .int .u64 g_0, .int .u64 ((pMove p0 (uPush l1 10 (uAdd p6 1) g_7) g_5 g_0 p4 p5 (uAdd p6 1) p7 p8 (uHeld (uAdd p9 (p9 / 8))) g_0 g_6 true true false).2.2.2.2.1), .int .u64 ((pMove p0 (uPush l1 10 (uAdd p6 1) g_7) g_5 g_0 p4 p5 (uAdd p6 1) p7 p8 (uHeld (uAdd p9 (p9 / 8))) g_0 g_6 true true false).2.2.2.2.2.1), .int .u64 (uAdd p6 1), .int .u64 ((pMove p0 (uPush l1 10 (uAdd p6 1) g_7) g_5 g_0 p4 p5 (uAdd p6 1) p7 p8 (uHeld (uAdd p9 (p9 / 8))) g_0 g_6 true true false).2.2.2.2.2.2.2.1), .int .u64 ((pMove p0 (uPush l1 10 (uAdd p6 1) g_7) g_5 g_0 p4 p5 (uAdd p6 1) p7 p8 (uHeld (uAdd p9 (p9 / 8))) g_0 g_6 true true false).2.2.2.2.2.2.2.2.1), .int .u64 (uHeld (uAdd p9 (p9 / 8)))]) rfl rfl rfl Bg2 (by kernel_rfl) (nle rfl) rfl rfl ?_; intro w17 hn hw; replace Bg0 := Bg0.grown hw Ng2_g0.symm; replace Bg1 := Bg1.grown hw Ng2_g1.symm; replace RB_qA := RB_qA.grown hw NRB_qA_g2; replace HS := HS.grown hw GEg2; replace Bg2 := hn; clear hw; clear hn))
 all_goals exact bodyPost_ret (results_cell1 rfl _ _ g2 26 [.int .i64 ((pMove p0 (uPush l1 10 (uAdd p6 1) g_7) g_5 g_0 p4 p5 (uAdd p6 1) p7 p8 (uHeld (uAdd p9 (p9 / 8))) g_0 g_6 true true false).1), .slice qA (uPush l1 10 (uAdd p6 1) g_7).length qk, .int .u64 g_5, .int .u64 g_0, .int .u64 ((pMove p0 (uPush l1 10 (uAdd p6 1) g_7) g_5 g_0 p4 p5 (uAdd p6 1) p7 p8 (uHeld (uAdd p9 (p9 / 8))) g_0 g_6 true true false).2.2.2.2.1), .int .u64 ((pMove p0 (uPush l1 10 (uAdd p6 1) g_7) g_5 g_0 p4 p5 (uAdd p6 1) p7 p8 (uHeld (uAdd p9 (p9 / 8))) g_0 g_6 true true false).2.2.2.2.2.1), .int .u64 (uAdd p6 1), .int .u64 ((pMove p0 (uPush l1 10 (uAdd p6 1) g_7) g_5 g_0 p4 p5 (uAdd p6 1) p7 p8 (uHeld (uAdd p9 (p9 / 8))) g_0 g_6 true true false).2.2.2.2.2.2.2.1), .int .u64 ((pMove p0 (uPush l1 10 (uAdd p6 1) g_7) g_5 g_0 p4 p5 (uAdd p6 1) p7 p8 (uHeld (uAdd p9 (p9 / 8))) g_0 g_6 true true false).2.2.2.2.2.2.2.2.1), .int .u64 (uHeld (uAdd p9 (p9 / 8)))] _ rfl Bg2 Try.underlying26 rfl (by kernel_rfl)) rfl ⟨qA, qk, rfl, hk_qA, RB_qA, HS.out⟩
theorem rack_2 (p0 p2 p3 p4 p5 p6 p7 p8 p9 g_0 g_1 g_2 g_3 g_4 g_5 g_6 g_7 : Int) (A1 : Option Addr) (k1 : Nat) (Wp2 : W64 p2) (Wp3 : W64 p3) (Wp4 : W64 p4) (Wp5 : W64 p5) (Wp6 : W64 p6) (Wp7 : W64 p7) (Wp8 : W64 p8) (Wp9 : W64 p9) (Wg_0 : W64 g_0) (Wg_1 : W64 g_1) (Wg_2 : W64 g_2) (Wg_3 : W64 g_3) (Wg_4 : W64 g_4) (Wg_5 : W64 g_5) (Wg_6 : W64 g_6) (Wg_7 : W64 g_7) (w : World) (l1 : List S52) (hr1 : Kd.C k52 w A1 l1.length l1) (hk1 : l1.length ≤ k1) (hw1 : SWf l1) (hL1 : l1.length < 1000000) (h0 : (decide (uBest l1 ≤ g_7)) = true) (h1 : (decide (uAdd p3 10000 ≤ g_0)) = false) (h2 : (decide (g_5 < p2)) = false) :
  Calls Try.prog 12 #[.agg #[.int .i64 p0, .slice A1 l1.length k1, .int .u64 p2, .int .u64 p3, .int .u64 p4, .int .u64 p5, .int .u64 p6, .int .u64 p7, .int .u64 p8, .int .u64 p9], .agg #[.int .u64 g_0, .int .u64 g_1, .int .u64 g_2, .int .u64 g_3, .int .u64 g_4, .int .u64 g_5, .int .u64 g_6, .int .u64 g_7, .bool true, .bool true]] w fun e w' => ∃ (qA : Option Addr) (qk : Nat), e = .returned (.agg #[.int .i64 ((pMove p0 (uPush l1 10 (uAdd p6 1) g_7) p2 p3 p4 p5 (uAdd p6 1) p7 p8 (uHeld (uAdd p9 (p9 / 8))) g_0 g_6 true true false).1), .slice qA (uPush l1 10 (uAdd p6 1) g_7).length qk, .int .u64 p2, .int .u64 p3, .int .u64 ((pMove p0 (uPush l1 10 (uAdd p6 1) g_7) p2 p3 p4 p5 (uAdd p6 1) p7 p8 (uHeld (uAdd p9 (p9 / 8))) g_0 g_6 true true false).2.2.2.2.1), .int .u64 ((pMove p0 (uPush l1 10 (uAdd p6 1) g_7) p2 p3 p4 p5 (uAdd p6 1) p7 p8 (uHeld (uAdd p9 (p9 / 8))) g_0 g_6 true true false).2.2.2.2.2.1), .int .u64 (uAdd p6 1), .int .u64 ((pMove p0 (uPush l1 10 (uAdd p6 1) g_7) p2 p3 p4 p5 (uAdd p6 1) p7 p8 (uHeld (uAdd p9 (p9 / 8))) g_0 g_6 true true false).2.2.2.2.2.2.2.1), .int .u64 ((pMove p0 (uPush l1 10 (uAdd p6 1) g_7) p2 p3 p4 p5 (uAdd p6 1) p7 p8 (uHeld (uAdd p9 (p9 / 8))) g_0 g_6 true true false).2.2.2.2.2.2.2.2.1), .int .u64 (uHeld (uAdd p9 (p9 / 8)))]) ∧ (uPush l1 10 (uAdd p6 1) g_7).length ≤ qk ∧ RB w' qA (uPush l1 10 (uAdd p6 1) g_7) ∧ Below w.heap.size w w' := by
 have hu26 := Try.underlying26
 have hu28 := Try.underlying28
 have hu52 := Try.underlying52
 have q0 : IntKind.u64.wrap (Int.tdiv p9 8) = p9 / 8 := wdiv Wp9 8 (by decide)
 have HS := Since.refl w
 go_enter Try.func12, Try.ntmps12
 go_wp2_with (first | (refine seg_new rfl (N := 2) rfl [.int .i64 p0, .slice A1 l1.length k1, .int .u64 p2, .int .u64 p3, .int .u64 p4, .int .u64 p5, .int .u64 p6, .int .u64 p7, .int .u64 p8, .int .u64 p9] 26 ?hr ?_; (case hr => rfl); intro g0 hg w1 hn hl; have GEg0 := ge_new HS hg; clear hg; replace HS := HS.below hl; have Bg0 := hn; clear hl hn) | (refine seg_new rfl (N := 3) rfl [.int .u64 g_0, .int .u64 g_1, .int .u64 g_2, .int .u64 g_3, .int .u64 g_4, .int .u64 g_5, .int .u64 g_6, .int .u64 g_7, .bool true, .bool true] 28 ?hr ?_; (case hr => rfl); intro g1 hg w2 hn hl; have Ng1_g0 := ne_new Bg0 hg; have GEg1 := ge_new HS hg; clear hg; replace Bg0 := Bg0.below hl; replace HS := HS.below hl; have Bg1 := hn; clear hl hn) | (refine seg_new rfl (N := 4) rfl [.int .i64 0, .slice none 0 0, .int .u64 0, .int .u64 0, .int .u64 0, .int .u64 0, .int .u64 0, .int .u64 0, .int .u64 0, .int .u64 0] 26 ?hr ?_; (case hr => rfl); intro g2 hg w3 hn hl; have Ng2_g0 := ne_new Bg0 hg; have Ng2_g1 := ne_new Bg1 hg; have GEg2 := ge_new HS hg; clear hg; replace Bg0 := Bg0.below hl; replace Bg1 := Bg1.below hl; replace HS := HS.below hl; have Bg2 := hn; clear hl hn; have kg0_6 := Bg0.at 6 rfl; have kg1_9 := Bg1.at 9 rfl) | ((go_at_call 30); (with_reducible refine (wigwagref01_AddT.C p6 1 Wp6 (by decide) _).mono ?_); rintro e w4 ⟨rfl, hd⟩; have hl := hd.below; clear hd; replace Bg0 := Bg0.below hl; replace Bg1 := Bg1.below hl; replace Bg2 := Bg2.below hl; replace HS := HS.below hl; clear hl; clear kg0_6 kg1_9) | (refine seg_store rfl rfl 24 (.tmp 11) (.tmp 10) rfl g0 6 [.int .u64 (uAdd p6 1)] [.int .i64 p0, .slice A1 l1.length k1, .int .u64 p2, .int .u64 p3, .int .u64 p4, .int .u64 p5, .int .u64 (uAdd p6 1), .int .u64 p7, .int .u64 p8, .int .u64 p9] (.int .u64 (uAdd p6 1)) rfl rfl rfl Bg0 (by kernel_rfl) (nle rfl) rfl rfl ?_; intro w5 hn hw; replace Bg1 := Bg1.grown hw Ng1_g0; replace Bg2 := Bg2.grown hw Ng2_g0; replace HS := HS.grown hw GEg0; replace Bg0 := hn; clear hw; have kg0_9 := Bg0.at 9 rfl; clear hn) | ((go_at_call 30); (with_reducible refine (wigwagref01_AddT.C p9 (p9 / 8) Wp9 (div_w Wp9 8 (by decide)) _).mono ?_); rintro e w6 ⟨rfl, hd⟩; have hl := hd.below; clear hd; replace Bg0 := Bg0.below hl; replace Bg1 := Bg1.below hl; replace Bg2 := Bg2.below hl; replace HS := HS.below hl; clear hl; clear kg0_9) | ((go_at_call 31); (with_reducible refine (wigwagref10_HeldT.C (uAdd p9 (p9 / 8)) _).mono ?_); rintro e w7 ⟨rfl, hd⟩; have hl := hd.below; clear hd; replace Bg0 := Bg0.below hl; replace Bg1 := Bg1.below hl; replace Bg2 := Bg2.below hl; replace HS := HS.below hl; clear hl) | (refine seg_store rfl rfl 24 (.tmp 19) (.tmp 18) rfl g0 9 [.int .u64 (uHeld (uAdd p9 (p9 / 8)))] [.int .i64 p0, .slice A1 l1.length k1, .int .u64 p2, .int .u64 p3, .int .u64 p4, .int .u64 p5, .int .u64 (uAdd p6 1), .int .u64 p7, .int .u64 p8, .int .u64 (uHeld (uAdd p9 (p9 / 8)))] (.int .u64 (uHeld (uAdd p9 (p9 / 8)))) rfl rfl rfl Bg0 (by kernel_rfl) (nle rfl) rfl rfl ?_; intro w8 hn hw; replace Bg1 := Bg1.grown hw Ng1_g0; replace Bg2 := Bg2.grown hw Ng2_g0; replace HS := HS.grown hw GEg0; replace Bg0 := hn; clear hw; have kg1_7 := Bg1.at 7 rfl; have kg1_8 := Bg1.at 8 rfl; clear hn))
 refine start_ (n := 10) (S := fun w' => w'.cell? ⟨g1, 8, none⟩ = some (.bool true) ∧ w'.cell? ⟨g1, 7, none⟩ = some (.int .u64 g_7) ∧ Blk w' g0 26 [.int .i64 p0, .slice A1 l1.length k1, .int .u64 p2, .int .u64 p3, .int .u64 p4, .int .u64 p5, .int .u64 (uAdd p6 1), .int .u64 p7, .int .u64 p8, .int .u64 (uHeld (uAdd p9 (p9 / 8)))]) (ds := []) (bs 10 0) (by kernel_rfl) rfl rfl ⟨((Bg1.drew.cell 8).trans rfl), ((Bg1.drew.cell 7).trans rfl), Bg0.drew⟩ (fun hHeld => ?_)
 generalize hWd : World.drew w8 = w9 at hHeld ⊢
 have hl : Below w8.heap.size w8 w9 := (by rw [← hWd]; exact below_drew1 (Below.refl _ _))
 clear hWd
 replace Bg0 := Bg0.below hl; replace Bg1 := Bg1.below hl; replace Bg2 := Bg2.below hl; replace HS := HS.below hl; clear hl; replace kg1_7 := Bg1.at 7 rfl; replace kg1_8 := Bg1.at 8 rfl
 refine pu 0 20 (.pointer (some ⟨g1, 8, none⟩)) 1 rfl rfl (by kernel_rfl) (fun _ _ _ h => h) (by rfl) (fun _ => by kernel_rfl) rfl ?_
 refine norm_ (a' := ?_) ?_ ?_
 rotate_left
 ·simp only [Act.put, zA_, z0_, z1_, i64_w, i32_w]
  rfl
 refine take_ (i := 1) (N := some 21) (v := ?_) (a' := ?_) (bs 10 3) rfl rfl (by kernel_rfl) (fun _ _ _ h => h) (Or.inl ⟨by rfl, ?_⟩) hHeld ?_ ?_
 rotate_left
 ·rintro w' ⟨s0, s1, s2⟩
  go_simp
  with_reducible rfl
 rotate_left
 ·simp only [Act.put, zA_, z0_, z1_, i64_w, i32_w]
  rfl
 refine pure_ (i := 2) (N := some 22) (v := ?_) (a' := ?_) (bs 10 7) rfl rfl (by kernel_rfl) (fun _ _ _ h => h) (Or.inl ⟨by rfl, ?_⟩) ?_ ?_
 rotate_left
 ·intro w'
  go_simp
  with_reducible rfl
 rotate_left
 ·simp only [Act.put, zA_, z0_, z1_, i64_w, i32_w]
  rfl
 refine pure_ (i := 3) (N := some 23) (v := ?_) (a' := ?_) (bs 10 15) rfl rfl (by kernel_rfl) (fun _ _ _ h => h) (Or.inl ⟨by rfl, ?_⟩) ?_ ?_
 rotate_left
 ·intro w'
  go_simp
  with_reducible rfl
 rotate_left
 ·simp only [Act.put, zA_, z0_, z1_, i64_w, i32_w]
  rfl
 refine pu 4 24 (.pointer (some ⟨g1, 7, none⟩)) 31 rfl rfl (by kernel_rfl) (fun _ _ _ h => h) (by rfl) (fun _ => by kernel_rfl) rfl ?_
 refine norm_ (a' := ?_) ?_ ?_
 rotate_left
 ·simp only [Act.put, zA_, z0_, z1_, i64_w, i32_w]
  rfl
 refine take_ (i := 5) (N := some 25) (v := ?_) (a' := ?_) (bs 10 63) rfl rfl (by kernel_rfl) (fun _ _ _ h => h) (Or.inl ⟨by rfl, ?_⟩) hHeld ?_ ?_
 rotate_left
 ·rintro w' ⟨s0, s1, s2⟩
  go_simp
  with_reducible rfl
 rotate_left
 ·simp only [Act.put, zA_, z0_, z1_, i64_w, i32_w]
  rfl
 refine take_ (i := 6) (N := some 26) (v := .agg #[.int .i64 p0, .slice A1 l1.length k1, .int .u64 p2, .int .u64 p3, .int .u64 p4, .int .u64 p5, .int .u64 (uAdd p6 1), .int .u64 p7, .int .u64 p8, .int .u64 (uHeld (uAdd p9 (p9 / 8)))]) (a' := ?_) (bs 10 127) rfl rfl (by kernel_rfl) (fun _ _ _ h => h) (Or.inl ⟨by rfl, ?_⟩) hHeld ?_ ?_
 ·rintro w' ⟨s0, s1, s2⟩
  exact exec_seg_load 26 (.tmp 2) (by rfl) g0 0 [.int .i64 p0, .slice A1 l1.length k1, .int .u64 p2, .int .u64 p3, .int .u64 p4, .int .u64 p5, .int .u64 (uAdd p6 1), .int .u64 p7, .int .u64 p8, .int .u64 (uHeld (uAdd p9 (p9 / 8)))] (by rfl) s2 (by rfl) Try.underlying26 (by rfl) (by kernel_rfl)
 rotate_left
 ·simp only [Act.put, zA_, z0_, z1_, i64_w, i32_w]
  rfl
 refine one_ (i := 7) (N := some 27) (bs 10 255) rfl rfl (by kernel_rfl) (by decide) (fun K hK => ?_)
 refine goes_ Try.func32 (by kernel_rfl) rfl #[.agg #[.int .i64 p0, .slice A1 l1.length k1, .int .u64 p2, .int .u64 p3, .int .u64 p4, .int .u64 p5, .int .u64 (uAdd p6 1), .int .u64 p7, .int .u64 p8, .int .u64 (uHeld (uAdd p9 (p9 / 8)))]] (by rfl) rfl rfl (by simp only [List.map_toArray, List.map_cons, List.map_nil]; rfl) ?_
 with_reducible refine (rbestC p0 p2 p3 p4 p5 (uAdd p6 1) p7 p8 (uHeld (uAdd p9 (p9 / 8))) A1 k1 l1 _ (Kd.C_below hr1 HS.out) hk1).mono ?_
 rintro e w10 ⟨rfl, hl⟩
 refine ⟨_, rfl, ?_⟩
 replace Bg0 := Bg0.below hl; replace Bg1 := Bg1.below hl; replace Bg2 := Bg2.below hl; replace HS := HS.below hl; clear hl; replace kg1_7 := Bg1.at 7 rfl; replace kg1_8 := Bg1.at 8 rfl
 refine hK.out _ _ ⟨((Bg1.cell 8).trans rfl), ((Bg1.cell 7).trans rfl), Bg0⟩ (fun hHeld => ?_)
 clear hK K
 refine norm_ (a' := ?_) ?_ ?_
 rotate_left
 ·show Act.put _ (some 27) _ = _
  simp only [Act.put, zA_, z0_, z1_, i64_w, i32_w]
  rfl
 refine pure_ (i := 8) (N := some 28) (v := ?_) (a' := ?_) (bs 10 511) rfl rfl (by kernel_rfl) (fun _ _ _ h => h) (Or.inl ⟨by rfl, ?_⟩) ?_ ?_
 rotate_left
 ·intro w'
  go_simp
  with_reducible rfl
 rotate_left
 ·simp only [Act.put, zA_, z0_, z1_, i64_w, i32_w]
  rfl
 refine pure_ (i := 9) (N := some 29) (v := ?_) (a' := ?_) (bs 10 1023) rfl rfl (by kernel_rfl) (fun _ _ _ h => h) (Or.inl ⟨by rfl, ?_⟩) ?_ ?_
 rotate_left
 ·intro w'
  go_simp
  with_reducible rfl
 rotate_left
 ·simp only [Act.put, zA_, z0_, z1_, i64_w, i32_w]
  rfl
 refine done_ (by kernel_rfl) ?_
 clear kg1_8; have kg0_1 := Bg0.at 1 rfl; have kg0_6 := Bg0.at 6 rfl; replace kg1_7 := Bg1.at 7 rfl
 go_wp2_with (first | ((go_at_call 33); (with_reducible refine (pushC 10 (uAdd p6 1) g_7 A1 k1 l1 hw1 (by decide) (uAdd_w Wp6 (by decide)) Wg_7 _ ⟨(Kd.C_below hr1 HS.out)⟩ hk1 hL1).mono ?_); rintro e w11 ⟨qA, qk, rfl, hk_qA, RB_qA, hF_qA, hl⟩; have NRB_qA_g0 := hF_qA.ne (NE_old ⟨hr1⟩ GEg0) Bg0; have NRB_qA_g1 := hF_qA.ne (NE_old ⟨hr1⟩ GEg1) Bg1; have NRB_qA_g2 := hF_qA.ne (NE_old ⟨hr1⟩ GEg2) Bg2; replace hF_qA := hF_qA.mono HS.le; replace Bg0 := Bg0.below hl; replace Bg1 := Bg1.below hl; replace Bg2 := Bg2.below hl; replace HS := HS.below hl; clear hl; clear kg0_1 kg0_6 kg1_7) | (refine seg_store rfl rfl 23 (.tmp 38) (.tmp 37) rfl g0 1 [.slice qA (uPush l1 10 (uAdd p6 1) g_7).length qk] [.int .i64 p0, .slice qA (uPush l1 10 (uAdd p6 1) g_7).length qk, .int .u64 p2, .int .u64 p3, .int .u64 p4, .int .u64 p5, .int .u64 (uAdd p6 1), .int .u64 p7, .int .u64 p8, .int .u64 (uHeld (uAdd p9 (p9 / 8)))] (.slice qA (uPush l1 10 (uAdd p6 1) g_7).length qk) rfl rfl rfl Bg0 (by kernel_rfl) (nle rfl) rfl rfl ?_; intro w12 hn hw; replace Bg1 := Bg1.grown hw Ng1_g0; replace Bg2 := Bg2.grown hw Ng2_g0; replace RB_qA := RB_qA.grown hw NRB_qA_g0; replace HS := HS.grown hw GEg0; replace Bg0 := hn; clear hw; have kg0_3 := Bg0.at 3 rfl; have kg1_0 := Bg1.at 0 rfl; clear hn))
 all_goals go_quiet (first | (go_at_call 30; with_reducible exact wigwagref01_AddT.Q p3 10000 Wp3 (by decide) _ _))
 all_goals (generalize hW : World.drewN w12 _ = w13; have hl : Below w12.heap.size w12 w13 := (by rw [← hW]; exact pw_below_drewN (Below.refl _ _) _); clear hW; replace Bg0 := Bg0.below hl; replace Bg1 := Bg1.below hl; replace Bg2 := Bg2.below hl; replace RB_qA := RB_qA.below hl; replace HS := HS.below hl; clear hl; clear kg0_3 kg1_0; have kg0_2 := Bg0.at 2 rfl; have kg1_5 := Bg1.at 5 rfl)
 go_wp2_with (first | (refine seg_load rfl (N := 64) rfl 26 (.tmp 2) rfl g0 0 [.int .i64 p0, .slice qA (uPush l1 10 (uAdd p6 1) g_7).length qk, .int .u64 p2, .int .u64 p3, .int .u64 p4, .int .u64 p5, .int .u64 (uAdd p6 1), .int .u64 p7, .int .u64 p8, .int .u64 (uHeld (uAdd p9 (p9 / 8)))] rfl Bg0 rfl Try.underlying26 rfl (by kernel_rfl) ?_) | (refine seg_load rfl (N := 65) rfl 28 (.tmp 3) rfl g1 0 [.int .u64 g_0, .int .u64 g_1, .int .u64 g_2, .int .u64 g_3, .int .u64 g_4, .int .u64 g_5, .int .u64 g_6, .int .u64 g_7, .bool true, .bool true] rfl Bg1 rfl Try.underlying28 rfl (by kernel_rfl) ?_) | ((go_at_call 34); (with_reducible refine (moveC p0 p2 p3 p4 p5 (uAdd p6 1) p7 p8 (uHeld (uAdd p9 (p9 / 8))) g_0 g_1 g_2 g_3 g_4 g_5 g_6 g_7 true true false qA qk (uPush l1 10 (uAdd p6 1) g_7) (wf_push hw1 (uAdd_w Wp6 (by decide)) Wg_7) Wp2 Wp3 Wp4 Wp5 (uAdd_w Wp6 (by decide)) Wp7 Wp8 (uHeld_w _) _ RB_qA.out hk_qA).mono ?_); rintro e w14 ⟨rfl, hl⟩; replace Bg0 := Bg0.below hl; replace Bg1 := Bg1.below hl; replace Bg2 := Bg2.below hl; replace RB_qA := RB_qA.below hl; replace HS := HS.below hl; clear hl; clear kg0_2 kg1_5) | (refine seg_store rfl rfl 26 (.tmp 4) (.tmp 67) rfl g2 0 [.int .i64 ((pMove p0 (uPush l1 10 (uAdd p6 1) g_7) p2 p3 p4 p5 (uAdd p6 1) p7 p8 (uHeld (uAdd p9 (p9 / 8))) g_0 g_6 true true false).1), .slice qA (uPush l1 10 (uAdd p6 1) g_7).length qk, .int .u64 p2, .int .u64 p3, .int .u64 ((pMove p0 (uPush l1 10 (uAdd p6 1) g_7) p2 p3 p4 p5 (uAdd p6 1) p7 p8 (uHeld (uAdd p9 (p9 / 8))) g_0 g_6 true true false).2.2.2.2.1), .int .u64 ((pMove p0 (uPush l1 10 (uAdd p6 1) g_7) p2 p3 p4 p5 (uAdd p6 1) p7 p8 (uHeld (uAdd p9 (p9 / 8))) g_0 g_6 true true false).2.2.2.2.2.1), .int .u64 (uAdd p6 1), .int .u64 ((pMove p0 (uPush l1 10 (uAdd p6 1) g_7) p2 p3 p4 p5 (uAdd p6 1) p7 p8 (uHeld (uAdd p9 (p9 / 8))) g_0 g_6 true true false).2.2.2.2.2.2.2.1), .int .u64 ((pMove p0 (uPush l1 10 (uAdd p6 1) g_7) p2 p3 p4 p5 (uAdd p6 1) p7 p8 (uHeld (uAdd p9 (p9 / 8))) g_0 g_6 true true false).2.2.2.2.2.2.2.2.1), .int .u64 (uHeld (uAdd p9 (p9 / 8)))] [.int .i64 ((pMove p0 (uPush l1 10 (uAdd p6 1) g_7) p2 p3 p4 p5 (uAdd p6 1) p7 p8 (uHeld (uAdd p9 (p9 / 8))) g_0 g_6 true true false).1), .slice qA (uPush l1 10 (uAdd p6 1) g_7).length qk, .int .u64 p2, .int .u64 p3, .int .u64 ((pMove p0 (uPush l1 10 (uAdd p6 1) g_7) p2 p3 p4 p5 (uAdd p6 1) p7 p8 (uHeld (uAdd p9 (p9 / 8))) g_0 g_6 true true false).2.2.2.2.1), .int .u64 ((pMove p0 (uPush l1 10 (uAdd p6 1) g_7) p2 p3 p4 p5 (uAdd p6 1) p7 p8 (uHeld (uAdd p9 (p9 / 8))) g_0 g_6 true true false).2.2.2.2.2.1), .int .u64 (uAdd p6 1), .int .u64 ((pMove p0 (uPush l1 10 (uAdd p6 1) g_7) p2 p3 p4 p5 (uAdd p6 1) p7 p8 (uHeld (uAdd p9 (p9 / 8))) g_0 g_6 true true false).2.2.2.2.2.2.2.1), .int .u64 ((pMove p0 (uPush l1 10 (uAdd p6 1) g_7) p2 p3 p4 p5 (uAdd p6 1) p7 p8 (uHeld (uAdd p9 (p9 / 8))) g_0 g_6 true true false).2.2.2.2.2.2.2.2.1), .int .u64 (uHeld (uAdd p9 (p9 / 8)))] (.agg #[.int .i64 ((pMove p0 (uPush l1 10 (uAdd p6 1) g_7) p2 p3 p4 p5 (uAdd p6 1) p7 p8 (uHeld (uAdd p9 (p9 / 8))) g_0 g_6 true true false).1), .slice qA (uPush l1 10 (uAdd p6 1) g_7).length qk, .int .u64 p2, .int .u64 p3, .int .u64 ((pMove p0 (uPush l1 10 (uAdd p6 1) g_7) p2 p3 p4 p5 (uAdd p6 1) p7 p8 (uHeld (uAdd p9 (p9 / 8))) g_0 g_6 true true false).2.2.2.2.1), .int .u64 ((pMove p0 (uPush l1 10 (uAdd p6 1) g_7) p2 p3 p4 p5 (uAdd p6 1) p7 p8 (uHeld (uAdd p9 (p9 / 8))) g_0 g_6 true true false).2.2.2.2.2.1), .int .u64 (uAdd p6 1), .int .u64 ((pMove p0 (uPush l1 10 (uAdd p6 1) g_7) p2 p3 p4 p5 (uAdd p6 1) p7 p8 (uHeld (uAdd p9 (p9 / 8))) g_0 g_6 true true false).2.2.2.2.2.2.2.1), .int .u64 ((pMove p0 (uPush l1 10 (uAdd p6 1) g_7) p2 p3 p4 p5 (uAdd p6 1) p7 p8 (uHeld (uAdd p9 (p9 / 8))) g_0 g_6 true true false).2.2.2.2.2.2.2.2.1), .int .u64 (uHeld (uAdd p9 (p9 / 8)))]) rfl rfl rfl Bg2 (by kernel_rfl) (nle rfl) rfl rfl ?_; intro w15 hn hw; replace Bg0 := Bg0.grown hw Ng2_g0.symm; replace Bg1 := Bg1.grown hw Ng2_g1.symm; replace RB_qA := RB_qA.grown hw NRB_qA_g2; replace HS := HS.grown hw GEg2; replace Bg2 := hn; clear hw; clear hn))
 all_goals exact bodyPost_ret (results_cell1 rfl _ _ g2 26 [.int .i64 ((pMove p0 (uPush l1 10 (uAdd p6 1) g_7) p2 p3 p4 p5 (uAdd p6 1) p7 p8 (uHeld (uAdd p9 (p9 / 8))) g_0 g_6 true true false).1), .slice qA (uPush l1 10 (uAdd p6 1) g_7).length qk, .int .u64 p2, .int .u64 p3, .int .u64 ((pMove p0 (uPush l1 10 (uAdd p6 1) g_7) p2 p3 p4 p5 (uAdd p6 1) p7 p8 (uHeld (uAdd p9 (p9 / 8))) g_0 g_6 true true false).2.2.2.2.1), .int .u64 ((pMove p0 (uPush l1 10 (uAdd p6 1) g_7) p2 p3 p4 p5 (uAdd p6 1) p7 p8 (uHeld (uAdd p9 (p9 / 8))) g_0 g_6 true true false).2.2.2.2.2.1), .int .u64 (uAdd p6 1), .int .u64 ((pMove p0 (uPush l1 10 (uAdd p6 1) g_7) p2 p3 p4 p5 (uAdd p6 1) p7 p8 (uHeld (uAdd p9 (p9 / 8))) g_0 g_6 true true false).2.2.2.2.2.2.2.1), .int .u64 ((pMove p0 (uPush l1 10 (uAdd p6 1) g_7) p2 p3 p4 p5 (uAdd p6 1) p7 p8 (uHeld (uAdd p9 (p9 / 8))) g_0 g_6 true true false).2.2.2.2.2.2.2.2.1), .int .u64 (uHeld (uAdd p9 (p9 / 8)))] _ rfl Bg2 Try.underlying26 rfl (by kernel_rfl)) rfl ⟨qA, qk, rfl, hk_qA, RB_qA, HS.out⟩
theorem rack_3 (p0 p2 p3 p4 p5 p6 p7 p8 p9 g_0 g_1 g_2 g_3 g_4 g_5 g_6 g_7 : Int) (A1 : Option Addr) (k1 : Nat) (Wp2 : W64 p2) (Wp3 : W64 p3) (Wp4 : W64 p4) (Wp5 : W64 p5) (Wp6 : W64 p6) (Wp7 : W64 p7) (Wp8 : W64 p8) (Wp9 : W64 p9) (Wg_0 : W64 g_0) (Wg_1 : W64 g_1) (Wg_2 : W64 g_2) (Wg_3 : W64 g_3) (Wg_4 : W64 g_4) (Wg_5 : W64 g_5) (Wg_6 : W64 g_6) (Wg_7 : W64 g_7) (w : World) (l1 : List S52) (hr1 : Kd.C k52 w A1 l1.length l1) (hk1 : l1.length ≤ k1) (hw1 : SWf l1) (hL1 : l1.length < 1000000) (h0 : (decide (uBest l1 ≤ g_7)) = false) (h1 : (decide (uAdd p3 10000 ≤ g_0)) = true) :
  Calls Try.prog 12 #[.agg #[.int .i64 p0, .slice A1 l1.length k1, .int .u64 p2, .int .u64 p3, .int .u64 p4, .int .u64 p5, .int .u64 p6, .int .u64 p7, .int .u64 p8, .int .u64 p9], .agg #[.int .u64 g_0, .int .u64 g_1, .int .u64 g_2, .int .u64 g_3, .int .u64 g_4, .int .u64 g_5, .int .u64 g_6, .int .u64 g_7, .bool true, .bool true]] w fun e w' => ∃ (qA : Option Addr) (qk : Nat), e = .returned (.agg #[.int .i64 ((pMove p0 l1 g_5 g_0 p4 p5 (uAdd p6 1) p7 p8 (uHeld (uAdd p9 (p9 / 8))) g_0 g_6 true true true).1), .slice qA l1.length qk, .int .u64 g_5, .int .u64 g_0, .int .u64 ((pMove p0 l1 g_5 g_0 p4 p5 (uAdd p6 1) p7 p8 (uHeld (uAdd p9 (p9 / 8))) g_0 g_6 true true true).2.2.2.2.1), .int .u64 ((pMove p0 l1 g_5 g_0 p4 p5 (uAdd p6 1) p7 p8 (uHeld (uAdd p9 (p9 / 8))) g_0 g_6 true true true).2.2.2.2.2.1), .int .u64 (uAdd p6 1), .int .u64 ((pMove p0 l1 g_5 g_0 p4 p5 (uAdd p6 1) p7 p8 (uHeld (uAdd p9 (p9 / 8))) g_0 g_6 true true true).2.2.2.2.2.2.2.1), .int .u64 ((pMove p0 l1 g_5 g_0 p4 p5 (uAdd p6 1) p7 p8 (uHeld (uAdd p9 (p9 / 8))) g_0 g_6 true true true).2.2.2.2.2.2.2.2.1), .int .u64 (uHeld (uAdd p9 (p9 / 8)))]) ∧ l1.length ≤ qk ∧ RB w' qA l1 ∧ Below w.heap.size w w' := by
 have hu26 := Try.underlying26
 have hu28 := Try.underlying28
 have q0 : IntKind.u64.wrap (Int.tdiv p9 8) = p9 / 8 := wdiv Wp9 8 (by decide)
 have HS := Since.refl w
 go_enter Try.func12, Try.ntmps12
 go_wp2_with (first | (refine seg_new rfl (N := 2) rfl [.int .i64 p0, .slice A1 l1.length k1, .int .u64 p2, .int .u64 p3, .int .u64 p4, .int .u64 p5, .int .u64 p6, .int .u64 p7, .int .u64 p8, .int .u64 p9] 26 ?hr ?_; (case hr => rfl); intro g0 hg w1 hn hl; have GEg0 := ge_new HS hg; clear hg; replace HS := HS.below hl; have Bg0 := hn; clear hl hn) | (refine seg_new rfl (N := 3) rfl [.int .u64 g_0, .int .u64 g_1, .int .u64 g_2, .int .u64 g_3, .int .u64 g_4, .int .u64 g_5, .int .u64 g_6, .int .u64 g_7, .bool true, .bool true] 28 ?hr ?_; (case hr => rfl); intro g1 hg w2 hn hl; have Ng1_g0 := ne_new Bg0 hg; have GEg1 := ge_new HS hg; clear hg; replace Bg0 := Bg0.below hl; replace HS := HS.below hl; have Bg1 := hn; clear hl hn) | (refine seg_new rfl (N := 4) rfl [.int .i64 0, .slice none 0 0, .int .u64 0, .int .u64 0, .int .u64 0, .int .u64 0, .int .u64 0, .int .u64 0, .int .u64 0, .int .u64 0] 26 ?hr ?_; (case hr => rfl); intro g2 hg w3 hn hl; have Ng2_g0 := ne_new Bg0 hg; have Ng2_g1 := ne_new Bg1 hg; have GEg2 := ge_new HS hg; clear hg; replace Bg0 := Bg0.below hl; replace Bg1 := Bg1.below hl; replace HS := HS.below hl; have Bg2 := hn; clear hl hn; have kg0_6 := Bg0.at 6 rfl; have kg1_9 := Bg1.at 9 rfl) | ((go_at_call 30); (with_reducible refine (wigwagref01_AddT.C p6 1 Wp6 (by decide) _).mono ?_); rintro e w4 ⟨rfl, hd⟩; have hl := hd.below; clear hd; replace Bg0 := Bg0.below hl; replace Bg1 := Bg1.below hl; replace Bg2 := Bg2.below hl; replace HS := HS.below hl; clear hl; clear kg0_6 kg1_9) | (refine seg_store rfl rfl 24 (.tmp 11) (.tmp 10) rfl g0 6 [.int .u64 (uAdd p6 1)] [.int .i64 p0, .slice A1 l1.length k1, .int .u64 p2, .int .u64 p3, .int .u64 p4, .int .u64 p5, .int .u64 (uAdd p6 1), .int .u64 p7, .int .u64 p8, .int .u64 p9] (.int .u64 (uAdd p6 1)) rfl rfl rfl Bg0 (by kernel_rfl) (nle rfl) rfl rfl ?_; intro w5 hn hw; replace Bg1 := Bg1.grown hw Ng1_g0; replace Bg2 := Bg2.grown hw Ng2_g0; replace HS := HS.grown hw GEg0; replace Bg0 := hn; clear hw; have kg0_9 := Bg0.at 9 rfl; clear hn) | ((go_at_call 30); (with_reducible refine (wigwagref01_AddT.C p9 (p9 / 8) Wp9 (div_w Wp9 8 (by decide)) _).mono ?_); rintro e w6 ⟨rfl, hd⟩; have hl := hd.below; clear hd; replace Bg0 := Bg0.below hl; replace Bg1 := Bg1.below hl; replace Bg2 := Bg2.below hl; replace HS := HS.below hl; clear hl; clear kg0_9) | ((go_at_call 31); (with_reducible refine (wigwagref10_HeldT.C (uAdd p9 (p9 / 8)) _).mono ?_); rintro e w7 ⟨rfl, hd⟩; have hl := hd.below; clear hd; replace Bg0 := Bg0.below hl; replace Bg1 := Bg1.below hl; replace Bg2 := Bg2.below hl; replace HS := HS.below hl; clear hl) | (refine seg_store rfl rfl 24 (.tmp 19) (.tmp 18) rfl g0 9 [.int .u64 (uHeld (uAdd p9 (p9 / 8)))] [.int .i64 p0, .slice A1 l1.length k1, .int .u64 p2, .int .u64 p3, .int .u64 p4, .int .u64 p5, .int .u64 (uAdd p6 1), .int .u64 p7, .int .u64 p8, .int .u64 (uHeld (uAdd p9 (p9 / 8)))] (.int .u64 (uHeld (uAdd p9 (p9 / 8)))) rfl rfl rfl Bg0 (by kernel_rfl) (nle rfl) rfl rfl ?_; intro w8 hn hw; replace Bg1 := Bg1.grown hw Ng1_g0; replace Bg2 := Bg2.grown hw Ng2_g0; replace HS := HS.grown hw GEg0; replace Bg0 := hn; clear hw; have kg1_7 := Bg1.at 7 rfl; have kg1_8 := Bg1.at 8 rfl; clear hn))
 refine start_ (n := 10) (S := fun w' => w'.cell? ⟨g1, 8, none⟩ = some (.bool true) ∧ w'.cell? ⟨g1, 7, none⟩ = some (.int .u64 g_7) ∧ Blk w' g0 26 [.int .i64 p0, .slice A1 l1.length k1, .int .u64 p2, .int .u64 p3, .int .u64 p4, .int .u64 p5, .int .u64 (uAdd p6 1), .int .u64 p7, .int .u64 p8, .int .u64 (uHeld (uAdd p9 (p9 / 8)))]) (ds := []) (bs 10 0) (by kernel_rfl) rfl rfl ⟨((Bg1.drew.cell 8).trans rfl), ((Bg1.drew.cell 7).trans rfl), Bg0.drew⟩ (fun hHeld => ?_)
 generalize hWd : World.drew w8 = w9 at hHeld ⊢
 have hl : Below w8.heap.size w8 w9 := (by rw [← hWd]; exact below_drew1 (Below.refl _ _))
 clear hWd
 replace Bg0 := Bg0.below hl; replace Bg1 := Bg1.below hl; replace Bg2 := Bg2.below hl; replace HS := HS.below hl; clear hl; replace kg1_7 := Bg1.at 7 rfl; replace kg1_8 := Bg1.at 8 rfl
 refine pu 0 20 (.pointer (some ⟨g1, 8, none⟩)) 1 rfl rfl (by kernel_rfl) (fun _ _ _ h => h) (by rfl) (fun _ => by kernel_rfl) rfl ?_
 refine norm_ (a' := ?_) ?_ ?_
 rotate_left
 ·simp only [Act.put, zA_, z0_, z1_, i64_w, i32_w]
  rfl
 refine take_ (i := 1) (N := some 21) (v := ?_) (a' := ?_) (bs 10 3) rfl rfl (by kernel_rfl) (fun _ _ _ h => h) (Or.inl ⟨by rfl, ?_⟩) hHeld ?_ ?_
 rotate_left
 ·rintro w' ⟨s0, s1, s2⟩
  go_simp
  with_reducible rfl
 rotate_left
 ·simp only [Act.put, zA_, z0_, z1_, i64_w, i32_w]
  rfl
 refine pure_ (i := 2) (N := some 22) (v := ?_) (a' := ?_) (bs 10 7) rfl rfl (by kernel_rfl) (fun _ _ _ h => h) (Or.inl ⟨by rfl, ?_⟩) ?_ ?_
 rotate_left
 ·intro w'
  go_simp
  with_reducible rfl
 rotate_left
 ·simp only [Act.put, zA_, z0_, z1_, i64_w, i32_w]
  rfl
 refine pure_ (i := 3) (N := some 23) (v := ?_) (a' := ?_) (bs 10 15) rfl rfl (by kernel_rfl) (fun _ _ _ h => h) (Or.inl ⟨by rfl, ?_⟩) ?_ ?_
 rotate_left
 ·intro w'
  go_simp
  with_reducible rfl
 rotate_left
 ·simp only [Act.put, zA_, z0_, z1_, i64_w, i32_w]
  rfl
 refine pu 4 24 (.pointer (some ⟨g1, 7, none⟩)) 31 rfl rfl (by kernel_rfl) (fun _ _ _ h => h) (by rfl) (fun _ => by kernel_rfl) rfl ?_
 refine norm_ (a' := ?_) ?_ ?_
 rotate_left
 ·simp only [Act.put, zA_, z0_, z1_, i64_w, i32_w]
  rfl
 refine take_ (i := 5) (N := some 25) (v := ?_) (a' := ?_) (bs 10 63) rfl rfl (by kernel_rfl) (fun _ _ _ h => h) (Or.inl ⟨by rfl, ?_⟩) hHeld ?_ ?_
 rotate_left
 ·rintro w' ⟨s0, s1, s2⟩
  go_simp
  with_reducible rfl
 rotate_left
 ·simp only [Act.put, zA_, z0_, z1_, i64_w, i32_w]
  rfl
 refine take_ (i := 6) (N := some 26) (v := .agg #[.int .i64 p0, .slice A1 l1.length k1, .int .u64 p2, .int .u64 p3, .int .u64 p4, .int .u64 p5, .int .u64 (uAdd p6 1), .int .u64 p7, .int .u64 p8, .int .u64 (uHeld (uAdd p9 (p9 / 8)))]) (a' := ?_) (bs 10 127) rfl rfl (by kernel_rfl) (fun _ _ _ h => h) (Or.inl ⟨by rfl, ?_⟩) hHeld ?_ ?_
 ·rintro w' ⟨s0, s1, s2⟩
  exact exec_seg_load 26 (.tmp 2) (by rfl) g0 0 [.int .i64 p0, .slice A1 l1.length k1, .int .u64 p2, .int .u64 p3, .int .u64 p4, .int .u64 p5, .int .u64 (uAdd p6 1), .int .u64 p7, .int .u64 p8, .int .u64 (uHeld (uAdd p9 (p9 / 8)))] (by rfl) s2 (by rfl) Try.underlying26 (by rfl) (by kernel_rfl)
 rotate_left
 ·simp only [Act.put, zA_, z0_, z1_, i64_w, i32_w]
  rfl
 refine one_ (i := 7) (N := some 27) (bs 10 255) rfl rfl (by kernel_rfl) (by decide) (fun K hK => ?_)
 refine goes_ Try.func32 (by kernel_rfl) rfl #[.agg #[.int .i64 p0, .slice A1 l1.length k1, .int .u64 p2, .int .u64 p3, .int .u64 p4, .int .u64 p5, .int .u64 (uAdd p6 1), .int .u64 p7, .int .u64 p8, .int .u64 (uHeld (uAdd p9 (p9 / 8)))]] (by rfl) rfl rfl (by simp only [List.map_toArray, List.map_cons, List.map_nil]; rfl) ?_
 with_reducible refine (rbestC p0 p2 p3 p4 p5 (uAdd p6 1) p7 p8 (uHeld (uAdd p9 (p9 / 8))) A1 k1 l1 _ (Kd.C_below hr1 HS.out) hk1).mono ?_
 rintro e w10 ⟨rfl, hl⟩
 refine ⟨_, rfl, ?_⟩
 replace Bg0 := Bg0.below hl; replace Bg1 := Bg1.below hl; replace Bg2 := Bg2.below hl; replace HS := HS.below hl; clear hl; replace kg1_7 := Bg1.at 7 rfl; replace kg1_8 := Bg1.at 8 rfl
 refine hK.out _ _ ⟨((Bg1.cell 8).trans rfl), ((Bg1.cell 7).trans rfl), Bg0⟩ (fun hHeld => ?_)
 clear hK K
 refine norm_ (a' := ?_) ?_ ?_
 rotate_left
 ·show Act.put _ (some 27) _ = _
  simp only [Act.put, zA_, z0_, z1_, i64_w, i32_w]
  rfl
 refine pure_ (i := 8) (N := some 28) (v := ?_) (a' := ?_) (bs 10 511) rfl rfl (by kernel_rfl) (fun _ _ _ h => h) (Or.inl ⟨by rfl, ?_⟩) ?_ ?_
 rotate_left
 ·intro w'
  go_simp
  with_reducible rfl
 rotate_left
 ·simp only [Act.put, zA_, z0_, z1_, i64_w, i32_w]
  rfl
 refine pure_ (i := 9) (N := some 29) (v := ?_) (a' := ?_) (bs 10 1023) rfl rfl (by kernel_rfl) (fun _ _ _ h => h) (Or.inl ⟨by rfl, ?_⟩) ?_ ?_
 rotate_left
 ·intro w'
  go_simp
  with_reducible rfl
 rotate_left
 ·simp only [Act.put, zA_, z0_, z1_, i64_w, i32_w]
  rfl
 refine done_ (by kernel_rfl) ?_
 clear kg1_7 kg1_8
 go_wp2_with (first | (refine Kd.R_lit k52 _ 52 ?hg (N := 39) ?hd (xs := ([] : List S52)) (inner := []) (ok := fun _ => True) (okp := fun _ => True) ?hr ?hp (fun _ hk => hk) trivial (Below.refl _ _) (Nat.le_refl _) (by simp) ?_; (case hd => rfl); (case hg => rfl); (case hr => first | (go_simp; done) | (go_simp; rfl)); (case hp => exact (Reps.none _ _)); intro vb w11 hRb hl hg_ hnew_; clear hg_ hnew_; have Og0 := Bg0; have Og1 := Bg1; have Og2 := Bg2; have OHS := HS; have hlb := hl; replace Bg0 := Bg0.below hl; replace Bg1 := Bg1.below hl; replace Bg2 := Bg2.below hl; replace HS := HS.below hl; clear hl; have kg0_1 := Bg0.at 1 rfl) | ((with_reducible refine gate_builtin (b := .append) (xs := #[.tmp 39, .tmp 41]) rfl ?_); at_builtin; refine Kd.R_append_rows k52 (w0 := w10) w10.heap.size rfl (.tmp 39) (.tmp 41) 23 52 (.agg #[(.int .u64 0), (.int .u64 0)]) 16 rfl Try.underlying23 info52 rfl (by decide) (by omega) vb [] l1 _ _ _ (fun _ => True) (fun _ => False) rfl rfl hRb (Kd.C_below hr1 HS.out) (fun _ _ h => h) (fun _ h => h.elim) (fun _ _ => trivial) hlb hlb.size (by simp only [List.length_nil]; omega) ?_; intro vq w12 ho hb hg_ hat_; clear hg_ hat_ hRb; simp only [List.nil_append] at ho; obtain ⟨qA, qk, rfl⟩ := Kd.R_slice ho; obtain ⟨_, hk_qA, hqC⟩ := Kd.R_reads' ho; have RB_qA : RB w12 qA l1 := ⟨hqC⟩; have hF_qA : FR w10 A1 l1 qA l1 := .inr (fun ad e hp => by obtain ⟨inner, hown⟩ := Kd.R_own ho; exact own_base hown _ (by rw [e]; rfl)); clear ho; have NRB_qA_g0 := hF_qA.ne (NE_old ⟨hr1⟩ GEg0) Og0; have NRB_qA_g1 := hF_qA.ne (NE_old ⟨hr1⟩ GEg1) Og1; have NRB_qA_g2 := hF_qA.ne (NE_old ⟨hr1⟩ GEg2) Og2; replace Bg0 := Og0.below hb; replace Bg1 := Og1.below hb; replace Bg2 := Og2.below hb; replace hF_qA := hF_qA.mono OHS.le; replace HS := OHS.below hb; clear hb hlb OHS Og0 Og1 Og2; clear kg0_1) | (refine seg_store rfl rfl 23 (.tmp 43) (.tmp 42) rfl g0 1 [.slice qA l1.length qk] [.int .i64 p0, .slice qA l1.length qk, .int .u64 p2, .int .u64 p3, .int .u64 p4, .int .u64 p5, .int .u64 (uAdd p6 1), .int .u64 p7, .int .u64 p8, .int .u64 (uHeld (uAdd p9 (p9 / 8)))] (.slice qA l1.length qk) rfl rfl rfl Bg0 (by kernel_rfl) (nle rfl) rfl rfl ?_; intro w13 hn hw; replace Bg1 := Bg1.grown hw Ng1_g0; replace Bg2 := Bg2.grown hw Ng2_g0; replace RB_qA := RB_qA.grown hw NRB_qA_g0; replace HS := HS.grown hw GEg0; replace Bg0 := hn; clear hw; have kg0_3 := Bg0.at 3 rfl; have kg1_0 := Bg1.at 0 rfl; clear hn))
 all_goals go_quiet (first | (go_at_call 30; with_reducible exact wigwagref01_AddT.Q p3 10000 Wp3 (by decide) _ _))
 all_goals (generalize hW : World.drewN w13 _ = w14; have hl : Below w13.heap.size w13 w14 := (by rw [← hW]; exact pw_below_drewN (Below.refl _ _) _); clear hW; replace Bg0 := Bg0.below hl; replace Bg1 := Bg1.below hl; replace Bg2 := Bg2.below hl; replace RB_qA := RB_qA.below hl; replace HS := HS.below hl; clear hl; clear kg0_3 kg1_0; have kg1_5 := Bg1.at 5 rfl)
 go_wp2_with (first | (refine seg_store rfl rfl 24 (.tmp 60) (.tmp 59) rfl g0 2 [.int .u64 g_5] [.int .i64 p0, .slice qA l1.length qk, .int .u64 g_5, .int .u64 p3, .int .u64 p4, .int .u64 p5, .int .u64 (uAdd p6 1), .int .u64 p7, .int .u64 p8, .int .u64 (uHeld (uAdd p9 (p9 / 8)))] (.int .u64 g_5) rfl rfl rfl Bg0 (by kernel_rfl) (nle rfl) rfl rfl ?_; intro w15 hn hw; replace Bg1 := Bg1.grown hw Ng1_g0; replace Bg2 := Bg2.grown hw Ng2_g0; replace RB_qA := RB_qA.grown hw NRB_qA_g0; replace HS := HS.grown hw GEg0; replace Bg0 := hn; clear hw; clear kg1_5; have kg1_0 := Bg1.at 0 rfl; clear hn) | (refine seg_store rfl rfl 24 (.tmp 63) (.tmp 62) rfl g0 3 [.int .u64 g_0] [.int .i64 p0, .slice qA l1.length qk, .int .u64 g_5, .int .u64 g_0, .int .u64 p4, .int .u64 p5, .int .u64 (uAdd p6 1), .int .u64 p7, .int .u64 p8, .int .u64 (uHeld (uAdd p9 (p9 / 8)))] (.int .u64 g_0) rfl rfl rfl Bg0 (by kernel_rfl) (nle rfl) rfl rfl ?_; intro w16 hn hw; replace Bg1 := Bg1.grown hw Ng1_g0; replace Bg2 := Bg2.grown hw Ng2_g0; replace RB_qA := RB_qA.grown hw NRB_qA_g0; replace HS := HS.grown hw GEg0; replace Bg0 := hn; clear hw; clear kg1_0; clear hn) | (refine seg_load rfl (N := 64) rfl 26 (.tmp 2) rfl g0 0 [.int .i64 p0, .slice qA l1.length qk, .int .u64 g_5, .int .u64 g_0, .int .u64 p4, .int .u64 p5, .int .u64 (uAdd p6 1), .int .u64 p7, .int .u64 p8, .int .u64 (uHeld (uAdd p9 (p9 / 8)))] rfl Bg0 rfl Try.underlying26 rfl (by kernel_rfl) ?_) | (refine seg_load rfl (N := 65) rfl 28 (.tmp 3) rfl g1 0 [.int .u64 g_0, .int .u64 g_1, .int .u64 g_2, .int .u64 g_3, .int .u64 g_4, .int .u64 g_5, .int .u64 g_6, .int .u64 g_7, .bool true, .bool true] rfl Bg1 rfl Try.underlying28 rfl (by kernel_rfl) ?_) | ((go_at_call 34); (with_reducible refine (moveC p0 g_5 g_0 p4 p5 (uAdd p6 1) p7 p8 (uHeld (uAdd p9 (p9 / 8))) g_0 g_1 g_2 g_3 g_4 g_5 g_6 g_7 true true true qA qk l1 hw1 Wg_5 Wg_0 Wp4 Wp5 (uAdd_w Wp6 (by decide)) Wp7 Wp8 (uHeld_w _) _ RB_qA.out hk_qA).mono ?_); rintro e w17 ⟨rfl, hl⟩; replace Bg0 := Bg0.below hl; replace Bg1 := Bg1.below hl; replace Bg2 := Bg2.below hl; replace RB_qA := RB_qA.below hl; replace HS := HS.below hl; clear hl) | (refine seg_store rfl rfl 26 (.tmp 4) (.tmp 67) rfl g2 0 [.int .i64 ((pMove p0 l1 g_5 g_0 p4 p5 (uAdd p6 1) p7 p8 (uHeld (uAdd p9 (p9 / 8))) g_0 g_6 true true true).1), .slice qA l1.length qk, .int .u64 g_5, .int .u64 g_0, .int .u64 ((pMove p0 l1 g_5 g_0 p4 p5 (uAdd p6 1) p7 p8 (uHeld (uAdd p9 (p9 / 8))) g_0 g_6 true true true).2.2.2.2.1), .int .u64 ((pMove p0 l1 g_5 g_0 p4 p5 (uAdd p6 1) p7 p8 (uHeld (uAdd p9 (p9 / 8))) g_0 g_6 true true true).2.2.2.2.2.1), .int .u64 (uAdd p6 1), .int .u64 ((pMove p0 l1 g_5 g_0 p4 p5 (uAdd p6 1) p7 p8 (uHeld (uAdd p9 (p9 / 8))) g_0 g_6 true true true).2.2.2.2.2.2.2.1), .int .u64 ((pMove p0 l1 g_5 g_0 p4 p5 (uAdd p6 1) p7 p8 (uHeld (uAdd p9 (p9 / 8))) g_0 g_6 true true true).2.2.2.2.2.2.2.2.1), .int .u64 (uHeld (uAdd p9 (p9 / 8)))] [.int .i64 ((pMove p0 l1 g_5 g_0 p4 p5 (uAdd p6 1) p7 p8 (uHeld (uAdd p9 (p9 / 8))) g_0 g_6 true true true).1), .slice qA l1.length qk, .int .u64 g_5, .int .u64 g_0, .int .u64 ((pMove p0 l1 g_5 g_0 p4 p5 (uAdd p6 1) p7 p8 (uHeld (uAdd p9 (p9 / 8))) g_0 g_6 true true true).2.2.2.2.1), .int .u64 ((pMove p0 l1 g_5 g_0 p4 p5 (uAdd p6 1) p7 p8 (uHeld (uAdd p9 (p9 / 8))) g_0 g_6 true true true).2.2.2.2.2.1), .int .u64 (uAdd p6 1), .int .u64 ((pMove p0 l1 g_5 g_0 p4 p5 (uAdd p6 1) p7 p8 (uHeld (uAdd p9 (p9 / 8))) g_0 g_6 true true true).2.2.2.2.2.2.2.1), .int .u64 ((pMove p0 l1 g_5 g_0 p4 p5 (uAdd p6 1) p7 p8 (uHeld (uAdd p9 (p9 / 8))) g_0 g_6 true true true).2.2.2.2.2.2.2.2.1), .int .u64 (uHeld (uAdd p9 (p9 / 8)))] (.agg #[.int .i64 ((pMove p0 l1 g_5 g_0 p4 p5 (uAdd p6 1) p7 p8 (uHeld (uAdd p9 (p9 / 8))) g_0 g_6 true true true).1), .slice qA l1.length qk, .int .u64 g_5, .int .u64 g_0, .int .u64 ((pMove p0 l1 g_5 g_0 p4 p5 (uAdd p6 1) p7 p8 (uHeld (uAdd p9 (p9 / 8))) g_0 g_6 true true true).2.2.2.2.1), .int .u64 ((pMove p0 l1 g_5 g_0 p4 p5 (uAdd p6 1) p7 p8 (uHeld (uAdd p9 (p9 / 8))) g_0 g_6 true true true).2.2.2.2.2.1), .int .u64 (uAdd p6 1), .int .u64 ((pMove p0 l1 g_5 g_0 p4 p5 (uAdd p6 1) p7 p8 (uHeld (uAdd p9 (p9 / 8))) g_0 g_6 true true true).2.2.2.2.2.2.2.1), .int .u64 ((pMove p0 l1 g_5 g_0 p4 p5 (uAdd p6 1) p7 p8 (uHeld (uAdd p9 (p9 / 8))) g_0 g_6 true true true).2.2.2.2.2.2.2.2.1), .int .u64 (uHeld (uAdd p9 (p9 / 8)))]) rfl rfl rfl Bg2 (by kernel_rfl) (nle rfl) rfl rfl ?_; intro w18 hn hw; replace Bg0 := Bg0.grown hw Ng2_g0.symm; replace Bg1 := Bg1.grown hw Ng2_g1.symm; replace RB_qA := RB_qA.grown hw NRB_qA_g2; replace HS := HS.grown hw GEg2; replace Bg2 := hn; clear hw; clear hn))
 all_goals exact bodyPost_ret (results_cell1 rfl _ _ g2 26 [.int .i64 ((pMove p0 l1 g_5 g_0 p4 p5 (uAdd p6 1) p7 p8 (uHeld (uAdd p9 (p9 / 8))) g_0 g_6 true true true).1), .slice qA l1.length qk, .int .u64 g_5, .int .u64 g_0, .int .u64 ((pMove p0 l1 g_5 g_0 p4 p5 (uAdd p6 1) p7 p8 (uHeld (uAdd p9 (p9 / 8))) g_0 g_6 true true true).2.2.2.2.1), .int .u64 ((pMove p0 l1 g_5 g_0 p4 p5 (uAdd p6 1) p7 p8 (uHeld (uAdd p9 (p9 / 8))) g_0 g_6 true true true).2.2.2.2.2.1), .int .u64 (uAdd p6 1), .int .u64 ((pMove p0 l1 g_5 g_0 p4 p5 (uAdd p6 1) p7 p8 (uHeld (uAdd p9 (p9 / 8))) g_0 g_6 true true true).2.2.2.2.2.2.2.1), .int .u64 ((pMove p0 l1 g_5 g_0 p4 p5 (uAdd p6 1) p7 p8 (uHeld (uAdd p9 (p9 / 8))) g_0 g_6 true true true).2.2.2.2.2.2.2.2.1), .int .u64 (uHeld (uAdd p9 (p9 / 8)))] _ rfl Bg2 Try.underlying26 rfl (by kernel_rfl)) rfl ⟨qA, qk, rfl, hk_qA, RB_qA, HS.out⟩
theorem rack_4 (p0 p2 p3 p4 p5 p6 p7 p8 p9 g_0 g_1 g_2 g_3 g_4 g_5 g_6 g_7 : Int) (A1 : Option Addr) (k1 : Nat) (Wp2 : W64 p2) (Wp3 : W64 p3) (Wp4 : W64 p4) (Wp5 : W64 p5) (Wp6 : W64 p6) (Wp7 : W64 p7) (Wp8 : W64 p8) (Wp9 : W64 p9) (Wg_0 : W64 g_0) (Wg_1 : W64 g_1) (Wg_2 : W64 g_2) (Wg_3 : W64 g_3) (Wg_4 : W64 g_4) (Wg_5 : W64 g_5) (Wg_6 : W64 g_6) (Wg_7 : W64 g_7) (w : World) (l1 : List S52) (hr1 : Kd.C k52 w A1 l1.length l1) (hk1 : l1.length ≤ k1) (hw1 : SWf l1) (hL1 : l1.length < 1000000) (h0 : (decide (uBest l1 ≤ g_7)) = false) (h1 : (decide (uAdd p3 10000 ≤ g_0)) = false) (h2 : (decide (g_5 < p2)) = true) :
  Calls Try.prog 12 #[.agg #[.int .i64 p0, .slice A1 l1.length k1, .int .u64 p2, .int .u64 p3, .int .u64 p4, .int .u64 p5, .int .u64 p6, .int .u64 p7, .int .u64 p8, .int .u64 p9], .agg #[.int .u64 g_0, .int .u64 g_1, .int .u64 g_2, .int .u64 g_3, .int .u64 g_4, .int .u64 g_5, .int .u64 g_6, .int .u64 g_7, .bool true, .bool true]] w fun e w' => ∃ (qA : Option Addr) (qk : Nat), e = .returned (.agg #[.int .i64 ((pMove p0 l1 g_5 g_0 p4 p5 (uAdd p6 1) p7 p8 (uHeld (uAdd p9 (p9 / 8))) g_0 g_6 true true false).1), .slice qA l1.length qk, .int .u64 g_5, .int .u64 g_0, .int .u64 ((pMove p0 l1 g_5 g_0 p4 p5 (uAdd p6 1) p7 p8 (uHeld (uAdd p9 (p9 / 8))) g_0 g_6 true true false).2.2.2.2.1), .int .u64 ((pMove p0 l1 g_5 g_0 p4 p5 (uAdd p6 1) p7 p8 (uHeld (uAdd p9 (p9 / 8))) g_0 g_6 true true false).2.2.2.2.2.1), .int .u64 (uAdd p6 1), .int .u64 ((pMove p0 l1 g_5 g_0 p4 p5 (uAdd p6 1) p7 p8 (uHeld (uAdd p9 (p9 / 8))) g_0 g_6 true true false).2.2.2.2.2.2.2.1), .int .u64 ((pMove p0 l1 g_5 g_0 p4 p5 (uAdd p6 1) p7 p8 (uHeld (uAdd p9 (p9 / 8))) g_0 g_6 true true false).2.2.2.2.2.2.2.2.1), .int .u64 (uHeld (uAdd p9 (p9 / 8)))]) ∧ l1.length ≤ qk ∧ RB w' qA l1 ∧ Below w.heap.size w w' := by
 have hu26 := Try.underlying26
 have hu28 := Try.underlying28
 have q0 : IntKind.u64.wrap (Int.tdiv p9 8) = p9 / 8 := wdiv Wp9 8 (by decide)
 have HS := Since.refl w
 go_enter Try.func12, Try.ntmps12
 go_wp2_with (first | (refine seg_new rfl (N := 2) rfl [.int .i64 p0, .slice A1 l1.length k1, .int .u64 p2, .int .u64 p3, .int .u64 p4, .int .u64 p5, .int .u64 p6, .int .u64 p7, .int .u64 p8, .int .u64 p9] 26 ?hr ?_; (case hr => rfl); intro g0 hg w1 hn hl; have GEg0 := ge_new HS hg; clear hg; replace HS := HS.below hl; have Bg0 := hn; clear hl hn) | (refine seg_new rfl (N := 3) rfl [.int .u64 g_0, .int .u64 g_1, .int .u64 g_2, .int .u64 g_3, .int .u64 g_4, .int .u64 g_5, .int .u64 g_6, .int .u64 g_7, .bool true, .bool true] 28 ?hr ?_; (case hr => rfl); intro g1 hg w2 hn hl; have Ng1_g0 := ne_new Bg0 hg; have GEg1 := ge_new HS hg; clear hg; replace Bg0 := Bg0.below hl; replace HS := HS.below hl; have Bg1 := hn; clear hl hn) | (refine seg_new rfl (N := 4) rfl [.int .i64 0, .slice none 0 0, .int .u64 0, .int .u64 0, .int .u64 0, .int .u64 0, .int .u64 0, .int .u64 0, .int .u64 0, .int .u64 0] 26 ?hr ?_; (case hr => rfl); intro g2 hg w3 hn hl; have Ng2_g0 := ne_new Bg0 hg; have Ng2_g1 := ne_new Bg1 hg; have GEg2 := ge_new HS hg; clear hg; replace Bg0 := Bg0.below hl; replace Bg1 := Bg1.below hl; replace HS := HS.below hl; have Bg2 := hn; clear hl hn; have kg0_6 := Bg0.at 6 rfl; have kg1_9 := Bg1.at 9 rfl) | ((go_at_call 30); (with_reducible refine (wigwagref01_AddT.C p6 1 Wp6 (by decide) _).mono ?_); rintro e w4 ⟨rfl, hd⟩; have hl := hd.below; clear hd; replace Bg0 := Bg0.below hl; replace Bg1 := Bg1.below hl; replace Bg2 := Bg2.below hl; replace HS := HS.below hl; clear hl; clear kg0_6 kg1_9) | (refine seg_store rfl rfl 24 (.tmp 11) (.tmp 10) rfl g0 6 [.int .u64 (uAdd p6 1)] [.int .i64 p0, .slice A1 l1.length k1, .int .u64 p2, .int .u64 p3, .int .u64 p4, .int .u64 p5, .int .u64 (uAdd p6 1), .int .u64 p7, .int .u64 p8, .int .u64 p9] (.int .u64 (uAdd p6 1)) rfl rfl rfl Bg0 (by kernel_rfl) (nle rfl) rfl rfl ?_; intro w5 hn hw; replace Bg1 := Bg1.grown hw Ng1_g0; replace Bg2 := Bg2.grown hw Ng2_g0; replace HS := HS.grown hw GEg0; replace Bg0 := hn; clear hw; have kg0_9 := Bg0.at 9 rfl; clear hn) | ((go_at_call 30); (with_reducible refine (wigwagref01_AddT.C p9 (p9 / 8) Wp9 (div_w Wp9 8 (by decide)) _).mono ?_); rintro e w6 ⟨rfl, hd⟩; have hl := hd.below; clear hd; replace Bg0 := Bg0.below hl; replace Bg1 := Bg1.below hl; replace Bg2 := Bg2.below hl; replace HS := HS.below hl; clear hl; clear kg0_9) | ((go_at_call 31); (with_reducible refine (wigwagref10_HeldT.C (uAdd p9 (p9 / 8)) _).mono ?_); rintro e w7 ⟨rfl, hd⟩; have hl := hd.below; clear hd; replace Bg0 := Bg0.below hl; replace Bg1 := Bg1.below hl; replace Bg2 := Bg2.below hl; replace HS := HS.below hl; clear hl) | (refine seg_store rfl rfl 24 (.tmp 19) (.tmp 18) rfl g0 9 [.int .u64 (uHeld (uAdd p9 (p9 / 8)))] [.int .i64 p0, .slice A1 l1.length k1, .int .u64 p2, .int .u64 p3, .int .u64 p4, .int .u64 p5, .int .u64 (uAdd p6 1), .int .u64 p7, .int .u64 p8, .int .u64 (uHeld (uAdd p9 (p9 / 8)))] (.int .u64 (uHeld (uAdd p9 (p9 / 8)))) rfl rfl rfl Bg0 (by kernel_rfl) (nle rfl) rfl rfl ?_; intro w8 hn hw; replace Bg1 := Bg1.grown hw Ng1_g0; replace Bg2 := Bg2.grown hw Ng2_g0; replace HS := HS.grown hw GEg0; replace Bg0 := hn; clear hw; have kg1_7 := Bg1.at 7 rfl; have kg1_8 := Bg1.at 8 rfl; clear hn))
 refine start_ (n := 10) (S := fun w' => w'.cell? ⟨g1, 8, none⟩ = some (.bool true) ∧ w'.cell? ⟨g1, 7, none⟩ = some (.int .u64 g_7) ∧ Blk w' g0 26 [.int .i64 p0, .slice A1 l1.length k1, .int .u64 p2, .int .u64 p3, .int .u64 p4, .int .u64 p5, .int .u64 (uAdd p6 1), .int .u64 p7, .int .u64 p8, .int .u64 (uHeld (uAdd p9 (p9 / 8)))]) (ds := []) (bs 10 0) (by kernel_rfl) rfl rfl ⟨((Bg1.drew.cell 8).trans rfl), ((Bg1.drew.cell 7).trans rfl), Bg0.drew⟩ (fun hHeld => ?_)
 generalize hWd : World.drew w8 = w9 at hHeld ⊢
 have hl : Below w8.heap.size w8 w9 := (by rw [← hWd]; exact below_drew1 (Below.refl _ _))
 clear hWd
 replace Bg0 := Bg0.below hl; replace Bg1 := Bg1.below hl; replace Bg2 := Bg2.below hl; replace HS := HS.below hl; clear hl; replace kg1_7 := Bg1.at 7 rfl; replace kg1_8 := Bg1.at 8 rfl
 refine pu 0 20 (.pointer (some ⟨g1, 8, none⟩)) 1 rfl rfl (by kernel_rfl) (fun _ _ _ h => h) (by rfl) (fun _ => by kernel_rfl) rfl ?_
 refine norm_ (a' := ?_) ?_ ?_
 rotate_left
 ·simp only [Act.put, zA_, z0_, z1_, i64_w, i32_w]
  rfl
 refine take_ (i := 1) (N := some 21) (v := ?_) (a' := ?_) (bs 10 3) rfl rfl (by kernel_rfl) (fun _ _ _ h => h) (Or.inl ⟨by rfl, ?_⟩) hHeld ?_ ?_
 rotate_left
 ·rintro w' ⟨s0, s1, s2⟩
  go_simp
  with_reducible rfl
 rotate_left
 ·simp only [Act.put, zA_, z0_, z1_, i64_w, i32_w]
  rfl
 refine pure_ (i := 2) (N := some 22) (v := ?_) (a' := ?_) (bs 10 7) rfl rfl (by kernel_rfl) (fun _ _ _ h => h) (Or.inl ⟨by rfl, ?_⟩) ?_ ?_
 rotate_left
 ·intro w'
  go_simp
  with_reducible rfl
 rotate_left
 ·simp only [Act.put, zA_, z0_, z1_, i64_w, i32_w]
  rfl
 refine pure_ (i := 3) (N := some 23) (v := ?_) (a' := ?_) (bs 10 15) rfl rfl (by kernel_rfl) (fun _ _ _ h => h) (Or.inl ⟨by rfl, ?_⟩) ?_ ?_
 rotate_left
 ·intro w'
  go_simp
  with_reducible rfl
 rotate_left
 ·simp only [Act.put, zA_, z0_, z1_, i64_w, i32_w]
  rfl
 refine pu 4 24 (.pointer (some ⟨g1, 7, none⟩)) 31 rfl rfl (by kernel_rfl) (fun _ _ _ h => h) (by rfl) (fun _ => by kernel_rfl) rfl ?_
 refine norm_ (a' := ?_) ?_ ?_
 rotate_left
 ·simp only [Act.put, zA_, z0_, z1_, i64_w, i32_w]
  rfl
 refine take_ (i := 5) (N := some 25) (v := ?_) (a' := ?_) (bs 10 63) rfl rfl (by kernel_rfl) (fun _ _ _ h => h) (Or.inl ⟨by rfl, ?_⟩) hHeld ?_ ?_
 rotate_left
 ·rintro w' ⟨s0, s1, s2⟩
  go_simp
  with_reducible rfl
 rotate_left
 ·simp only [Act.put, zA_, z0_, z1_, i64_w, i32_w]
  rfl
 refine take_ (i := 6) (N := some 26) (v := .agg #[.int .i64 p0, .slice A1 l1.length k1, .int .u64 p2, .int .u64 p3, .int .u64 p4, .int .u64 p5, .int .u64 (uAdd p6 1), .int .u64 p7, .int .u64 p8, .int .u64 (uHeld (uAdd p9 (p9 / 8)))]) (a' := ?_) (bs 10 127) rfl rfl (by kernel_rfl) (fun _ _ _ h => h) (Or.inl ⟨by rfl, ?_⟩) hHeld ?_ ?_
 ·rintro w' ⟨s0, s1, s2⟩
  exact exec_seg_load 26 (.tmp 2) (by rfl) g0 0 [.int .i64 p0, .slice A1 l1.length k1, .int .u64 p2, .int .u64 p3, .int .u64 p4, .int .u64 p5, .int .u64 (uAdd p6 1), .int .u64 p7, .int .u64 p8, .int .u64 (uHeld (uAdd p9 (p9 / 8)))] (by rfl) s2 (by rfl) Try.underlying26 (by rfl) (by kernel_rfl)
 rotate_left
 ·simp only [Act.put, zA_, z0_, z1_, i64_w, i32_w]
  rfl
 refine one_ (i := 7) (N := some 27) (bs 10 255) rfl rfl (by kernel_rfl) (by decide) (fun K hK => ?_)
 refine goes_ Try.func32 (by kernel_rfl) rfl #[.agg #[.int .i64 p0, .slice A1 l1.length k1, .int .u64 p2, .int .u64 p3, .int .u64 p4, .int .u64 p5, .int .u64 (uAdd p6 1), .int .u64 p7, .int .u64 p8, .int .u64 (uHeld (uAdd p9 (p9 / 8)))]] (by rfl) rfl rfl (by simp only [List.map_toArray, List.map_cons, List.map_nil]; rfl) ?_
 with_reducible refine (rbestC p0 p2 p3 p4 p5 (uAdd p6 1) p7 p8 (uHeld (uAdd p9 (p9 / 8))) A1 k1 l1 _ (Kd.C_below hr1 HS.out) hk1).mono ?_
 rintro e w10 ⟨rfl, hl⟩
 refine ⟨_, rfl, ?_⟩
 replace Bg0 := Bg0.below hl; replace Bg1 := Bg1.below hl; replace Bg2 := Bg2.below hl; replace HS := HS.below hl; clear hl; replace kg1_7 := Bg1.at 7 rfl; replace kg1_8 := Bg1.at 8 rfl
 refine hK.out _ _ ⟨((Bg1.cell 8).trans rfl), ((Bg1.cell 7).trans rfl), Bg0⟩ (fun hHeld => ?_)
 clear hK K
 refine norm_ (a' := ?_) ?_ ?_
 rotate_left
 ·show Act.put _ (some 27) _ = _
  simp only [Act.put, zA_, z0_, z1_, i64_w, i32_w]
  rfl
 refine pure_ (i := 8) (N := some 28) (v := ?_) (a' := ?_) (bs 10 511) rfl rfl (by kernel_rfl) (fun _ _ _ h => h) (Or.inl ⟨by rfl, ?_⟩) ?_ ?_
 rotate_left
 ·intro w'
  go_simp
  with_reducible rfl
 rotate_left
 ·simp only [Act.put, zA_, z0_, z1_, i64_w, i32_w]
  rfl
 refine pure_ (i := 9) (N := some 29) (v := ?_) (a' := ?_) (bs 10 1023) rfl rfl (by kernel_rfl) (fun _ _ _ h => h) (Or.inl ⟨by rfl, ?_⟩) ?_ ?_
 rotate_left
 ·intro w'
  go_simp
  with_reducible rfl
 rotate_left
 ·simp only [Act.put, zA_, z0_, z1_, i64_w, i32_w]
  rfl
 refine done_ (by kernel_rfl) ?_
 clear kg1_7 kg1_8
 go_wp2_with (first | (refine Kd.R_lit k52 _ 52 ?hg (N := 39) ?hd (xs := ([] : List S52)) (inner := []) (ok := fun _ => True) (okp := fun _ => True) ?hr ?hp (fun _ hk => hk) trivial (Below.refl _ _) (Nat.le_refl _) (by simp) ?_; (case hd => rfl); (case hg => rfl); (case hr => first | (go_simp; done) | (go_simp; rfl)); (case hp => exact (Reps.none _ _)); intro vb w11 hRb hl hg_ hnew_; clear hg_ hnew_; have Og0 := Bg0; have Og1 := Bg1; have Og2 := Bg2; have OHS := HS; have hlb := hl; replace Bg0 := Bg0.below hl; replace Bg1 := Bg1.below hl; replace Bg2 := Bg2.below hl; replace HS := HS.below hl; clear hl; have kg0_1 := Bg0.at 1 rfl) | ((with_reducible refine gate_builtin (b := .append) (xs := #[.tmp 39, .tmp 41]) rfl ?_); at_builtin; refine Kd.R_append_rows k52 (w0 := w10) w10.heap.size rfl (.tmp 39) (.tmp 41) 23 52 (.agg #[(.int .u64 0), (.int .u64 0)]) 16 rfl Try.underlying23 info52 rfl (by decide) (by omega) vb [] l1 _ _ _ (fun _ => True) (fun _ => False) rfl rfl hRb (Kd.C_below hr1 HS.out) (fun _ _ h => h) (fun _ h => h.elim) (fun _ _ => trivial) hlb hlb.size (by simp only [List.length_nil]; omega) ?_; intro vq w12 ho hb hg_ hat_; clear hg_ hat_ hRb; simp only [List.nil_append] at ho; obtain ⟨qA, qk, rfl⟩ := Kd.R_slice ho; obtain ⟨_, hk_qA, hqC⟩ := Kd.R_reads' ho; have RB_qA : RB w12 qA l1 := ⟨hqC⟩; have hF_qA : FR w10 A1 l1 qA l1 := .inr (fun ad e hp => by obtain ⟨inner, hown⟩ := Kd.R_own ho; exact own_base hown _ (by rw [e]; rfl)); clear ho; have NRB_qA_g0 := hF_qA.ne (NE_old ⟨hr1⟩ GEg0) Og0; have NRB_qA_g1 := hF_qA.ne (NE_old ⟨hr1⟩ GEg1) Og1; have NRB_qA_g2 := hF_qA.ne (NE_old ⟨hr1⟩ GEg2) Og2; replace Bg0 := Og0.below hb; replace Bg1 := Og1.below hb; replace Bg2 := Og2.below hb; replace hF_qA := hF_qA.mono OHS.le; replace HS := OHS.below hb; clear hb hlb OHS Og0 Og1 Og2; clear kg0_1) | (refine seg_store rfl rfl 23 (.tmp 43) (.tmp 42) rfl g0 1 [.slice qA l1.length qk] [.int .i64 p0, .slice qA l1.length qk, .int .u64 p2, .int .u64 p3, .int .u64 p4, .int .u64 p5, .int .u64 (uAdd p6 1), .int .u64 p7, .int .u64 p8, .int .u64 (uHeld (uAdd p9 (p9 / 8)))] (.slice qA l1.length qk) rfl rfl rfl Bg0 (by kernel_rfl) (nle rfl) rfl rfl ?_; intro w13 hn hw; replace Bg1 := Bg1.grown hw Ng1_g0; replace Bg2 := Bg2.grown hw Ng2_g0; replace RB_qA := RB_qA.grown hw NRB_qA_g0; replace HS := HS.grown hw GEg0; replace Bg0 := hn; clear hw; have kg0_3 := Bg0.at 3 rfl; have kg1_0 := Bg1.at 0 rfl; clear hn))
 all_goals go_quiet (first | (go_at_call 30; with_reducible exact wigwagref01_AddT.Q p3 10000 Wp3 (by decide) _ _))
 all_goals (generalize hW : World.drewN w13 _ = w14; have hl : Below w13.heap.size w13 w14 := (by rw [← hW]; exact pw_below_drewN (Below.refl _ _) _); clear hW; replace Bg0 := Bg0.below hl; replace Bg1 := Bg1.below hl; replace Bg2 := Bg2.below hl; replace RB_qA := RB_qA.below hl; replace HS := HS.below hl; clear hl; clear kg0_3 kg1_0; have kg0_2 := Bg0.at 2 rfl; have kg1_5 := Bg1.at 5 rfl)
 go_wp2_with (first | (refine seg_store rfl rfl 24 (.tmp 60) (.tmp 59) rfl g0 2 [.int .u64 g_5] [.int .i64 p0, .slice qA l1.length qk, .int .u64 g_5, .int .u64 p3, .int .u64 p4, .int .u64 p5, .int .u64 (uAdd p6 1), .int .u64 p7, .int .u64 p8, .int .u64 (uHeld (uAdd p9 (p9 / 8)))] (.int .u64 g_5) rfl rfl rfl Bg0 (by kernel_rfl) (nle rfl) rfl rfl ?_; intro w15 hn hw; replace Bg1 := Bg1.grown hw Ng1_g0; replace Bg2 := Bg2.grown hw Ng2_g0; replace RB_qA := RB_qA.grown hw NRB_qA_g0; replace HS := HS.grown hw GEg0; replace Bg0 := hn; clear hw; clear kg0_2 kg1_5; have kg1_0 := Bg1.at 0 rfl; clear hn) | (refine seg_store rfl rfl 24 (.tmp 63) (.tmp 62) rfl g0 3 [.int .u64 g_0] [.int .i64 p0, .slice qA l1.length qk, .int .u64 g_5, .int .u64 g_0, .int .u64 p4, .int .u64 p5, .int .u64 (uAdd p6 1), .int .u64 p7, .int .u64 p8, .int .u64 (uHeld (uAdd p9 (p9 / 8)))] (.int .u64 g_0) rfl rfl rfl Bg0 (by kernel_rfl) (nle rfl) rfl rfl ?_; intro w16 hn hw; replace Bg1 := Bg1.grown hw Ng1_g0; replace Bg2 := Bg2.grown hw Ng2_g0; replace RB_qA := RB_qA.grown hw NRB_qA_g0; replace HS := HS.grown hw GEg0; replace Bg0 := hn; clear hw; clear kg1_0; clear hn) | (refine seg_load rfl (N := 64) rfl 26 (.tmp 2) rfl g0 0 [.int .i64 p0, .slice qA l1.length qk, .int .u64 g_5, .int .u64 g_0, .int .u64 p4, .int .u64 p5, .int .u64 (uAdd p6 1), .int .u64 p7, .int .u64 p8, .int .u64 (uHeld (uAdd p9 (p9 / 8)))] rfl Bg0 rfl Try.underlying26 rfl (by kernel_rfl) ?_) | (refine seg_load rfl (N := 65) rfl 28 (.tmp 3) rfl g1 0 [.int .u64 g_0, .int .u64 g_1, .int .u64 g_2, .int .u64 g_3, .int .u64 g_4, .int .u64 g_5, .int .u64 g_6, .int .u64 g_7, .bool true, .bool true] rfl Bg1 rfl Try.underlying28 rfl (by kernel_rfl) ?_) | ((go_at_call 34); (with_reducible refine (moveC p0 g_5 g_0 p4 p5 (uAdd p6 1) p7 p8 (uHeld (uAdd p9 (p9 / 8))) g_0 g_1 g_2 g_3 g_4 g_5 g_6 g_7 true true false qA qk l1 hw1 Wg_5 Wg_0 Wp4 Wp5 (uAdd_w Wp6 (by decide)) Wp7 Wp8 (uHeld_w _) _ RB_qA.out hk_qA).mono ?_); rintro e w17 ⟨rfl, hl⟩; replace Bg0 := Bg0.below hl; replace Bg1 := Bg1.below hl; replace Bg2 := Bg2.below hl; replace RB_qA := RB_qA.below hl; replace HS := HS.below hl; clear hl) | (refine seg_store rfl rfl 26 (.tmp 4) (.tmp 67) rfl g2 0 [.int .i64 ((pMove p0 l1 g_5 g_0 p4 p5 (uAdd p6 1) p7 p8 (uHeld (uAdd p9 (p9 / 8))) g_0 g_6 true true false).1), .slice qA l1.length qk, .int .u64 g_5, .int .u64 g_0, .int .u64 ((pMove p0 l1 g_5 g_0 p4 p5 (uAdd p6 1) p7 p8 (uHeld (uAdd p9 (p9 / 8))) g_0 g_6 true true false).2.2.2.2.1), .int .u64 ((pMove p0 l1 g_5 g_0 p4 p5 (uAdd p6 1) p7 p8 (uHeld (uAdd p9 (p9 / 8))) g_0 g_6 true true false).2.2.2.2.2.1), .int .u64 (uAdd p6 1), .int .u64 ((pMove p0 l1 g_5 g_0 p4 p5 (uAdd p6 1) p7 p8 (uHeld (uAdd p9 (p9 / 8))) g_0 g_6 true true false).2.2.2.2.2.2.2.1), .int .u64 ((pMove p0 l1 g_5 g_0 p4 p5 (uAdd p6 1) p7 p8 (uHeld (uAdd p9 (p9 / 8))) g_0 g_6 true true false).2.2.2.2.2.2.2.2.1), .int .u64 (uHeld (uAdd p9 (p9 / 8)))] [.int .i64 ((pMove p0 l1 g_5 g_0 p4 p5 (uAdd p6 1) p7 p8 (uHeld (uAdd p9 (p9 / 8))) g_0 g_6 true true false).1), .slice qA l1.length qk, .int .u64 g_5, .int .u64 g_0, .int .u64 ((pMove p0 l1 g_5 g_0 p4 p5 (uAdd p6 1) p7 p8 (uHeld (uAdd p9 (p9 / 8))) g_0 g_6 true true false).2.2.2.2.1), .int .u64 ((pMove p0 l1 g_5 g_0 p4 p5 (uAdd p6 1) p7 p8 (uHeld (uAdd p9 (p9 / 8))) g_0 g_6 true true false).2.2.2.2.2.1), .int .u64 (uAdd p6 1), .int .u64 ((pMove p0 l1 g_5 g_0 p4 p5 (uAdd p6 1) p7 p8 (uHeld (uAdd p9 (p9 / 8))) g_0 g_6 true true false).2.2.2.2.2.2.2.1), .int .u64 ((pMove p0 l1 g_5 g_0 p4 p5 (uAdd p6 1) p7 p8 (uHeld (uAdd p9 (p9 / 8))) g_0 g_6 true true false).2.2.2.2.2.2.2.2.1), .int .u64 (uHeld (uAdd p9 (p9 / 8)))] (.agg #[.int .i64 ((pMove p0 l1 g_5 g_0 p4 p5 (uAdd p6 1) p7 p8 (uHeld (uAdd p9 (p9 / 8))) g_0 g_6 true true false).1), .slice qA l1.length qk, .int .u64 g_5, .int .u64 g_0, .int .u64 ((pMove p0 l1 g_5 g_0 p4 p5 (uAdd p6 1) p7 p8 (uHeld (uAdd p9 (p9 / 8))) g_0 g_6 true true false).2.2.2.2.1), .int .u64 ((pMove p0 l1 g_5 g_0 p4 p5 (uAdd p6 1) p7 p8 (uHeld (uAdd p9 (p9 / 8))) g_0 g_6 true true false).2.2.2.2.2.1), .int .u64 (uAdd p6 1), .int .u64 ((pMove p0 l1 g_5 g_0 p4 p5 (uAdd p6 1) p7 p8 (uHeld (uAdd p9 (p9 / 8))) g_0 g_6 true true false).2.2.2.2.2.2.2.1), .int .u64 ((pMove p0 l1 g_5 g_0 p4 p5 (uAdd p6 1) p7 p8 (uHeld (uAdd p9 (p9 / 8))) g_0 g_6 true true false).2.2.2.2.2.2.2.2.1), .int .u64 (uHeld (uAdd p9 (p9 / 8)))]) rfl rfl rfl Bg2 (by kernel_rfl) (nle rfl) rfl rfl ?_; intro w18 hn hw; replace Bg0 := Bg0.grown hw Ng2_g0.symm; replace Bg1 := Bg1.grown hw Ng2_g1.symm; replace RB_qA := RB_qA.grown hw NRB_qA_g2; replace HS := HS.grown hw GEg2; replace Bg2 := hn; clear hw; clear hn))
 all_goals exact bodyPost_ret (results_cell1 rfl _ _ g2 26 [.int .i64 ((pMove p0 l1 g_5 g_0 p4 p5 (uAdd p6 1) p7 p8 (uHeld (uAdd p9 (p9 / 8))) g_0 g_6 true true false).1), .slice qA l1.length qk, .int .u64 g_5, .int .u64 g_0, .int .u64 ((pMove p0 l1 g_5 g_0 p4 p5 (uAdd p6 1) p7 p8 (uHeld (uAdd p9 (p9 / 8))) g_0 g_6 true true false).2.2.2.2.1), .int .u64 ((pMove p0 l1 g_5 g_0 p4 p5 (uAdd p6 1) p7 p8 (uHeld (uAdd p9 (p9 / 8))) g_0 g_6 true true false).2.2.2.2.2.1), .int .u64 (uAdd p6 1), .int .u64 ((pMove p0 l1 g_5 g_0 p4 p5 (uAdd p6 1) p7 p8 (uHeld (uAdd p9 (p9 / 8))) g_0 g_6 true true false).2.2.2.2.2.2.2.1), .int .u64 ((pMove p0 l1 g_5 g_0 p4 p5 (uAdd p6 1) p7 p8 (uHeld (uAdd p9 (p9 / 8))) g_0 g_6 true true false).2.2.2.2.2.2.2.2.1), .int .u64 (uHeld (uAdd p9 (p9 / 8)))] _ rfl Bg2 Try.underlying26 rfl (by kernel_rfl)) rfl ⟨qA, qk, rfl, hk_qA, RB_qA, HS.out⟩
theorem rack_5 (p0 p2 p3 p4 p5 p6 p7 p8 p9 g_0 g_1 g_2 g_3 g_4 g_5 g_6 g_7 : Int) (A1 : Option Addr) (k1 : Nat) (Wp2 : W64 p2) (Wp3 : W64 p3) (Wp4 : W64 p4) (Wp5 : W64 p5) (Wp6 : W64 p6) (Wp7 : W64 p7) (Wp8 : W64 p8) (Wp9 : W64 p9) (Wg_0 : W64 g_0) (Wg_1 : W64 g_1) (Wg_2 : W64 g_2) (Wg_3 : W64 g_3) (Wg_4 : W64 g_4) (Wg_5 : W64 g_5) (Wg_6 : W64 g_6) (Wg_7 : W64 g_7) (w : World) (l1 : List S52) (hr1 : Kd.C k52 w A1 l1.length l1) (hk1 : l1.length ≤ k1) (hw1 : SWf l1) (hL1 : l1.length < 1000000) (h0 : (decide (uBest l1 ≤ g_7)) = false) (h1 : (decide (uAdd p3 10000 ≤ g_0)) = false) (h2 : (decide (g_5 < p2)) = false) :
  Calls Try.prog 12 #[.agg #[.int .i64 p0, .slice A1 l1.length k1, .int .u64 p2, .int .u64 p3, .int .u64 p4, .int .u64 p5, .int .u64 p6, .int .u64 p7, .int .u64 p8, .int .u64 p9], .agg #[.int .u64 g_0, .int .u64 g_1, .int .u64 g_2, .int .u64 g_3, .int .u64 g_4, .int .u64 g_5, .int .u64 g_6, .int .u64 g_7, .bool true, .bool true]] w fun e w' => ∃ (qA : Option Addr) (qk : Nat), e = .returned (.agg #[.int .i64 ((pMove p0 l1 p2 p3 p4 p5 (uAdd p6 1) p7 p8 (uHeld (uAdd p9 (p9 / 8))) g_0 g_6 true true false).1), .slice qA l1.length qk, .int .u64 p2, .int .u64 p3, .int .u64 ((pMove p0 l1 p2 p3 p4 p5 (uAdd p6 1) p7 p8 (uHeld (uAdd p9 (p9 / 8))) g_0 g_6 true true false).2.2.2.2.1), .int .u64 ((pMove p0 l1 p2 p3 p4 p5 (uAdd p6 1) p7 p8 (uHeld (uAdd p9 (p9 / 8))) g_0 g_6 true true false).2.2.2.2.2.1), .int .u64 (uAdd p6 1), .int .u64 ((pMove p0 l1 p2 p3 p4 p5 (uAdd p6 1) p7 p8 (uHeld (uAdd p9 (p9 / 8))) g_0 g_6 true true false).2.2.2.2.2.2.2.1), .int .u64 ((pMove p0 l1 p2 p3 p4 p5 (uAdd p6 1) p7 p8 (uHeld (uAdd p9 (p9 / 8))) g_0 g_6 true true false).2.2.2.2.2.2.2.2.1), .int .u64 (uHeld (uAdd p9 (p9 / 8)))]) ∧ l1.length ≤ qk ∧ RB w' qA l1 ∧ Below w.heap.size w w' := by
 have hu26 := Try.underlying26
 have hu28 := Try.underlying28
 have q0 : IntKind.u64.wrap (Int.tdiv p9 8) = p9 / 8 := wdiv Wp9 8 (by decide)
 have HS := Since.refl w
 go_enter Try.func12, Try.ntmps12
 go_wp2_with (first | (refine seg_new rfl (N := 2) rfl [.int .i64 p0, .slice A1 l1.length k1, .int .u64 p2, .int .u64 p3, .int .u64 p4, .int .u64 p5, .int .u64 p6, .int .u64 p7, .int .u64 p8, .int .u64 p9] 26 ?hr ?_; (case hr => rfl); intro g0 hg w1 hn hl; have GEg0 := ge_new HS hg; clear hg; replace HS := HS.below hl; have Bg0 := hn; clear hl hn) | (refine seg_new rfl (N := 3) rfl [.int .u64 g_0, .int .u64 g_1, .int .u64 g_2, .int .u64 g_3, .int .u64 g_4, .int .u64 g_5, .int .u64 g_6, .int .u64 g_7, .bool true, .bool true] 28 ?hr ?_; (case hr => rfl); intro g1 hg w2 hn hl; have Ng1_g0 := ne_new Bg0 hg; have GEg1 := ge_new HS hg; clear hg; replace Bg0 := Bg0.below hl; replace HS := HS.below hl; have Bg1 := hn; clear hl hn) | (refine seg_new rfl (N := 4) rfl [.int .i64 0, .slice none 0 0, .int .u64 0, .int .u64 0, .int .u64 0, .int .u64 0, .int .u64 0, .int .u64 0, .int .u64 0, .int .u64 0] 26 ?hr ?_; (case hr => rfl); intro g2 hg w3 hn hl; have Ng2_g0 := ne_new Bg0 hg; have Ng2_g1 := ne_new Bg1 hg; have GEg2 := ge_new HS hg; clear hg; replace Bg0 := Bg0.below hl; replace Bg1 := Bg1.below hl; replace HS := HS.below hl; have Bg2 := hn; clear hl hn; have kg0_6 := Bg0.at 6 rfl; have kg1_9 := Bg1.at 9 rfl) | ((go_at_call 30); (with_reducible refine (wigwagref01_AddT.C p6 1 Wp6 (by decide) _).mono ?_); rintro e w4 ⟨rfl, hd⟩; have hl := hd.below; clear hd; replace Bg0 := Bg0.below hl; replace Bg1 := Bg1.below hl; replace Bg2 := Bg2.below hl; replace HS := HS.below hl; clear hl; clear kg0_6 kg1_9) | (refine seg_store rfl rfl 24 (.tmp 11) (.tmp 10) rfl g0 6 [.int .u64 (uAdd p6 1)] [.int .i64 p0, .slice A1 l1.length k1, .int .u64 p2, .int .u64 p3, .int .u64 p4, .int .u64 p5, .int .u64 (uAdd p6 1), .int .u64 p7, .int .u64 p8, .int .u64 p9] (.int .u64 (uAdd p6 1)) rfl rfl rfl Bg0 (by kernel_rfl) (nle rfl) rfl rfl ?_; intro w5 hn hw; replace Bg1 := Bg1.grown hw Ng1_g0; replace Bg2 := Bg2.grown hw Ng2_g0; replace HS := HS.grown hw GEg0; replace Bg0 := hn; clear hw; have kg0_9 := Bg0.at 9 rfl; clear hn) | ((go_at_call 30); (with_reducible refine (wigwagref01_AddT.C p9 (p9 / 8) Wp9 (div_w Wp9 8 (by decide)) _).mono ?_); rintro e w6 ⟨rfl, hd⟩; have hl := hd.below; clear hd; replace Bg0 := Bg0.below hl; replace Bg1 := Bg1.below hl; replace Bg2 := Bg2.below hl; replace HS := HS.below hl; clear hl; clear kg0_9) | ((go_at_call 31); (with_reducible refine (wigwagref10_HeldT.C (uAdd p9 (p9 / 8)) _).mono ?_); rintro e w7 ⟨rfl, hd⟩; have hl := hd.below; clear hd; replace Bg0 := Bg0.below hl; replace Bg1 := Bg1.below hl; replace Bg2 := Bg2.below hl; replace HS := HS.below hl; clear hl) | (refine seg_store rfl rfl 24 (.tmp 19) (.tmp 18) rfl g0 9 [.int .u64 (uHeld (uAdd p9 (p9 / 8)))] [.int .i64 p0, .slice A1 l1.length k1, .int .u64 p2, .int .u64 p3, .int .u64 p4, .int .u64 p5, .int .u64 (uAdd p6 1), .int .u64 p7, .int .u64 p8, .int .u64 (uHeld (uAdd p9 (p9 / 8)))] (.int .u64 (uHeld (uAdd p9 (p9 / 8)))) rfl rfl rfl Bg0 (by kernel_rfl) (nle rfl) rfl rfl ?_; intro w8 hn hw; replace Bg1 := Bg1.grown hw Ng1_g0; replace Bg2 := Bg2.grown hw Ng2_g0; replace HS := HS.grown hw GEg0; replace Bg0 := hn; clear hw; have kg1_7 := Bg1.at 7 rfl; have kg1_8 := Bg1.at 8 rfl; clear hn))
 refine start_ (n := 10) (S := fun w' => w'.cell? ⟨g1, 8, none⟩ = some (.bool true) ∧ w'.cell? ⟨g1, 7, none⟩ = some (.int .u64 g_7) ∧ Blk w' g0 26 [.int .i64 p0, .slice A1 l1.length k1, .int .u64 p2, .int .u64 p3, .int .u64 p4, .int .u64 p5, .int .u64 (uAdd p6 1), .int .u64 p7, .int .u64 p8, .int .u64 (uHeld (uAdd p9 (p9 / 8)))]) (ds := []) (bs 10 0) (by kernel_rfl) rfl rfl ⟨((Bg1.drew.cell 8).trans rfl), ((Bg1.drew.cell 7).trans rfl), Bg0.drew⟩ (fun hHeld => ?_)
 generalize hWd : World.drew w8 = w9 at hHeld ⊢
 have hl : Below w8.heap.size w8 w9 := (by rw [← hWd]; exact below_drew1 (Below.refl _ _))
 clear hWd
 replace Bg0 := Bg0.below hl; replace Bg1 := Bg1.below hl; replace Bg2 := Bg2.below hl; replace HS := HS.below hl; clear hl; replace kg1_7 := Bg1.at 7 rfl; replace kg1_8 := Bg1.at 8 rfl
 refine pu 0 20 (.pointer (some ⟨g1, 8, none⟩)) 1 rfl rfl (by kernel_rfl) (fun _ _ _ h => h) (by rfl) (fun _ => by kernel_rfl) rfl ?_
 refine norm_ (a' := ?_) ?_ ?_
 rotate_left
 ·simp only [Act.put, zA_, z0_, z1_, i64_w, i32_w]
  rfl
 refine take_ (i := 1) (N := some 21) (v := ?_) (a' := ?_) (bs 10 3) rfl rfl (by kernel_rfl) (fun _ _ _ h => h) (Or.inl ⟨by rfl, ?_⟩) hHeld ?_ ?_
 rotate_left
 ·rintro w' ⟨s0, s1, s2⟩
  go_simp
  with_reducible rfl
 rotate_left
 ·simp only [Act.put, zA_, z0_, z1_, i64_w, i32_w]
  rfl
 refine pure_ (i := 2) (N := some 22) (v := ?_) (a' := ?_) (bs 10 7) rfl rfl (by kernel_rfl) (fun _ _ _ h => h) (Or.inl ⟨by rfl, ?_⟩) ?_ ?_
 rotate_left
 ·intro w'
  go_simp
  with_reducible rfl
 rotate_left
 ·simp only [Act.put, zA_, z0_, z1_, i64_w, i32_w]
  rfl
 refine pure_ (i := 3) (N := some 23) (v := ?_) (a' := ?_) (bs 10 15) rfl rfl (by kernel_rfl) (fun _ _ _ h => h) (Or.inl ⟨by rfl, ?_⟩) ?_ ?_
 rotate_left
 ·intro w'
  go_simp
  with_reducible rfl
 rotate_left
 ·simp only [Act.put, zA_, z0_, z1_, i64_w, i32_w]
  rfl
 refine pu 4 24 (.pointer (some ⟨g1, 7, none⟩)) 31 rfl rfl (by kernel_rfl) (fun _ _ _ h => h) (by rfl) (fun _ => by kernel_rfl) rfl ?_
 refine norm_ (a' := ?_) ?_ ?_
 rotate_left
 ·simp only [Act.put, zA_, z0_, z1_, i64_w, i32_w]
  rfl
 refine take_ (i := 5) (N := some 25) (v := ?_) (a' := ?_) (bs 10 63) rfl rfl (by kernel_rfl) (fun _ _ _ h => h) (Or.inl ⟨by rfl, ?_⟩) hHeld ?_ ?_
 rotate_left
 ·rintro w' ⟨s0, s1, s2⟩
  go_simp
  with_reducible rfl
 rotate_left
 ·simp only [Act.put, zA_, z0_, z1_, i64_w, i32_w]
  rfl
 refine take_ (i := 6) (N := some 26) (v := .agg #[.int .i64 p0, .slice A1 l1.length k1, .int .u64 p2, .int .u64 p3, .int .u64 p4, .int .u64 p5, .int .u64 (uAdd p6 1), .int .u64 p7, .int .u64 p8, .int .u64 (uHeld (uAdd p9 (p9 / 8)))]) (a' := ?_) (bs 10 127) rfl rfl (by kernel_rfl) (fun _ _ _ h => h) (Or.inl ⟨by rfl, ?_⟩) hHeld ?_ ?_
 ·rintro w' ⟨s0, s1, s2⟩
  exact exec_seg_load 26 (.tmp 2) (by rfl) g0 0 [.int .i64 p0, .slice A1 l1.length k1, .int .u64 p2, .int .u64 p3, .int .u64 p4, .int .u64 p5, .int .u64 (uAdd p6 1), .int .u64 p7, .int .u64 p8, .int .u64 (uHeld (uAdd p9 (p9 / 8)))] (by rfl) s2 (by rfl) Try.underlying26 (by rfl) (by kernel_rfl)
 rotate_left
 ·simp only [Act.put, zA_, z0_, z1_, i64_w, i32_w]
  rfl
 refine one_ (i := 7) (N := some 27) (bs 10 255) rfl rfl (by kernel_rfl) (by decide) (fun K hK => ?_)
 refine goes_ Try.func32 (by kernel_rfl) rfl #[.agg #[.int .i64 p0, .slice A1 l1.length k1, .int .u64 p2, .int .u64 p3, .int .u64 p4, .int .u64 p5, .int .u64 (uAdd p6 1), .int .u64 p7, .int .u64 p8, .int .u64 (uHeld (uAdd p9 (p9 / 8)))]] (by rfl) rfl rfl (by simp only [List.map_toArray, List.map_cons, List.map_nil]; rfl) ?_
 with_reducible refine (rbestC p0 p2 p3 p4 p5 (uAdd p6 1) p7 p8 (uHeld (uAdd p9 (p9 / 8))) A1 k1 l1 _ (Kd.C_below hr1 HS.out) hk1).mono ?_
 rintro e w10 ⟨rfl, hl⟩
 refine ⟨_, rfl, ?_⟩
 replace Bg0 := Bg0.below hl; replace Bg1 := Bg1.below hl; replace Bg2 := Bg2.below hl; replace HS := HS.below hl; clear hl; replace kg1_7 := Bg1.at 7 rfl; replace kg1_8 := Bg1.at 8 rfl
 refine hK.out _ _ ⟨((Bg1.cell 8).trans rfl), ((Bg1.cell 7).trans rfl), Bg0⟩ (fun hHeld => ?_)
 clear hK K
 refine norm_ (a' := ?_) ?_ ?_
 rotate_left
 ·show Act.put _ (some 27) _ = _
  simp only [Act.put, zA_, z0_, z1_, i64_w, i32_w]
  rfl
 refine pure_ (i := 8) (N := some 28) (v := ?_) (a' := ?_) (bs 10 511) rfl rfl (by kernel_rfl) (fun _ _ _ h => h) (Or.inl ⟨by rfl, ?_⟩) ?_ ?_
 rotate_left
 ·intro w'
  go_simp
  with_reducible rfl
 rotate_left
 ·simp only [Act.put, zA_, z0_, z1_, i64_w, i32_w]
  rfl
 refine pure_ (i := 9) (N := some 29) (v := ?_) (a' := ?_) (bs 10 1023) rfl rfl (by kernel_rfl) (fun _ _ _ h => h) (Or.inl ⟨by rfl, ?_⟩) ?_ ?_
 rotate_left
 ·intro w'
  go_simp
  with_reducible rfl
 rotate_left
 ·simp only [Act.put, zA_, z0_, z1_, i64_w, i32_w]
  rfl
 refine done_ (by kernel_rfl) ?_
 clear kg1_7 kg1_8
 go_wp2_with (first | (refine Kd.R_lit k52 _ 52 ?hg (N := 39) ?hd (xs := ([] : List S52)) (inner := []) (ok := fun _ => True) (okp := fun _ => True) ?hr ?hp (fun _ hk => hk) trivial (Below.refl _ _) (Nat.le_refl _) (by simp) ?_; (case hd => rfl); (case hg => rfl); (case hr => first | (go_simp; done) | (go_simp; rfl)); (case hp => exact (Reps.none _ _)); intro vb w11 hRb hl hg_ hnew_; clear hg_ hnew_; have Og0 := Bg0; have Og1 := Bg1; have Og2 := Bg2; have OHS := HS; have hlb := hl; replace Bg0 := Bg0.below hl; replace Bg1 := Bg1.below hl; replace Bg2 := Bg2.below hl; replace HS := HS.below hl; clear hl; have kg0_1 := Bg0.at 1 rfl) | ((with_reducible refine gate_builtin (b := .append) (xs := #[.tmp 39, .tmp 41]) rfl ?_); at_builtin; refine Kd.R_append_rows k52 (w0 := w10) w10.heap.size rfl (.tmp 39) (.tmp 41) 23 52 (.agg #[(.int .u64 0), (.int .u64 0)]) 16 rfl Try.underlying23 info52 rfl (by decide) (by omega) vb [] l1 _ _ _ (fun _ => True) (fun _ => False) rfl rfl hRb (Kd.C_below hr1 HS.out) (fun _ _ h => h) (fun _ h => h.elim) (fun _ _ => trivial) hlb hlb.size (by simp only [List.length_nil]; omega) ?_; intro vq w12 ho hb hg_ hat_; clear hg_ hat_ hRb; simp only [List.nil_append] at ho; obtain ⟨qA, qk, rfl⟩ := Kd.R_slice ho; obtain ⟨_, hk_qA, hqC⟩ := Kd.R_reads' ho; have RB_qA : RB w12 qA l1 := ⟨hqC⟩; have hF_qA : FR w10 A1 l1 qA l1 := .inr (fun ad e hp => by obtain ⟨inner, hown⟩ := Kd.R_own ho; exact own_base hown _ (by rw [e]; rfl)); clear ho; have NRB_qA_g0 := hF_qA.ne (NE_old ⟨hr1⟩ GEg0) Og0; have NRB_qA_g1 := hF_qA.ne (NE_old ⟨hr1⟩ GEg1) Og1; have NRB_qA_g2 := hF_qA.ne (NE_old ⟨hr1⟩ GEg2) Og2; replace Bg0 := Og0.below hb; replace Bg1 := Og1.below hb; replace Bg2 := Og2.below hb; replace hF_qA := hF_qA.mono OHS.le; replace HS := OHS.below hb; clear hb hlb OHS Og0 Og1 Og2; clear kg0_1) | (refine seg_store rfl rfl 23 (.tmp 43) (.tmp 42) rfl g0 1 [.slice qA l1.length qk] [.int .i64 p0, .slice qA l1.length qk, .int .u64 p2, .int .u64 p3, .int .u64 p4, .int .u64 p5, .int .u64 (uAdd p6 1), .int .u64 p7, .int .u64 p8, .int .u64 (uHeld (uAdd p9 (p9 / 8)))] (.slice qA l1.length qk) rfl rfl rfl Bg0 (by kernel_rfl) (nle rfl) rfl rfl ?_; intro w13 hn hw; replace Bg1 := Bg1.grown hw Ng1_g0; replace Bg2 := Bg2.grown hw Ng2_g0; replace RB_qA := RB_qA.grown hw NRB_qA_g0; replace HS := HS.grown hw GEg0; replace Bg0 := hn; clear hw; have kg0_3 := Bg0.at 3 rfl; have kg1_0 := Bg1.at 0 rfl; clear hn))
 all_goals go_quiet (first | (go_at_call 30; with_reducible exact wigwagref01_AddT.Q p3 10000 Wp3 (by decide) _ _))
 all_goals (generalize hW : World.drewN w13 _ = w14; have hl : Below w13.heap.size w13 w14 := (by rw [← hW]; exact pw_below_drewN (Below.refl _ _) _); clear hW; replace Bg0 := Bg0.below hl; replace Bg1 := Bg1.below hl; replace Bg2 := Bg2.below hl; replace RB_qA := RB_qA.below hl; replace HS := HS.below hl; clear hl; clear kg0_3 kg1_0; have kg0_2 := Bg0.at 2 rfl; have kg1_5 := Bg1.at 5 rfl)
 go_wp2_with (first | (refine seg_load rfl (N := 64) rfl 26 (.tmp 2) rfl g0 0 [.int .i64 p0, .slice qA l1.length qk, .int .u64 p2, .int .u64 p3, .int .u64 p4, .int .u64 p5, .int .u64 (uAdd p6 1), .int .u64 p7, .int .u64 p8, .int .u64 (uHeld (uAdd p9 (p9 / 8)))] rfl Bg0 rfl Try.underlying26 rfl (by kernel_rfl) ?_) | (refine seg_load rfl (N := 65) rfl 28 (.tmp 3) rfl g1 0 [.int .u64 g_0, .int .u64 g_1, .int .u64 g_2, .int .u64 g_3, .int .u64 g_4, .int .u64 g_5, .int .u64 g_6, .int .u64 g_7, .bool true, .bool true] rfl Bg1 rfl Try.underlying28 rfl (by kernel_rfl) ?_) | ((go_at_call 34); (with_reducible refine (moveC p0 p2 p3 p4 p5 (uAdd p6 1) p7 p8 (uHeld (uAdd p9 (p9 / 8))) g_0 g_1 g_2 g_3 g_4 g_5 g_6 g_7 true true false qA qk l1 hw1 Wp2 Wp3 Wp4 Wp5 (uAdd_w Wp6 (by decide)) Wp7 Wp8 (uHeld_w _) _ RB_qA.out hk_qA).mono ?_); rintro e w15 ⟨rfl, hl⟩; replace Bg0 := Bg0.below hl; replace Bg1 := Bg1.below hl; replace Bg2 := Bg2.below hl; replace RB_qA := RB_qA.below hl; replace HS := HS.below hl; clear hl; clear kg0_2 kg1_5) | (refine seg_store rfl rfl 26 (.tmp 4) (.tmp 67) rfl g2 0 [.int .i64 ((pMove p0 l1 p2 p3 p4 p5 (uAdd p6 1) p7 p8 (uHeld (uAdd p9 (p9 / 8))) g_0 g_6 true true false).1), .slice qA l1.length qk, .int .u64 p2, .int .u64 p3, .int .u64 ((pMove p0 l1 p2 p3 p4 p5 (uAdd p6 1) p7 p8 (uHeld (uAdd p9 (p9 / 8))) g_0 g_6 true true false).2.2.2.2.1), .int .u64 ((pMove p0 l1 p2 p3 p4 p5 (uAdd p6 1) p7 p8 (uHeld (uAdd p9 (p9 / 8))) g_0 g_6 true true false).2.2.2.2.2.1), .int .u64 (uAdd p6 1), .int .u64 ((pMove p0 l1 p2 p3 p4 p5 (uAdd p6 1) p7 p8 (uHeld (uAdd p9 (p9 / 8))) g_0 g_6 true true false).2.2.2.2.2.2.2.1), .int .u64 ((pMove p0 l1 p2 p3 p4 p5 (uAdd p6 1) p7 p8 (uHeld (uAdd p9 (p9 / 8))) g_0 g_6 true true false).2.2.2.2.2.2.2.2.1), .int .u64 (uHeld (uAdd p9 (p9 / 8)))] [.int .i64 ((pMove p0 l1 p2 p3 p4 p5 (uAdd p6 1) p7 p8 (uHeld (uAdd p9 (p9 / 8))) g_0 g_6 true true false).1), .slice qA l1.length qk, .int .u64 p2, .int .u64 p3, .int .u64 ((pMove p0 l1 p2 p3 p4 p5 (uAdd p6 1) p7 p8 (uHeld (uAdd p9 (p9 / 8))) g_0 g_6 true true false).2.2.2.2.1), .int .u64 ((pMove p0 l1 p2 p3 p4 p5 (uAdd p6 1) p7 p8 (uHeld (uAdd p9 (p9 / 8))) g_0 g_6 true true false).2.2.2.2.2.1), .int .u64 (uAdd p6 1), .int .u64 ((pMove p0 l1 p2 p3 p4 p5 (uAdd p6 1) p7 p8 (uHeld (uAdd p9 (p9 / 8))) g_0 g_6 true true false).2.2.2.2.2.2.2.1), .int .u64 ((pMove p0 l1 p2 p3 p4 p5 (uAdd p6 1) p7 p8 (uHeld (uAdd p9 (p9 / 8))) g_0 g_6 true true false).2.2.2.2.2.2.2.2.1), .int .u64 (uHeld (uAdd p9 (p9 / 8)))] (.agg #[.int .i64 ((pMove p0 l1 p2 p3 p4 p5 (uAdd p6 1) p7 p8 (uHeld (uAdd p9 (p9 / 8))) g_0 g_6 true true false).1), .slice qA l1.length qk, .int .u64 p2, .int .u64 p3, .int .u64 ((pMove p0 l1 p2 p3 p4 p5 (uAdd p6 1) p7 p8 (uHeld (uAdd p9 (p9 / 8))) g_0 g_6 true true false).2.2.2.2.1), .int .u64 ((pMove p0 l1 p2 p3 p4 p5 (uAdd p6 1) p7 p8 (uHeld (uAdd p9 (p9 / 8))) g_0 g_6 true true false).2.2.2.2.2.1), .int .u64 (uAdd p6 1), .int .u64 ((pMove p0 l1 p2 p3 p4 p5 (uAdd p6 1) p7 p8 (uHeld (uAdd p9 (p9 / 8))) g_0 g_6 true true false).2.2.2.2.2.2.2.1), .int .u64 ((pMove p0 l1 p2 p3 p4 p5 (uAdd p6 1) p7 p8 (uHeld (uAdd p9 (p9 / 8))) g_0 g_6 true true false).2.2.2.2.2.2.2.2.1), .int .u64 (uHeld (uAdd p9 (p9 / 8)))]) rfl rfl rfl Bg2 (by kernel_rfl) (nle rfl) rfl rfl ?_; intro w16 hn hw; replace Bg0 := Bg0.grown hw Ng2_g0.symm; replace Bg1 := Bg1.grown hw Ng2_g1.symm; replace RB_qA := RB_qA.grown hw NRB_qA_g2; replace HS := HS.grown hw GEg2; replace Bg2 := hn; clear hw; clear hn))
 all_goals exact bodyPost_ret (results_cell1 rfl _ _ g2 26 [.int .i64 ((pMove p0 l1 p2 p3 p4 p5 (uAdd p6 1) p7 p8 (uHeld (uAdd p9 (p9 / 8))) g_0 g_6 true true false).1), .slice qA l1.length qk, .int .u64 p2, .int .u64 p3, .int .u64 ((pMove p0 l1 p2 p3 p4 p5 (uAdd p6 1) p7 p8 (uHeld (uAdd p9 (p9 / 8))) g_0 g_6 true true false).2.2.2.2.1), .int .u64 ((pMove p0 l1 p2 p3 p4 p5 (uAdd p6 1) p7 p8 (uHeld (uAdd p9 (p9 / 8))) g_0 g_6 true true false).2.2.2.2.2.1), .int .u64 (uAdd p6 1), .int .u64 ((pMove p0 l1 p2 p3 p4 p5 (uAdd p6 1) p7 p8 (uHeld (uAdd p9 (p9 / 8))) g_0 g_6 true true false).2.2.2.2.2.2.2.1), .int .u64 ((pMove p0 l1 p2 p3 p4 p5 (uAdd p6 1) p7 p8 (uHeld (uAdd p9 (p9 / 8))) g_0 g_6 true true false).2.2.2.2.2.2.2.2.1), .int .u64 (uHeld (uAdd p9 (p9 / 8)))] _ rfl Bg2 Try.underlying26 rfl (by kernel_rfl)) rfl ⟨qA, qk, rfl, hk_qA, RB_qA, HS.out⟩
theorem rack_6 (p0 p2 p3 p4 p5 p6 p7 p8 p9 g_0 g_1 g_2 g_3 g_4 g_5 g_6 g_7 : Int) (A1 : Option Addr) (k1 : Nat) (Wp2 : W64 p2) (Wp3 : W64 p3) (Wp4 : W64 p4) (Wp5 : W64 p5) (Wp6 : W64 p6) (Wp7 : W64 p7) (Wp8 : W64 p8) (Wp9 : W64 p9) (Wg_0 : W64 g_0) (Wg_1 : W64 g_1) (Wg_2 : W64 g_2) (Wg_3 : W64 g_3) (Wg_4 : W64 g_4) (Wg_5 : W64 g_5) (Wg_6 : W64 g_6) (Wg_7 : W64 g_7) (w : World) (l1 : List S52) (hr1 : Kd.C k52 w A1 l1.length l1) (hk1 : l1.length ≤ k1) (hw1 : SWf l1) (hL1 : l1.length < 1000000) (h0 : (decide (uAdd p3 10000 ≤ g_0)) = true) :
  Calls Try.prog 12 #[.agg #[.int .i64 p0, .slice A1 l1.length k1, .int .u64 p2, .int .u64 p3, .int .u64 p4, .int .u64 p5, .int .u64 p6, .int .u64 p7, .int .u64 p8, .int .u64 p9], .agg #[.int .u64 g_0, .int .u64 g_1, .int .u64 g_2, .int .u64 g_3, .int .u64 g_4, .int .u64 g_5, .int .u64 g_6, .int .u64 g_7, .bool false, .bool true]] w fun e w' => ∃ (qA : Option Addr) (qk : Nat), e = .returned (.agg #[.int .i64 ((pMove p0 (uPush l1 10 (uAdd p6 1) g_7) g_5 g_0 p4 p5 (uAdd p6 1) p7 p8 (uHeld (uAdd p9 (p9 / 8))) g_0 g_6 false true true).1), .slice qA (uPush l1 10 (uAdd p6 1) g_7).length qk, .int .u64 g_5, .int .u64 g_0, .int .u64 ((pMove p0 (uPush l1 10 (uAdd p6 1) g_7) g_5 g_0 p4 p5 (uAdd p6 1) p7 p8 (uHeld (uAdd p9 (p9 / 8))) g_0 g_6 false true true).2.2.2.2.1), .int .u64 ((pMove p0 (uPush l1 10 (uAdd p6 1) g_7) g_5 g_0 p4 p5 (uAdd p6 1) p7 p8 (uHeld (uAdd p9 (p9 / 8))) g_0 g_6 false true true).2.2.2.2.2.1), .int .u64 (uAdd p6 1), .int .u64 ((pMove p0 (uPush l1 10 (uAdd p6 1) g_7) g_5 g_0 p4 p5 (uAdd p6 1) p7 p8 (uHeld (uAdd p9 (p9 / 8))) g_0 g_6 false true true).2.2.2.2.2.2.2.1), .int .u64 ((pMove p0 (uPush l1 10 (uAdd p6 1) g_7) g_5 g_0 p4 p5 (uAdd p6 1) p7 p8 (uHeld (uAdd p9 (p9 / 8))) g_0 g_6 false true true).2.2.2.2.2.2.2.2.1), .int .u64 (uHeld (uAdd p9 (p9 / 8)))]) ∧ (uPush l1 10 (uAdd p6 1) g_7).length ≤ qk ∧ RB w' qA (uPush l1 10 (uAdd p6 1) g_7) ∧ Below w.heap.size w w' := by
 have hu26 := Try.underlying26
 have hu28 := Try.underlying28
 have hu52 := Try.underlying52
 have q0 : IntKind.u64.wrap (Int.tdiv p9 8) = p9 / 8 := wdiv Wp9 8 (by decide)
 have HS := Since.refl w
 go_enter Try.func12, Try.ntmps12
 go_wp2_with (first | (refine seg_new rfl (N := 2) rfl [.int .i64 p0, .slice A1 l1.length k1, .int .u64 p2, .int .u64 p3, .int .u64 p4, .int .u64 p5, .int .u64 p6, .int .u64 p7, .int .u64 p8, .int .u64 p9] 26 ?hr ?_; (case hr => rfl); intro g0 hg w1 hn hl; have GEg0 := ge_new HS hg; clear hg; replace HS := HS.below hl; have Bg0 := hn; clear hl hn) | (refine seg_new rfl (N := 3) rfl [.int .u64 g_0, .int .u64 g_1, .int .u64 g_2, .int .u64 g_3, .int .u64 g_4, .int .u64 g_5, .int .u64 g_6, .int .u64 g_7, .bool false, .bool true] 28 ?hr ?_; (case hr => rfl); intro g1 hg w2 hn hl; have Ng1_g0 := ne_new Bg0 hg; have GEg1 := ge_new HS hg; clear hg; replace Bg0 := Bg0.below hl; replace HS := HS.below hl; have Bg1 := hn; clear hl hn) | (refine seg_new rfl (N := 4) rfl [.int .i64 0, .slice none 0 0, .int .u64 0, .int .u64 0, .int .u64 0, .int .u64 0, .int .u64 0, .int .u64 0, .int .u64 0, .int .u64 0] 26 ?hr ?_; (case hr => rfl); intro g2 hg w3 hn hl; have Ng2_g0 := ne_new Bg0 hg; have Ng2_g1 := ne_new Bg1 hg; have GEg2 := ge_new HS hg; clear hg; replace Bg0 := Bg0.below hl; replace Bg1 := Bg1.below hl; replace HS := HS.below hl; have Bg2 := hn; clear hl hn; have kg0_6 := Bg0.at 6 rfl; have kg1_9 := Bg1.at 9 rfl) | ((go_at_call 30); (with_reducible refine (wigwagref01_AddT.C p6 1 Wp6 (by decide) _).mono ?_); rintro e w4 ⟨rfl, hd⟩; have hl := hd.below; clear hd; replace Bg0 := Bg0.below hl; replace Bg1 := Bg1.below hl; replace Bg2 := Bg2.below hl; replace HS := HS.below hl; clear hl; clear kg0_6 kg1_9) | (refine seg_store rfl rfl 24 (.tmp 11) (.tmp 10) rfl g0 6 [.int .u64 (uAdd p6 1)] [.int .i64 p0, .slice A1 l1.length k1, .int .u64 p2, .int .u64 p3, .int .u64 p4, .int .u64 p5, .int .u64 (uAdd p6 1), .int .u64 p7, .int .u64 p8, .int .u64 p9] (.int .u64 (uAdd p6 1)) rfl rfl rfl Bg0 (by kernel_rfl) (nle rfl) rfl rfl ?_; intro w5 hn hw; replace Bg1 := Bg1.grown hw Ng1_g0; replace Bg2 := Bg2.grown hw Ng2_g0; replace HS := HS.grown hw GEg0; replace Bg0 := hn; clear hw; have kg0_9 := Bg0.at 9 rfl; clear hn) | ((go_at_call 30); (with_reducible refine (wigwagref01_AddT.C p9 (p9 / 8) Wp9 (div_w Wp9 8 (by decide)) _).mono ?_); rintro e w6 ⟨rfl, hd⟩; have hl := hd.below; clear hd; replace Bg0 := Bg0.below hl; replace Bg1 := Bg1.below hl; replace Bg2 := Bg2.below hl; replace HS := HS.below hl; clear hl; clear kg0_9) | ((go_at_call 31); (with_reducible refine (wigwagref10_HeldT.C (uAdd p9 (p9 / 8)) _).mono ?_); rintro e w7 ⟨rfl, hd⟩; have hl := hd.below; clear hd; replace Bg0 := Bg0.below hl; replace Bg1 := Bg1.below hl; replace Bg2 := Bg2.below hl; replace HS := HS.below hl; clear hl) | (refine seg_store rfl rfl 24 (.tmp 19) (.tmp 18) rfl g0 9 [.int .u64 (uHeld (uAdd p9 (p9 / 8)))] [.int .i64 p0, .slice A1 l1.length k1, .int .u64 p2, .int .u64 p3, .int .u64 p4, .int .u64 p5, .int .u64 (uAdd p6 1), .int .u64 p7, .int .u64 p8, .int .u64 (uHeld (uAdd p9 (p9 / 8)))] (.int .u64 (uHeld (uAdd p9 (p9 / 8)))) rfl rfl rfl Bg0 (by kernel_rfl) (nle rfl) rfl rfl ?_; intro w8 hn hw; replace Bg1 := Bg1.grown hw Ng1_g0; replace Bg2 := Bg2.grown hw Ng2_g0; replace HS := HS.grown hw GEg0; replace Bg0 := hn; clear hw; have kg1_8 := Bg1.at 8 rfl; clear hn))
 refine start_ (n := 10) (S := fun w' => w'.cell? ⟨g1, 8, none⟩ = some (.bool false)) (ds := []) (bs 10 0) (by kernel_rfl) rfl rfl ((Bg1.drew.cell 8).trans rfl) (fun hHeld => ?_)
 generalize hWd : World.drew w8 = w9 at hHeld ⊢
 have hl : Below w8.heap.size w8 w9 := (by rw [← hWd]; exact below_drew1 (Below.refl _ _))
 clear hWd
 replace Bg0 := Bg0.below hl; replace Bg1 := Bg1.below hl; replace Bg2 := Bg2.below hl; replace HS := HS.below hl; clear hl; replace kg1_8 := Bg1.at 8 rfl
 refine pu 0 20 (.pointer (some ⟨g1, 8, none⟩)) 1 rfl rfl (by kernel_rfl) (fun _ _ _ h => h) (by rfl) (fun _ => by kernel_rfl) rfl ?_
 refine norm_ (a' := ?_) ?_ ?_
 rotate_left
 ·simp only [Act.put, zA_, z0_, z1_, i64_w, i32_w]
  rfl
 refine take_ (i := 1) (N := some 21) (v := ?_) (a' := ?_) (bs 10 3) rfl rfl (by kernel_rfl) (fun _ _ _ h => h) (Or.inl ⟨by rfl, ?_⟩) hHeld ?_ ?_
 rotate_left
 ·intro w' s0
  go_simp
  with_reducible rfl
 rotate_left
 ·simp only [Act.put, zA_, z0_, z1_, i64_w, i32_w]
  rfl
 refine pure_ (i := 2) (N := some 22) (v := ?_) (a' := ?_) (bs 10 7) rfl rfl (by kernel_rfl) (fun _ _ _ h => h) (Or.inl ⟨by rfl, ?_⟩) ?_ ?_
 rotate_left
 ·intro w'
  go_simp
  with_reducible rfl
 rotate_left
 ·simp only [Act.put, zA_, z0_, z1_, i64_w, i32_w]
  rfl
 refine pure_ (i := 3) (N := some 23) (v := ?_) (a' := ?_) (bs 10 15) rfl rfl (by kernel_rfl) (fun _ _ _ h => h) (Or.inl ⟨by rfl, ?_⟩) ?_ ?_
 rotate_left
 ·intro w'
  go_simp
  with_reducible rfl
 rotate_left
 ·simp only [Act.put, zA_, z0_, z1_, i64_w, i32_w]
  rfl
 refine pure_ (i := 4) (N := some 24) (v := undef) (a' := ?_) (bs 10 31) rfl rfl (by kernel_rfl) (fun _ _ _ h => h) (Or.inr ⟨by rfl, rfl⟩) ?_ ?_
 rotate_left
 ·simp only [Act.put, zA_, z0_, z1_, i64_w, i32_w]
  rfl
 refine pure_ (i := 5) (N := some 25) (v := undef) (a' := ?_) (bs 10 63) rfl rfl (by kernel_rfl) (fun _ _ _ h => h) (Or.inr ⟨by rfl, rfl⟩) ?_ ?_
 rotate_left
 ·simp only [Act.put, zA_, z0_, z1_, i64_w, i32_w]
  rfl
 refine pure_ (i := 6) (N := some 26) (v := undef) (a' := ?_) (bs 10 127) rfl rfl (by kernel_rfl) (fun _ _ _ h => h) (Or.inr ⟨by rfl, rfl⟩) ?_ ?_
 rotate_left
 ·simp only [Act.put, zA_, z0_, z1_, i64_w, i32_w]
  rfl
 refine pure_ (i := 7) (N := some 27) (v := undef) (a' := ?_) (bs 10 255) rfl rfl (by kernel_rfl) (fun _ _ _ h => h) (Or.inr ⟨by rfl, rfl⟩) ?_ ?_
 rotate_left
 ·simp only [Act.put, zA_, z0_, z1_, i64_w, i32_w]
  rfl
 refine pure_ (i := 8) (N := some 28) (v := undef) (a' := ?_) (bs 10 511) rfl rfl (by kernel_rfl) (fun _ _ _ h => h) (Or.inr ⟨by rfl, rfl⟩) ?_ ?_
 rotate_left
 ·simp only [Act.put, zA_, z0_, z1_, i64_w, i32_w]
  rfl
 refine pure_ (i := 9) (N := some 29) (v := ?_) (a' := ?_) (bs 10 1023) rfl rfl (by kernel_rfl) (fun _ _ _ h => h) (Or.inl ⟨by rfl, ?_⟩) ?_ ?_
 rotate_left
 ·intro w'
  go_simp
  with_reducible rfl
 rotate_left
 ·simp only [Act.put, zA_, z0_, z1_, i64_w, i32_w]
  rfl
 refine done_ (by kernel_rfl) ?_
 clear kg1_8; have kg0_1 := Bg0.at 1 rfl; have kg0_6 := Bg0.at 6 rfl; have kg1_7 := Bg1.at 7 rfl
 go_wp2_with (first | ((go_at_call 33); (with_reducible refine (pushC 10 (uAdd p6 1) g_7 A1 k1 l1 hw1 (by decide) (uAdd_w Wp6 (by decide)) Wg_7 _ ⟨(Kd.C_below hr1 HS.out)⟩ hk1 hL1).mono ?_); rintro e w10 ⟨qA, qk, rfl, hk_qA, RB_qA, hF_qA, hl⟩; have NRB_qA_g0 := hF_qA.ne (NE_old ⟨hr1⟩ GEg0) Bg0; have NRB_qA_g1 := hF_qA.ne (NE_old ⟨hr1⟩ GEg1) Bg1; have NRB_qA_g2 := hF_qA.ne (NE_old ⟨hr1⟩ GEg2) Bg2; replace hF_qA := hF_qA.mono HS.le; replace Bg0 := Bg0.below hl; replace Bg1 := Bg1.below hl; replace Bg2 := Bg2.below hl; replace HS := HS.below hl; clear hl; clear kg0_1 kg0_6 kg1_7) | (refine seg_store rfl rfl 23 (.tmp 38) (.tmp 37) rfl g0 1 [.slice qA (uPush l1 10 (uAdd p6 1) g_7).length qk] [.int .i64 p0, .slice qA (uPush l1 10 (uAdd p6 1) g_7).length qk, .int .u64 p2, .int .u64 p3, .int .u64 p4, .int .u64 p5, .int .u64 (uAdd p6 1), .int .u64 p7, .int .u64 p8, .int .u64 (uHeld (uAdd p9 (p9 / 8)))] (.slice qA (uPush l1 10 (uAdd p6 1) g_7).length qk) rfl rfl rfl Bg0 (by kernel_rfl) (nle rfl) rfl rfl ?_; intro w11 hn hw; replace Bg1 := Bg1.grown hw Ng1_g0; replace Bg2 := Bg2.grown hw Ng2_g0; replace RB_qA := RB_qA.grown hw NRB_qA_g0; replace HS := HS.grown hw GEg0; replace Bg0 := hn; clear hw; have kg0_3 := Bg0.at 3 rfl; have kg1_0 := Bg1.at 0 rfl; clear hn))
 all_goals go_quiet (first | (go_at_call 30; with_reducible exact wigwagref01_AddT.Q p3 10000 Wp3 (by decide) _ _))
 all_goals (generalize hW : World.drewN w11 _ = w12; have hl : Below w11.heap.size w11 w12 := (by rw [← hW]; exact pw_below_drewN (Below.refl _ _) _); clear hW; replace Bg0 := Bg0.below hl; replace Bg1 := Bg1.below hl; replace Bg2 := Bg2.below hl; replace RB_qA := RB_qA.below hl; replace HS := HS.below hl; clear hl; clear kg0_3 kg1_0; have kg1_5 := Bg1.at 5 rfl)
 go_wp2_with (first | (refine seg_store rfl rfl 24 (.tmp 60) (.tmp 59) rfl g0 2 [.int .u64 g_5] [.int .i64 p0, .slice qA (uPush l1 10 (uAdd p6 1) g_7).length qk, .int .u64 g_5, .int .u64 p3, .int .u64 p4, .int .u64 p5, .int .u64 (uAdd p6 1), .int .u64 p7, .int .u64 p8, .int .u64 (uHeld (uAdd p9 (p9 / 8)))] (.int .u64 g_5) rfl rfl rfl Bg0 (by kernel_rfl) (nle rfl) rfl rfl ?_; intro w13 hn hw; replace Bg1 := Bg1.grown hw Ng1_g0; replace Bg2 := Bg2.grown hw Ng2_g0; replace RB_qA := RB_qA.grown hw NRB_qA_g0; replace HS := HS.grown hw GEg0; replace Bg0 := hn; clear hw; clear kg1_5; have kg1_0 := Bg1.at 0 rfl; clear hn) | (refine seg_store rfl rfl 24 (.tmp 63) (.tmp 62) rfl g0 3 [.int .u64 g_0] [.int .i64 p0, .slice qA (uPush l1 10 (uAdd p6 1) g_7).length qk, .int .u64 g_5, .int .u64 g_0, .int .u64 p4, .int .u64 p5, .int .u64 (uAdd p6 1), .int .u64 p7, .int .u64 p8, .int .u64 (uHeld (uAdd p9 (p9 / 8)))] (.int .u64 g_0) rfl rfl rfl Bg0 (by kernel_rfl) (nle rfl) rfl rfl ?_; intro w14 hn hw; replace Bg1 := Bg1.grown hw Ng1_g0; replace Bg2 := Bg2.grown hw Ng2_g0; replace RB_qA := RB_qA.grown hw NRB_qA_g0; replace HS := HS.grown hw GEg0; replace Bg0 := hn; clear hw; clear kg1_0; clear hn) | (refine seg_load rfl (N := 64) rfl 26 (.tmp 2) rfl g0 0 [.int .i64 p0, .slice qA (uPush l1 10 (uAdd p6 1) g_7).length qk, .int .u64 g_5, .int .u64 g_0, .int .u64 p4, .int .u64 p5, .int .u64 (uAdd p6 1), .int .u64 p7, .int .u64 p8, .int .u64 (uHeld (uAdd p9 (p9 / 8)))] rfl Bg0 rfl Try.underlying26 rfl (by kernel_rfl) ?_) | (refine seg_load rfl (N := 65) rfl 28 (.tmp 3) rfl g1 0 [.int .u64 g_0, .int .u64 g_1, .int .u64 g_2, .int .u64 g_3, .int .u64 g_4, .int .u64 g_5, .int .u64 g_6, .int .u64 g_7, .bool false, .bool true] rfl Bg1 rfl Try.underlying28 rfl (by kernel_rfl) ?_) | ((go_at_call 34); (with_reducible refine (moveC p0 g_5 g_0 p4 p5 (uAdd p6 1) p7 p8 (uHeld (uAdd p9 (p9 / 8))) g_0 g_1 g_2 g_3 g_4 g_5 g_6 g_7 false true true qA qk (uPush l1 10 (uAdd p6 1) g_7) (wf_push hw1 (uAdd_w Wp6 (by decide)) Wg_7) Wg_5 Wg_0 Wp4 Wp5 (uAdd_w Wp6 (by decide)) Wp7 Wp8 (uHeld_w _) _ RB_qA.out hk_qA).mono ?_); rintro e w15 ⟨rfl, hl⟩; replace Bg0 := Bg0.below hl; replace Bg1 := Bg1.below hl; replace Bg2 := Bg2.below hl; replace RB_qA := RB_qA.below hl; replace HS := HS.below hl; clear hl) | (refine seg_store rfl rfl 26 (.tmp 4) (.tmp 67) rfl g2 0 [.int .i64 ((pMove p0 (uPush l1 10 (uAdd p6 1) g_7) g_5 g_0 p4 p5 (uAdd p6 1) p7 p8 (uHeld (uAdd p9 (p9 / 8))) g_0 g_6 false true true).1), .slice qA (uPush l1 10 (uAdd p6 1) g_7).length qk, .int .u64 g_5, .int .u64 g_0, .int .u64 ((pMove p0 (uPush l1 10 (uAdd p6 1) g_7) g_5 g_0 p4 p5 (uAdd p6 1) p7 p8 (uHeld (uAdd p9 (p9 / 8))) g_0 g_6 false true true).2.2.2.2.1), .int .u64 ((pMove p0 (uPush l1 10 (uAdd p6 1) g_7) g_5 g_0 p4 p5 (uAdd p6 1) p7 p8 (uHeld (uAdd p9 (p9 / 8))) g_0 g_6 false true true).2.2.2.2.2.1), .int .u64 (uAdd p6 1), .int .u64 ((pMove p0 (uPush l1 10 (uAdd p6 1) g_7) g_5 g_0 p4 p5 (uAdd p6 1) p7 p8 (uHeld (uAdd p9 (p9 / 8))) g_0 g_6 false true true).2.2.2.2.2.2.2.1), .int .u64 ((pMove p0 (uPush l1 10 (uAdd p6 1) g_7) g_5 g_0 p4 p5 (uAdd p6 1) p7 p8 (uHeld (uAdd p9 (p9 / 8))) g_0 g_6 false true true).2.2.2.2.2.2.2.2.1), .int .u64 (uHeld (uAdd p9 (p9 / 8)))] [.int .i64 ((pMove p0 (uPush l1 10 (uAdd p6 1) g_7) g_5 g_0 p4 p5 (uAdd p6 1) p7 p8 (uHeld (uAdd p9 (p9 / 8))) g_0 g_6 false true true).1), .slice qA (uPush l1 10 (uAdd p6 1) g_7).length qk, .int .u64 g_5, .int .u64 g_0, .int .u64 ((pMove p0 (uPush l1 10 (uAdd p6 1) g_7) g_5 g_0 p4 p5 (uAdd p6 1) p7 p8 (uHeld (uAdd p9 (p9 / 8))) g_0 g_6 false true true).2.2.2.2.1), .int .u64 ((pMove p0 (uPush l1 10 (uAdd p6 1) g_7) g_5 g_0 p4 p5 (uAdd p6 1) p7 p8 (uHeld (uAdd p9 (p9 / 8))) g_0 g_6 false true true).2.2.2.2.2.1), .int .u64 (uAdd p6 1), .int .u64 ((pMove p0 (uPush l1 10 (uAdd p6 1) g_7) g_5 g_0 p4 p5 (uAdd p6 1) p7 p8 (uHeld (uAdd p9 (p9 / 8))) g_0 g_6 false true true).2.2.2.2.2.2.2.1), .int .u64 ((pMove p0 (uPush l1 10 (uAdd p6 1) g_7) g_5 g_0 p4 p5 (uAdd p6 1) p7 p8 (uHeld (uAdd p9 (p9 / 8))) g_0 g_6 false true true).2.2.2.2.2.2.2.2.1), .int .u64 (uHeld (uAdd p9 (p9 / 8)))] (.agg #[.int .i64 ((pMove p0 (uPush l1 10 (uAdd p6 1) g_7) g_5 g_0 p4 p5 (uAdd p6 1) p7 p8 (uHeld (uAdd p9 (p9 / 8))) g_0 g_6 false true true).1), .slice qA (uPush l1 10 (uAdd p6 1) g_7).length qk, .int .u64 g_5, .int .u64 g_0, .int .u64 ((pMove p0 (uPush l1 10 (uAdd p6 1) g_7) g_5 g_0 p4 p5 (uAdd p6 1) p7 p8 (uHeld (uAdd p9 (p9 / 8))) g_0 g_6 false true true).2.2.2.2.1), .int .u64 ((pMove p0 (uPush l1 10 (uAdd p6 1) g_7) g_5 g_0 p4 p5 (uAdd p6 1) p7 p8 (uHeld (uAdd p9 (p9 / 8))) g_0 g_6 false true true).2.2.2.2.2.1), .int .u64 (uAdd p6 1), .int .u64 ((pMove p0 (uPush l1 10 (uAdd p6 1) g_7) g_5 g_0 p4 p5 (uAdd p6 1) p7 p8 (uHeld (uAdd p9 (p9 / 8))) g_0 g_6 false true true).2.2.2.2.2.2.2.1), .int .u64 ((pMove p0 (uPush l1 10 (uAdd p6 1) g_7) g_5 g_0 p4 p5 (uAdd p6 1) p7 p8 (uHeld (uAdd p9 (p9 / 8))) g_0 g_6 false true true).2.2.2.2.2.2.2.2.1), .int .u64 (uHeld (uAdd p9 (p9 / 8)))]) rfl rfl rfl Bg2 (by kernel_rfl) (nle rfl) rfl rfl ?_; intro w16 hn hw; replace Bg0 := Bg0.grown hw Ng2_g0.symm; replace Bg1 := Bg1.grown hw Ng2_g1.symm; replace RB_qA := RB_qA.grown hw NRB_qA_g2; replace HS := HS.grown hw GEg2; replace Bg2 := hn; clear hw; clear hn))
 all_goals exact bodyPost_ret (results_cell1 rfl _ _ g2 26 [.int .i64 ((pMove p0 (uPush l1 10 (uAdd p6 1) g_7) g_5 g_0 p4 p5 (uAdd p6 1) p7 p8 (uHeld (uAdd p9 (p9 / 8))) g_0 g_6 false true true).1), .slice qA (uPush l1 10 (uAdd p6 1) g_7).length qk, .int .u64 g_5, .int .u64 g_0, .int .u64 ((pMove p0 (uPush l1 10 (uAdd p6 1) g_7) g_5 g_0 p4 p5 (uAdd p6 1) p7 p8 (uHeld (uAdd p9 (p9 / 8))) g_0 g_6 false true true).2.2.2.2.1), .int .u64 ((pMove p0 (uPush l1 10 (uAdd p6 1) g_7) g_5 g_0 p4 p5 (uAdd p6 1) p7 p8 (uHeld (uAdd p9 (p9 / 8))) g_0 g_6 false true true).2.2.2.2.2.1), .int .u64 (uAdd p6 1), .int .u64 ((pMove p0 (uPush l1 10 (uAdd p6 1) g_7) g_5 g_0 p4 p5 (uAdd p6 1) p7 p8 (uHeld (uAdd p9 (p9 / 8))) g_0 g_6 false true true).2.2.2.2.2.2.2.1), .int .u64 ((pMove p0 (uPush l1 10 (uAdd p6 1) g_7) g_5 g_0 p4 p5 (uAdd p6 1) p7 p8 (uHeld (uAdd p9 (p9 / 8))) g_0 g_6 false true true).2.2.2.2.2.2.2.2.1), .int .u64 (uHeld (uAdd p9 (p9 / 8)))] _ rfl Bg2 Try.underlying26 rfl (by kernel_rfl)) rfl ⟨qA, qk, rfl, hk_qA, RB_qA, HS.out⟩
theorem rack_7 (p0 p2 p3 p4 p5 p6 p7 p8 p9 g_0 g_1 g_2 g_3 g_4 g_5 g_6 g_7 : Int) (A1 : Option Addr) (k1 : Nat) (Wp2 : W64 p2) (Wp3 : W64 p3) (Wp4 : W64 p4) (Wp5 : W64 p5) (Wp6 : W64 p6) (Wp7 : W64 p7) (Wp8 : W64 p8) (Wp9 : W64 p9) (Wg_0 : W64 g_0) (Wg_1 : W64 g_1) (Wg_2 : W64 g_2) (Wg_3 : W64 g_3) (Wg_4 : W64 g_4) (Wg_5 : W64 g_5) (Wg_6 : W64 g_6) (Wg_7 : W64 g_7) (w : World) (l1 : List S52) (hr1 : Kd.C k52 w A1 l1.length l1) (hk1 : l1.length ≤ k1) (hw1 : SWf l1) (hL1 : l1.length < 1000000) (h0 : (decide (uAdd p3 10000 ≤ g_0)) = false) (h1 : (decide (g_5 < p2)) = true) :
  Calls Try.prog 12 #[.agg #[.int .i64 p0, .slice A1 l1.length k1, .int .u64 p2, .int .u64 p3, .int .u64 p4, .int .u64 p5, .int .u64 p6, .int .u64 p7, .int .u64 p8, .int .u64 p9], .agg #[.int .u64 g_0, .int .u64 g_1, .int .u64 g_2, .int .u64 g_3, .int .u64 g_4, .int .u64 g_5, .int .u64 g_6, .int .u64 g_7, .bool false, .bool true]] w fun e w' => ∃ (qA : Option Addr) (qk : Nat), e = .returned (.agg #[.int .i64 ((pMove p0 (uPush l1 10 (uAdd p6 1) g_7) g_5 g_0 p4 p5 (uAdd p6 1) p7 p8 (uHeld (uAdd p9 (p9 / 8))) g_0 g_6 false true false).1), .slice qA (uPush l1 10 (uAdd p6 1) g_7).length qk, .int .u64 g_5, .int .u64 g_0, .int .u64 ((pMove p0 (uPush l1 10 (uAdd p6 1) g_7) g_5 g_0 p4 p5 (uAdd p6 1) p7 p8 (uHeld (uAdd p9 (p9 / 8))) g_0 g_6 false true false).2.2.2.2.1), .int .u64 ((pMove p0 (uPush l1 10 (uAdd p6 1) g_7) g_5 g_0 p4 p5 (uAdd p6 1) p7 p8 (uHeld (uAdd p9 (p9 / 8))) g_0 g_6 false true false).2.2.2.2.2.1), .int .u64 (uAdd p6 1), .int .u64 ((pMove p0 (uPush l1 10 (uAdd p6 1) g_7) g_5 g_0 p4 p5 (uAdd p6 1) p7 p8 (uHeld (uAdd p9 (p9 / 8))) g_0 g_6 false true false).2.2.2.2.2.2.2.1), .int .u64 ((pMove p0 (uPush l1 10 (uAdd p6 1) g_7) g_5 g_0 p4 p5 (uAdd p6 1) p7 p8 (uHeld (uAdd p9 (p9 / 8))) g_0 g_6 false true false).2.2.2.2.2.2.2.2.1), .int .u64 (uHeld (uAdd p9 (p9 / 8)))]) ∧ (uPush l1 10 (uAdd p6 1) g_7).length ≤ qk ∧ RB w' qA (uPush l1 10 (uAdd p6 1) g_7) ∧ Below w.heap.size w w' := by
 have hu26 := Try.underlying26
 have hu28 := Try.underlying28
 have hu52 := Try.underlying52
 have q0 : IntKind.u64.wrap (Int.tdiv p9 8) = p9 / 8 := wdiv Wp9 8 (by decide)
 have HS := Since.refl w
 go_enter Try.func12, Try.ntmps12
 go_wp2_with (first | (refine seg_new rfl (N := 2) rfl [.int .i64 p0, .slice A1 l1.length k1, .int .u64 p2, .int .u64 p3, .int .u64 p4, .int .u64 p5, .int .u64 p6, .int .u64 p7, .int .u64 p8, .int .u64 p9] 26 ?hr ?_; (case hr => rfl); intro g0 hg w1 hn hl; have GEg0 := ge_new HS hg; clear hg; replace HS := HS.below hl; have Bg0 := hn; clear hl hn) | (refine seg_new rfl (N := 3) rfl [.int .u64 g_0, .int .u64 g_1, .int .u64 g_2, .int .u64 g_3, .int .u64 g_4, .int .u64 g_5, .int .u64 g_6, .int .u64 g_7, .bool false, .bool true] 28 ?hr ?_; (case hr => rfl); intro g1 hg w2 hn hl; have Ng1_g0 := ne_new Bg0 hg; have GEg1 := ge_new HS hg; clear hg; replace Bg0 := Bg0.below hl; replace HS := HS.below hl; have Bg1 := hn; clear hl hn) | (refine seg_new rfl (N := 4) rfl [.int .i64 0, .slice none 0 0, .int .u64 0, .int .u64 0, .int .u64 0, .int .u64 0, .int .u64 0, .int .u64 0, .int .u64 0, .int .u64 0] 26 ?hr ?_; (case hr => rfl); intro g2 hg w3 hn hl; have Ng2_g0 := ne_new Bg0 hg; have Ng2_g1 := ne_new Bg1 hg; have GEg2 := ge_new HS hg; clear hg; replace Bg0 := Bg0.below hl; replace Bg1 := Bg1.below hl; replace HS := HS.below hl; have Bg2 := hn; clear hl hn; have kg0_6 := Bg0.at 6 rfl; have kg1_9 := Bg1.at 9 rfl) | ((go_at_call 30); (with_reducible refine (wigwagref01_AddT.C p6 1 Wp6 (by decide) _).mono ?_); rintro e w4 ⟨rfl, hd⟩; have hl := hd.below; clear hd; replace Bg0 := Bg0.below hl; replace Bg1 := Bg1.below hl; replace Bg2 := Bg2.below hl; replace HS := HS.below hl; clear hl; clear kg0_6 kg1_9) | (refine seg_store rfl rfl 24 (.tmp 11) (.tmp 10) rfl g0 6 [.int .u64 (uAdd p6 1)] [.int .i64 p0, .slice A1 l1.length k1, .int .u64 p2, .int .u64 p3, .int .u64 p4, .int .u64 p5, .int .u64 (uAdd p6 1), .int .u64 p7, .int .u64 p8, .int .u64 p9] (.int .u64 (uAdd p6 1)) rfl rfl rfl Bg0 (by kernel_rfl) (nle rfl) rfl rfl ?_; intro w5 hn hw; replace Bg1 := Bg1.grown hw Ng1_g0; replace Bg2 := Bg2.grown hw Ng2_g0; replace HS := HS.grown hw GEg0; replace Bg0 := hn; clear hw; have kg0_9 := Bg0.at 9 rfl; clear hn) | ((go_at_call 30); (with_reducible refine (wigwagref01_AddT.C p9 (p9 / 8) Wp9 (div_w Wp9 8 (by decide)) _).mono ?_); rintro e w6 ⟨rfl, hd⟩; have hl := hd.below; clear hd; replace Bg0 := Bg0.below hl; replace Bg1 := Bg1.below hl; replace Bg2 := Bg2.below hl; replace HS := HS.below hl; clear hl; clear kg0_9) | ((go_at_call 31); (with_reducible refine (wigwagref10_HeldT.C (uAdd p9 (p9 / 8)) _).mono ?_); rintro e w7 ⟨rfl, hd⟩; have hl := hd.below; clear hd; replace Bg0 := Bg0.below hl; replace Bg1 := Bg1.below hl; replace Bg2 := Bg2.below hl; replace HS := HS.below hl; clear hl) | (refine seg_store rfl rfl 24 (.tmp 19) (.tmp 18) rfl g0 9 [.int .u64 (uHeld (uAdd p9 (p9 / 8)))] [.int .i64 p0, .slice A1 l1.length k1, .int .u64 p2, .int .u64 p3, .int .u64 p4, .int .u64 p5, .int .u64 (uAdd p6 1), .int .u64 p7, .int .u64 p8, .int .u64 (uHeld (uAdd p9 (p9 / 8)))] (.int .u64 (uHeld (uAdd p9 (p9 / 8)))) rfl rfl rfl Bg0 (by kernel_rfl) (nle rfl) rfl rfl ?_; intro w8 hn hw; replace Bg1 := Bg1.grown hw Ng1_g0; replace Bg2 := Bg2.grown hw Ng2_g0; replace HS := HS.grown hw GEg0; replace Bg0 := hn; clear hw; have kg1_8 := Bg1.at 8 rfl; clear hn))
 refine start_ (n := 10) (S := fun w' => w'.cell? ⟨g1, 8, none⟩ = some (.bool false)) (ds := []) (bs 10 0) (by kernel_rfl) rfl rfl ((Bg1.drew.cell 8).trans rfl) (fun hHeld => ?_)
 generalize hWd : World.drew w8 = w9 at hHeld ⊢
 have hl : Below w8.heap.size w8 w9 := (by rw [← hWd]; exact below_drew1 (Below.refl _ _))
 clear hWd
 replace Bg0 := Bg0.below hl; replace Bg1 := Bg1.below hl; replace Bg2 := Bg2.below hl; replace HS := HS.below hl; clear hl; replace kg1_8 := Bg1.at 8 rfl
 refine pu 0 20 (.pointer (some ⟨g1, 8, none⟩)) 1 rfl rfl (by kernel_rfl) (fun _ _ _ h => h) (by rfl) (fun _ => by kernel_rfl) rfl ?_
 refine norm_ (a' := ?_) ?_ ?_
 rotate_left
 ·simp only [Act.put, zA_, z0_, z1_, i64_w, i32_w]
  rfl
 refine take_ (i := 1) (N := some 21) (v := ?_) (a' := ?_) (bs 10 3) rfl rfl (by kernel_rfl) (fun _ _ _ h => h) (Or.inl ⟨by rfl, ?_⟩) hHeld ?_ ?_
 rotate_left
 ·intro w' s0
  go_simp
  with_reducible rfl
 rotate_left
 ·simp only [Act.put, zA_, z0_, z1_, i64_w, i32_w]
  rfl
 refine pure_ (i := 2) (N := some 22) (v := ?_) (a' := ?_) (bs 10 7) rfl rfl (by kernel_rfl) (fun _ _ _ h => h) (Or.inl ⟨by rfl, ?_⟩) ?_ ?_
 rotate_left
 ·intro w'
  go_simp
  with_reducible rfl
 rotate_left
 ·simp only [Act.put, zA_, z0_, z1_, i64_w, i32_w]
  rfl
 refine pure_ (i := 3) (N := some 23) (v := ?_) (a' := ?_) (bs 10 15) rfl rfl (by kernel_rfl) (fun _ _ _ h => h) (Or.inl ⟨by rfl, ?_⟩) ?_ ?_
 rotate_left
 ·intro w'
  go_simp
  with_reducible rfl
 rotate_left
 ·simp only [Act.put, zA_, z0_, z1_, i64_w, i32_w]
  rfl
 refine pure_ (i := 4) (N := some 24) (v := undef) (a' := ?_) (bs 10 31) rfl rfl (by kernel_rfl) (fun _ _ _ h => h) (Or.inr ⟨by rfl, rfl⟩) ?_ ?_
 rotate_left
 ·simp only [Act.put, zA_, z0_, z1_, i64_w, i32_w]
  rfl
 refine pure_ (i := 5) (N := some 25) (v := undef) (a' := ?_) (bs 10 63) rfl rfl (by kernel_rfl) (fun _ _ _ h => h) (Or.inr ⟨by rfl, rfl⟩) ?_ ?_
 rotate_left
 ·simp only [Act.put, zA_, z0_, z1_, i64_w, i32_w]
  rfl
 refine pure_ (i := 6) (N := some 26) (v := undef) (a' := ?_) (bs 10 127) rfl rfl (by kernel_rfl) (fun _ _ _ h => h) (Or.inr ⟨by rfl, rfl⟩) ?_ ?_
 rotate_left
 ·simp only [Act.put, zA_, z0_, z1_, i64_w, i32_w]
  rfl
 refine pure_ (i := 7) (N := some 27) (v := undef) (a' := ?_) (bs 10 255) rfl rfl (by kernel_rfl) (fun _ _ _ h => h) (Or.inr ⟨by rfl, rfl⟩) ?_ ?_
 rotate_left
 ·simp only [Act.put, zA_, z0_, z1_, i64_w, i32_w]
  rfl
 refine pure_ (i := 8) (N := some 28) (v := undef) (a' := ?_) (bs 10 511) rfl rfl (by kernel_rfl) (fun _ _ _ h => h) (Or.inr ⟨by rfl, rfl⟩) ?_ ?_
 rotate_left
 ·simp only [Act.put, zA_, z0_, z1_, i64_w, i32_w]
  rfl
 refine pure_ (i := 9) (N := some 29) (v := ?_) (a' := ?_) (bs 10 1023) rfl rfl (by kernel_rfl) (fun _ _ _ h => h) (Or.inl ⟨by rfl, ?_⟩) ?_ ?_
 rotate_left
 ·intro w'
  go_simp
  with_reducible rfl
 rotate_left
 ·simp only [Act.put, zA_, z0_, z1_, i64_w, i32_w]
  rfl
 refine done_ (by kernel_rfl) ?_
 clear kg1_8; have kg0_1 := Bg0.at 1 rfl; have kg0_6 := Bg0.at 6 rfl; have kg1_7 := Bg1.at 7 rfl
 go_wp2_with (first | ((go_at_call 33); (with_reducible refine (pushC 10 (uAdd p6 1) g_7 A1 k1 l1 hw1 (by decide) (uAdd_w Wp6 (by decide)) Wg_7 _ ⟨(Kd.C_below hr1 HS.out)⟩ hk1 hL1).mono ?_); rintro e w10 ⟨qA, qk, rfl, hk_qA, RB_qA, hF_qA, hl⟩; have NRB_qA_g0 := hF_qA.ne (NE_old ⟨hr1⟩ GEg0) Bg0; have NRB_qA_g1 := hF_qA.ne (NE_old ⟨hr1⟩ GEg1) Bg1; have NRB_qA_g2 := hF_qA.ne (NE_old ⟨hr1⟩ GEg2) Bg2; replace hF_qA := hF_qA.mono HS.le; replace Bg0 := Bg0.below hl; replace Bg1 := Bg1.below hl; replace Bg2 := Bg2.below hl; replace HS := HS.below hl; clear hl; clear kg0_1 kg0_6 kg1_7) | (refine seg_store rfl rfl 23 (.tmp 38) (.tmp 37) rfl g0 1 [.slice qA (uPush l1 10 (uAdd p6 1) g_7).length qk] [.int .i64 p0, .slice qA (uPush l1 10 (uAdd p6 1) g_7).length qk, .int .u64 p2, .int .u64 p3, .int .u64 p4, .int .u64 p5, .int .u64 (uAdd p6 1), .int .u64 p7, .int .u64 p8, .int .u64 (uHeld (uAdd p9 (p9 / 8)))] (.slice qA (uPush l1 10 (uAdd p6 1) g_7).length qk) rfl rfl rfl Bg0 (by kernel_rfl) (nle rfl) rfl rfl ?_; intro w11 hn hw; replace Bg1 := Bg1.grown hw Ng1_g0; replace Bg2 := Bg2.grown hw Ng2_g0; replace RB_qA := RB_qA.grown hw NRB_qA_g0; replace HS := HS.grown hw GEg0; replace Bg0 := hn; clear hw; have kg0_3 := Bg0.at 3 rfl; have kg1_0 := Bg1.at 0 rfl; clear hn))
 all_goals go_quiet (first | (go_at_call 30; with_reducible exact wigwagref01_AddT.Q p3 10000 Wp3 (by decide) _ _))
 all_goals (generalize hW : World.drewN w11 _ = w12; have hl : Below w11.heap.size w11 w12 := (by rw [← hW]; exact pw_below_drewN (Below.refl _ _) _); clear hW; replace Bg0 := Bg0.below hl; replace Bg1 := Bg1.below hl; replace Bg2 := Bg2.below hl; replace RB_qA := RB_qA.below hl; replace HS := HS.below hl; clear hl; clear kg0_3 kg1_0; have kg0_2 := Bg0.at 2 rfl; have kg1_5 := Bg1.at 5 rfl)
 go_wp2_with (first | (refine seg_store rfl rfl 24 (.tmp 60) (.tmp 59) rfl g0 2 [.int .u64 g_5] [.int .i64 p0, .slice qA (uPush l1 10 (uAdd p6 1) g_7).length qk, .int .u64 g_5, .int .u64 p3, .int .u64 p4, .int .u64 p5, .int .u64 (uAdd p6 1), .int .u64 p7, .int .u64 p8, .int .u64 (uHeld (uAdd p9 (p9 / 8)))] (.int .u64 g_5) rfl rfl rfl Bg0 (by kernel_rfl) (nle rfl) rfl rfl ?_; intro w13 hn hw; replace Bg1 := Bg1.grown hw Ng1_g0; replace Bg2 := Bg2.grown hw Ng2_g0; replace RB_qA := RB_qA.grown hw NRB_qA_g0; replace HS := HS.grown hw GEg0; replace Bg0 := hn; clear hw; clear kg0_2 kg1_5; have kg1_0 := Bg1.at 0 rfl; clear hn) | (refine seg_store rfl rfl 24 (.tmp 63) (.tmp 62) rfl g0 3 [.int .u64 g_0] [.int .i64 p0, .slice qA (uPush l1 10 (uAdd p6 1) g_7).length qk, .int .u64 g_5, .int .u64 g_0, .int .u64 p4, .int .u64 p5, .int .u64 (uAdd p6 1), .int .u64 p7, .int .u64 p8, .int .u64 (uHeld (uAdd p9 (p9 / 8)))] (.int .u64 g_0) rfl rfl rfl Bg0 (by kernel_rfl) (nle rfl) rfl rfl ?_; intro w14 hn hw; replace Bg1 := Bg1.grown hw Ng1_g0; replace Bg2 := Bg2.grown hw Ng2_g0; replace RB_qA := RB_qA.grown hw NRB_qA_g0; replace HS := HS.grown hw GEg0; replace Bg0 := hn; clear hw; clear kg1_0; clear hn) | (refine seg_load rfl (N := 64) rfl 26 (.tmp 2) rfl g0 0 [.int .i64 p0, .slice qA (uPush l1 10 (uAdd p6 1) g_7).length qk, .int .u64 g_5, .int .u64 g_0, .int .u64 p4, .int .u64 p5, .int .u64 (uAdd p6 1), .int .u64 p7, .int .u64 p8, .int .u64 (uHeld (uAdd p9 (p9 / 8)))] rfl Bg0 rfl Try.underlying26 rfl (by kernel_rfl) ?_) | (refine seg_load rfl (N := 65) rfl 28 (.tmp 3) rfl g1 0 [.int .u64 g_0, .int .u64 g_1, .int .u64 g_2, .int .u64 g_3, .int .u64 g_4, .int .u64 g_5, .int .u64 g_6, .int .u64 g_7, .bool false, .bool true] rfl Bg1 rfl Try.underlying28 rfl (by kernel_rfl) ?_) | ((go_at_call 34); (with_reducible refine (moveC p0 g_5 g_0 p4 p5 (uAdd p6 1) p7 p8 (uHeld (uAdd p9 (p9 / 8))) g_0 g_1 g_2 g_3 g_4 g_5 g_6 g_7 false true false qA qk (uPush l1 10 (uAdd p6 1) g_7) (wf_push hw1 (uAdd_w Wp6 (by decide)) Wg_7) Wg_5 Wg_0 Wp4 Wp5 (uAdd_w Wp6 (by decide)) Wp7 Wp8 (uHeld_w _) _ RB_qA.out hk_qA).mono ?_); rintro e w15 ⟨rfl, hl⟩; replace Bg0 := Bg0.below hl; replace Bg1 := Bg1.below hl; replace Bg2 := Bg2.below hl; replace RB_qA := RB_qA.below hl; replace HS := HS.below hl; clear hl) | (refine seg_store rfl rfl 26 (.tmp 4) (.tmp 67) rfl g2 0 [.int .i64 ((pMove p0 (uPush l1 10 (uAdd p6 1) g_7) g_5 g_0 p4 p5 (uAdd p6 1) p7 p8 (uHeld (uAdd p9 (p9 / 8))) g_0 g_6 false true false).1), .slice qA (uPush l1 10 (uAdd p6 1) g_7).length qk, .int .u64 g_5, .int .u64 g_0, .int .u64 ((pMove p0 (uPush l1 10 (uAdd p6 1) g_7) g_5 g_0 p4 p5 (uAdd p6 1) p7 p8 (uHeld (uAdd p9 (p9 / 8))) g_0 g_6 false true false).2.2.2.2.1), .int .u64 ((pMove p0 (uPush l1 10 (uAdd p6 1) g_7) g_5 g_0 p4 p5 (uAdd p6 1) p7 p8 (uHeld (uAdd p9 (p9 / 8))) g_0 g_6 false true false).2.2.2.2.2.1), .int .u64 (uAdd p6 1), .int .u64 ((pMove p0 (uPush l1 10 (uAdd p6 1) g_7) g_5 g_0 p4 p5 (uAdd p6 1) p7 p8 (uHeld (uAdd p9 (p9 / 8))) g_0 g_6 false true false).2.2.2.2.2.2.2.1), .int .u64 ((pMove p0 (uPush l1 10 (uAdd p6 1) g_7) g_5 g_0 p4 p5 (uAdd p6 1) p7 p8 (uHeld (uAdd p9 (p9 / 8))) g_0 g_6 false true false).2.2.2.2.2.2.2.2.1), .int .u64 (uHeld (uAdd p9 (p9 / 8)))] [.int .i64 ((pMove p0 (uPush l1 10 (uAdd p6 1) g_7) g_5 g_0 p4 p5 (uAdd p6 1) p7 p8 (uHeld (uAdd p9 (p9 / 8))) g_0 g_6 false true false).1), .slice qA (uPush l1 10 (uAdd p6 1) g_7).length qk, .int .u64 g_5, .int .u64 g_0, .int .u64 ((pMove p0 (uPush l1 10 (uAdd p6 1) g_7) g_5 g_0 p4 p5 (uAdd p6 1) p7 p8 (uHeld (uAdd p9 (p9 / 8))) g_0 g_6 false true false).2.2.2.2.1), .int .u64 ((pMove p0 (uPush l1 10 (uAdd p6 1) g_7) g_5 g_0 p4 p5 (uAdd p6 1) p7 p8 (uHeld (uAdd p9 (p9 / 8))) g_0 g_6 false true false).2.2.2.2.2.1), .int .u64 (uAdd p6 1), .int .u64 ((pMove p0 (uPush l1 10 (uAdd p6 1) g_7) g_5 g_0 p4 p5 (uAdd p6 1) p7 p8 (uHeld (uAdd p9 (p9 / 8))) g_0 g_6 false true false).2.2.2.2.2.2.2.1), .int .u64 ((pMove p0 (uPush l1 10 (uAdd p6 1) g_7) g_5 g_0 p4 p5 (uAdd p6 1) p7 p8 (uHeld (uAdd p9 (p9 / 8))) g_0 g_6 false true false).2.2.2.2.2.2.2.2.1), .int .u64 (uHeld (uAdd p9 (p9 / 8)))] (.agg #[.int .i64 ((pMove p0 (uPush l1 10 (uAdd p6 1) g_7) g_5 g_0 p4 p5 (uAdd p6 1) p7 p8 (uHeld (uAdd p9 (p9 / 8))) g_0 g_6 false true false).1), .slice qA (uPush l1 10 (uAdd p6 1) g_7).length qk, .int .u64 g_5, .int .u64 g_0, .int .u64 ((pMove p0 (uPush l1 10 (uAdd p6 1) g_7) g_5 g_0 p4 p5 (uAdd p6 1) p7 p8 (uHeld (uAdd p9 (p9 / 8))) g_0 g_6 false true false).2.2.2.2.1), .int .u64 ((pMove p0 (uPush l1 10 (uAdd p6 1) g_7) g_5 g_0 p4 p5 (uAdd p6 1) p7 p8 (uHeld (uAdd p9 (p9 / 8))) g_0 g_6 false true false).2.2.2.2.2.1), .int .u64 (uAdd p6 1), .int .u64 ((pMove p0 (uPush l1 10 (uAdd p6 1) g_7) g_5 g_0 p4 p5 (uAdd p6 1) p7 p8 (uHeld (uAdd p9 (p9 / 8))) g_0 g_6 false true false).2.2.2.2.2.2.2.1), .int .u64 ((pMove p0 (uPush l1 10 (uAdd p6 1) g_7) g_5 g_0 p4 p5 (uAdd p6 1) p7 p8 (uHeld (uAdd p9 (p9 / 8))) g_0 g_6 false true false).2.2.2.2.2.2.2.2.1), .int .u64 (uHeld (uAdd p9 (p9 / 8)))]) rfl rfl rfl Bg2 (by kernel_rfl) (nle rfl) rfl rfl ?_; intro w16 hn hw; replace Bg0 := Bg0.grown hw Ng2_g0.symm; replace Bg1 := Bg1.grown hw Ng2_g1.symm; replace RB_qA := RB_qA.grown hw NRB_qA_g2; replace HS := HS.grown hw GEg2; replace Bg2 := hn; clear hw; clear hn))
 all_goals exact bodyPost_ret (results_cell1 rfl _ _ g2 26 [.int .i64 ((pMove p0 (uPush l1 10 (uAdd p6 1) g_7) g_5 g_0 p4 p5 (uAdd p6 1) p7 p8 (uHeld (uAdd p9 (p9 / 8))) g_0 g_6 false true false).1), .slice qA (uPush l1 10 (uAdd p6 1) g_7).length qk, .int .u64 g_5, .int .u64 g_0, .int .u64 ((pMove p0 (uPush l1 10 (uAdd p6 1) g_7) g_5 g_0 p4 p5 (uAdd p6 1) p7 p8 (uHeld (uAdd p9 (p9 / 8))) g_0 g_6 false true false).2.2.2.2.1), .int .u64 ((pMove p0 (uPush l1 10 (uAdd p6 1) g_7) g_5 g_0 p4 p5 (uAdd p6 1) p7 p8 (uHeld (uAdd p9 (p9 / 8))) g_0 g_6 false true false).2.2.2.2.2.1), .int .u64 (uAdd p6 1), .int .u64 ((pMove p0 (uPush l1 10 (uAdd p6 1) g_7) g_5 g_0 p4 p5 (uAdd p6 1) p7 p8 (uHeld (uAdd p9 (p9 / 8))) g_0 g_6 false true false).2.2.2.2.2.2.2.1), .int .u64 ((pMove p0 (uPush l1 10 (uAdd p6 1) g_7) g_5 g_0 p4 p5 (uAdd p6 1) p7 p8 (uHeld (uAdd p9 (p9 / 8))) g_0 g_6 false true false).2.2.2.2.2.2.2.2.1), .int .u64 (uHeld (uAdd p9 (p9 / 8)))] _ rfl Bg2 Try.underlying26 rfl (by kernel_rfl)) rfl ⟨qA, qk, rfl, hk_qA, RB_qA, HS.out⟩
theorem rack_8 (p0 p2 p3 p4 p5 p6 p7 p8 p9 g_0 g_1 g_2 g_3 g_4 g_5 g_6 g_7 : Int) (A1 : Option Addr) (k1 : Nat) (Wp2 : W64 p2) (Wp3 : W64 p3) (Wp4 : W64 p4) (Wp5 : W64 p5) (Wp6 : W64 p6) (Wp7 : W64 p7) (Wp8 : W64 p8) (Wp9 : W64 p9) (Wg_0 : W64 g_0) (Wg_1 : W64 g_1) (Wg_2 : W64 g_2) (Wg_3 : W64 g_3) (Wg_4 : W64 g_4) (Wg_5 : W64 g_5) (Wg_6 : W64 g_6) (Wg_7 : W64 g_7) (w : World) (l1 : List S52) (hr1 : Kd.C k52 w A1 l1.length l1) (hk1 : l1.length ≤ k1) (hw1 : SWf l1) (hL1 : l1.length < 1000000) (h0 : (decide (uAdd p3 10000 ≤ g_0)) = false) (h1 : (decide (g_5 < p2)) = false) :
  Calls Try.prog 12 #[.agg #[.int .i64 p0, .slice A1 l1.length k1, .int .u64 p2, .int .u64 p3, .int .u64 p4, .int .u64 p5, .int .u64 p6, .int .u64 p7, .int .u64 p8, .int .u64 p9], .agg #[.int .u64 g_0, .int .u64 g_1, .int .u64 g_2, .int .u64 g_3, .int .u64 g_4, .int .u64 g_5, .int .u64 g_6, .int .u64 g_7, .bool false, .bool true]] w fun e w' => ∃ (qA : Option Addr) (qk : Nat), e = .returned (.agg #[.int .i64 ((pMove p0 (uPush l1 10 (uAdd p6 1) g_7) p2 p3 p4 p5 (uAdd p6 1) p7 p8 (uHeld (uAdd p9 (p9 / 8))) g_0 g_6 false true false).1), .slice qA (uPush l1 10 (uAdd p6 1) g_7).length qk, .int .u64 p2, .int .u64 p3, .int .u64 ((pMove p0 (uPush l1 10 (uAdd p6 1) g_7) p2 p3 p4 p5 (uAdd p6 1) p7 p8 (uHeld (uAdd p9 (p9 / 8))) g_0 g_6 false true false).2.2.2.2.1), .int .u64 ((pMove p0 (uPush l1 10 (uAdd p6 1) g_7) p2 p3 p4 p5 (uAdd p6 1) p7 p8 (uHeld (uAdd p9 (p9 / 8))) g_0 g_6 false true false).2.2.2.2.2.1), .int .u64 (uAdd p6 1), .int .u64 ((pMove p0 (uPush l1 10 (uAdd p6 1) g_7) p2 p3 p4 p5 (uAdd p6 1) p7 p8 (uHeld (uAdd p9 (p9 / 8))) g_0 g_6 false true false).2.2.2.2.2.2.2.1), .int .u64 ((pMove p0 (uPush l1 10 (uAdd p6 1) g_7) p2 p3 p4 p5 (uAdd p6 1) p7 p8 (uHeld (uAdd p9 (p9 / 8))) g_0 g_6 false true false).2.2.2.2.2.2.2.2.1), .int .u64 (uHeld (uAdd p9 (p9 / 8)))]) ∧ (uPush l1 10 (uAdd p6 1) g_7).length ≤ qk ∧ RB w' qA (uPush l1 10 (uAdd p6 1) g_7) ∧ Below w.heap.size w w' := by
 have hu26 := Try.underlying26
 have hu28 := Try.underlying28
 have hu52 := Try.underlying52
 have q0 : IntKind.u64.wrap (Int.tdiv p9 8) = p9 / 8 := wdiv Wp9 8 (by decide)
 have HS := Since.refl w
 go_enter Try.func12, Try.ntmps12
 go_wp2_with (first | (refine seg_new rfl (N := 2) rfl [.int .i64 p0, .slice A1 l1.length k1, .int .u64 p2, .int .u64 p3, .int .u64 p4, .int .u64 p5, .int .u64 p6, .int .u64 p7, .int .u64 p8, .int .u64 p9] 26 ?hr ?_; (case hr => rfl); intro g0 hg w1 hn hl; have GEg0 := ge_new HS hg; clear hg; replace HS := HS.below hl; have Bg0 := hn; clear hl hn) | (refine seg_new rfl (N := 3) rfl [.int .u64 g_0, .int .u64 g_1, .int .u64 g_2, .int .u64 g_3, .int .u64 g_4, .int .u64 g_5, .int .u64 g_6, .int .u64 g_7, .bool false, .bool true] 28 ?hr ?_; (case hr => rfl); intro g1 hg w2 hn hl; have Ng1_g0 := ne_new Bg0 hg; have GEg1 := ge_new HS hg; clear hg; replace Bg0 := Bg0.below hl; replace HS := HS.below hl; have Bg1 := hn; clear hl hn) | (refine seg_new rfl (N := 4) rfl [.int .i64 0, .slice none 0 0, .int .u64 0, .int .u64 0, .int .u64 0, .int .u64 0, .int .u64 0, .int .u64 0, .int .u64 0, .int .u64 0] 26 ?hr ?_; (case hr => rfl); intro g2 hg w3 hn hl; have Ng2_g0 := ne_new Bg0 hg; have Ng2_g1 := ne_new Bg1 hg; have GEg2 := ge_new HS hg; clear hg; replace Bg0 := Bg0.below hl; replace Bg1 := Bg1.below hl; replace HS := HS.below hl; have Bg2 := hn; clear hl hn; have kg0_6 := Bg0.at 6 rfl; have kg1_9 := Bg1.at 9 rfl) | ((go_at_call 30); (with_reducible refine (wigwagref01_AddT.C p6 1 Wp6 (by decide) _).mono ?_); rintro e w4 ⟨rfl, hd⟩; have hl := hd.below; clear hd; replace Bg0 := Bg0.below hl; replace Bg1 := Bg1.below hl; replace Bg2 := Bg2.below hl; replace HS := HS.below hl; clear hl; clear kg0_6 kg1_9) | (refine seg_store rfl rfl 24 (.tmp 11) (.tmp 10) rfl g0 6 [.int .u64 (uAdd p6 1)] [.int .i64 p0, .slice A1 l1.length k1, .int .u64 p2, .int .u64 p3, .int .u64 p4, .int .u64 p5, .int .u64 (uAdd p6 1), .int .u64 p7, .int .u64 p8, .int .u64 p9] (.int .u64 (uAdd p6 1)) rfl rfl rfl Bg0 (by kernel_rfl) (nle rfl) rfl rfl ?_; intro w5 hn hw; replace Bg1 := Bg1.grown hw Ng1_g0; replace Bg2 := Bg2.grown hw Ng2_g0; replace HS := HS.grown hw GEg0; replace Bg0 := hn; clear hw; have kg0_9 := Bg0.at 9 rfl; clear hn) | ((go_at_call 30); (with_reducible refine (wigwagref01_AddT.C p9 (p9 / 8) Wp9 (div_w Wp9 8 (by decide)) _).mono ?_); rintro e w6 ⟨rfl, hd⟩; have hl := hd.below; clear hd; replace Bg0 := Bg0.below hl; replace Bg1 := Bg1.below hl; replace Bg2 := Bg2.below hl; replace HS := HS.below hl; clear hl; clear kg0_9) | ((go_at_call 31); (with_reducible refine (wigwagref10_HeldT.C (uAdd p9 (p9 / 8)) _).mono ?_); rintro e w7 ⟨rfl, hd⟩; have hl := hd.below; clear hd; replace Bg0 := Bg0.below hl; replace Bg1 := Bg1.below hl; replace Bg2 := Bg2.below hl; replace HS := HS.below hl; clear hl) | (refine seg_store rfl rfl 24 (.tmp 19) (.tmp 18) rfl g0 9 [.int .u64 (uHeld (uAdd p9 (p9 / 8)))] [.int .i64 p0, .slice A1 l1.length k1, .int .u64 p2, .int .u64 p3, .int .u64 p4, .int .u64 p5, .int .u64 (uAdd p6 1), .int .u64 p7, .int .u64 p8, .int .u64 (uHeld (uAdd p9 (p9 / 8)))] (.int .u64 (uHeld (uAdd p9 (p9 / 8)))) rfl rfl rfl Bg0 (by kernel_rfl) (nle rfl) rfl rfl ?_; intro w8 hn hw; replace Bg1 := Bg1.grown hw Ng1_g0; replace Bg2 := Bg2.grown hw Ng2_g0; replace HS := HS.grown hw GEg0; replace Bg0 := hn; clear hw; have kg1_8 := Bg1.at 8 rfl; clear hn))
 refine start_ (n := 10) (S := fun w' => w'.cell? ⟨g1, 8, none⟩ = some (.bool false)) (ds := []) (bs 10 0) (by kernel_rfl) rfl rfl ((Bg1.drew.cell 8).trans rfl) (fun hHeld => ?_)
 generalize hWd : World.drew w8 = w9 at hHeld ⊢
 have hl : Below w8.heap.size w8 w9 := (by rw [← hWd]; exact below_drew1 (Below.refl _ _))
 clear hWd
 replace Bg0 := Bg0.below hl; replace Bg1 := Bg1.below hl; replace Bg2 := Bg2.below hl; replace HS := HS.below hl; clear hl; replace kg1_8 := Bg1.at 8 rfl
 refine pu 0 20 (.pointer (some ⟨g1, 8, none⟩)) 1 rfl rfl (by kernel_rfl) (fun _ _ _ h => h) (by rfl) (fun _ => by kernel_rfl) rfl ?_
 refine norm_ (a' := ?_) ?_ ?_
 rotate_left
 ·simp only [Act.put, zA_, z0_, z1_, i64_w, i32_w]
  rfl
 refine take_ (i := 1) (N := some 21) (v := ?_) (a' := ?_) (bs 10 3) rfl rfl (by kernel_rfl) (fun _ _ _ h => h) (Or.inl ⟨by rfl, ?_⟩) hHeld ?_ ?_
 rotate_left
 ·intro w' s0
  go_simp
  with_reducible rfl
 rotate_left
 ·simp only [Act.put, zA_, z0_, z1_, i64_w, i32_w]
  rfl
 refine pure_ (i := 2) (N := some 22) (v := ?_) (a' := ?_) (bs 10 7) rfl rfl (by kernel_rfl) (fun _ _ _ h => h) (Or.inl ⟨by rfl, ?_⟩) ?_ ?_
 rotate_left
 ·intro w'
  go_simp
  with_reducible rfl
 rotate_left
 ·simp only [Act.put, zA_, z0_, z1_, i64_w, i32_w]
  rfl
 refine pure_ (i := 3) (N := some 23) (v := ?_) (a' := ?_) (bs 10 15) rfl rfl (by kernel_rfl) (fun _ _ _ h => h) (Or.inl ⟨by rfl, ?_⟩) ?_ ?_
 rotate_left
 ·intro w'
  go_simp
  with_reducible rfl
 rotate_left
 ·simp only [Act.put, zA_, z0_, z1_, i64_w, i32_w]
  rfl
 refine pure_ (i := 4) (N := some 24) (v := undef) (a' := ?_) (bs 10 31) rfl rfl (by kernel_rfl) (fun _ _ _ h => h) (Or.inr ⟨by rfl, rfl⟩) ?_ ?_
 rotate_left
 ·simp only [Act.put, zA_, z0_, z1_, i64_w, i32_w]
  rfl
 refine pure_ (i := 5) (N := some 25) (v := undef) (a' := ?_) (bs 10 63) rfl rfl (by kernel_rfl) (fun _ _ _ h => h) (Or.inr ⟨by rfl, rfl⟩) ?_ ?_
 rotate_left
 ·simp only [Act.put, zA_, z0_, z1_, i64_w, i32_w]
  rfl
 refine pure_ (i := 6) (N := some 26) (v := undef) (a' := ?_) (bs 10 127) rfl rfl (by kernel_rfl) (fun _ _ _ h => h) (Or.inr ⟨by rfl, rfl⟩) ?_ ?_
 rotate_left
 ·simp only [Act.put, zA_, z0_, z1_, i64_w, i32_w]
  rfl
 refine pure_ (i := 7) (N := some 27) (v := undef) (a' := ?_) (bs 10 255) rfl rfl (by kernel_rfl) (fun _ _ _ h => h) (Or.inr ⟨by rfl, rfl⟩) ?_ ?_
 rotate_left
 ·simp only [Act.put, zA_, z0_, z1_, i64_w, i32_w]
  rfl
 refine pure_ (i := 8) (N := some 28) (v := undef) (a' := ?_) (bs 10 511) rfl rfl (by kernel_rfl) (fun _ _ _ h => h) (Or.inr ⟨by rfl, rfl⟩) ?_ ?_
 rotate_left
 ·simp only [Act.put, zA_, z0_, z1_, i64_w, i32_w]
  rfl
 refine pure_ (i := 9) (N := some 29) (v := ?_) (a' := ?_) (bs 10 1023) rfl rfl (by kernel_rfl) (fun _ _ _ h => h) (Or.inl ⟨by rfl, ?_⟩) ?_ ?_
 rotate_left
 ·intro w'
  go_simp
  with_reducible rfl
 rotate_left
 ·simp only [Act.put, zA_, z0_, z1_, i64_w, i32_w]
  rfl
 refine done_ (by kernel_rfl) ?_
 clear kg1_8; have kg0_1 := Bg0.at 1 rfl; have kg0_6 := Bg0.at 6 rfl; have kg1_7 := Bg1.at 7 rfl
 go_wp2_with (first | ((go_at_call 33); (with_reducible refine (pushC 10 (uAdd p6 1) g_7 A1 k1 l1 hw1 (by decide) (uAdd_w Wp6 (by decide)) Wg_7 _ ⟨(Kd.C_below hr1 HS.out)⟩ hk1 hL1).mono ?_); rintro e w10 ⟨qA, qk, rfl, hk_qA, RB_qA, hF_qA, hl⟩; have NRB_qA_g0 := hF_qA.ne (NE_old ⟨hr1⟩ GEg0) Bg0; have NRB_qA_g1 := hF_qA.ne (NE_old ⟨hr1⟩ GEg1) Bg1; have NRB_qA_g2 := hF_qA.ne (NE_old ⟨hr1⟩ GEg2) Bg2; replace hF_qA := hF_qA.mono HS.le; replace Bg0 := Bg0.below hl; replace Bg1 := Bg1.below hl; replace Bg2 := Bg2.below hl; replace HS := HS.below hl; clear hl; clear kg0_1 kg0_6 kg1_7) | (refine seg_store rfl rfl 23 (.tmp 38) (.tmp 37) rfl g0 1 [.slice qA (uPush l1 10 (uAdd p6 1) g_7).length qk] [.int .i64 p0, .slice qA (uPush l1 10 (uAdd p6 1) g_7).length qk, .int .u64 p2, .int .u64 p3, .int .u64 p4, .int .u64 p5, .int .u64 (uAdd p6 1), .int .u64 p7, .int .u64 p8, .int .u64 (uHeld (uAdd p9 (p9 / 8)))] (.slice qA (uPush l1 10 (uAdd p6 1) g_7).length qk) rfl rfl rfl Bg0 (by kernel_rfl) (nle rfl) rfl rfl ?_; intro w11 hn hw; replace Bg1 := Bg1.grown hw Ng1_g0; replace Bg2 := Bg2.grown hw Ng2_g0; replace RB_qA := RB_qA.grown hw NRB_qA_g0; replace HS := HS.grown hw GEg0; replace Bg0 := hn; clear hw; have kg0_3 := Bg0.at 3 rfl; have kg1_0 := Bg1.at 0 rfl; clear hn))
 all_goals go_quiet (first | (go_at_call 30; with_reducible exact wigwagref01_AddT.Q p3 10000 Wp3 (by decide) _ _))
 all_goals (generalize hW : World.drewN w11 _ = w12; have hl : Below w11.heap.size w11 w12 := (by rw [← hW]; exact pw_below_drewN (Below.refl _ _) _); clear hW; replace Bg0 := Bg0.below hl; replace Bg1 := Bg1.below hl; replace Bg2 := Bg2.below hl; replace RB_qA := RB_qA.below hl; replace HS := HS.below hl; clear hl; clear kg0_3 kg1_0; have kg0_2 := Bg0.at 2 rfl; have kg1_5 := Bg1.at 5 rfl)
 go_wp2_with (first | (refine seg_load rfl (N := 64) rfl 26 (.tmp 2) rfl g0 0 [.int .i64 p0, .slice qA (uPush l1 10 (uAdd p6 1) g_7).length qk, .int .u64 p2, .int .u64 p3, .int .u64 p4, .int .u64 p5, .int .u64 (uAdd p6 1), .int .u64 p7, .int .u64 p8, .int .u64 (uHeld (uAdd p9 (p9 / 8)))] rfl Bg0 rfl Try.underlying26 rfl (by kernel_rfl) ?_) | (refine seg_load rfl (N := 65) rfl 28 (.tmp 3) rfl g1 0 [.int .u64 g_0, .int .u64 g_1, .int .u64 g_2, .int .u64 g_3, .int .u64 g_4, .int .u64 g_5, .int .u64 g_6, .int .u64 g_7, .bool false, .bool true] rfl Bg1 rfl Try.underlying28 rfl (by kernel_rfl) ?_) | ((go_at_call 34); (with_reducible refine (moveC p0 p2 p3 p4 p5 (uAdd p6 1) p7 p8 (uHeld (uAdd p9 (p9 / 8))) g_0 g_1 g_2 g_3 g_4 g_5 g_6 g_7 false true false qA qk (uPush l1 10 (uAdd p6 1) g_7) (wf_push hw1 (uAdd_w Wp6 (by decide)) Wg_7) Wp2 Wp3 Wp4 Wp5 (uAdd_w Wp6 (by decide)) Wp7 Wp8 (uHeld_w _) _ RB_qA.out hk_qA).mono ?_); rintro e w13 ⟨rfl, hl⟩; replace Bg0 := Bg0.below hl; replace Bg1 := Bg1.below hl; replace Bg2 := Bg2.below hl; replace RB_qA := RB_qA.below hl; replace HS := HS.below hl; clear hl; clear kg0_2 kg1_5) | (refine seg_store rfl rfl 26 (.tmp 4) (.tmp 67) rfl g2 0 [.int .i64 ((pMove p0 (uPush l1 10 (uAdd p6 1) g_7) p2 p3 p4 p5 (uAdd p6 1) p7 p8 (uHeld (uAdd p9 (p9 / 8))) g_0 g_6 false true false).1), .slice qA (uPush l1 10 (uAdd p6 1) g_7).length qk, .int .u64 p2, .int .u64 p3, .int .u64 ((pMove p0 (uPush l1 10 (uAdd p6 1) g_7) p2 p3 p4 p5 (uAdd p6 1) p7 p8 (uHeld (uAdd p9 (p9 / 8))) g_0 g_6 false true false).2.2.2.2.1), .int .u64 ((pMove p0 (uPush l1 10 (uAdd p6 1) g_7) p2 p3 p4 p5 (uAdd p6 1) p7 p8 (uHeld (uAdd p9 (p9 / 8))) g_0 g_6 false true false).2.2.2.2.2.1), .int .u64 (uAdd p6 1), .int .u64 ((pMove p0 (uPush l1 10 (uAdd p6 1) g_7) p2 p3 p4 p5 (uAdd p6 1) p7 p8 (uHeld (uAdd p9 (p9 / 8))) g_0 g_6 false true false).2.2.2.2.2.2.2.1), .int .u64 ((pMove p0 (uPush l1 10 (uAdd p6 1) g_7) p2 p3 p4 p5 (uAdd p6 1) p7 p8 (uHeld (uAdd p9 (p9 / 8))) g_0 g_6 false true false).2.2.2.2.2.2.2.2.1), .int .u64 (uHeld (uAdd p9 (p9 / 8)))] [.int .i64 ((pMove p0 (uPush l1 10 (uAdd p6 1) g_7) p2 p3 p4 p5 (uAdd p6 1) p7 p8 (uHeld (uAdd p9 (p9 / 8))) g_0 g_6 false true false).1), .slice qA (uPush l1 10 (uAdd p6 1) g_7).length qk, .int .u64 p2, .int .u64 p3, .int .u64 ((pMove p0 (uPush l1 10 (uAdd p6 1) g_7) p2 p3 p4 p5 (uAdd p6 1) p7 p8 (uHeld (uAdd p9 (p9 / 8))) g_0 g_6 false true false).2.2.2.2.1), .int .u64 ((pMove p0 (uPush l1 10 (uAdd p6 1) g_7) p2 p3 p4 p5 (uAdd p6 1) p7 p8 (uHeld (uAdd p9 (p9 / 8))) g_0 g_6 false true false).2.2.2.2.2.1), .int .u64 (uAdd p6 1), .int .u64 ((pMove p0 (uPush l1 10 (uAdd p6 1) g_7) p2 p3 p4 p5 (uAdd p6 1) p7 p8 (uHeld (uAdd p9 (p9 / 8))) g_0 g_6 false true false).2.2.2.2.2.2.2.1), .int .u64 ((pMove p0 (uPush l1 10 (uAdd p6 1) g_7) p2 p3 p4 p5 (uAdd p6 1) p7 p8 (uHeld (uAdd p9 (p9 / 8))) g_0 g_6 false true false).2.2.2.2.2.2.2.2.1), .int .u64 (uHeld (uAdd p9 (p9 / 8)))] (.agg #[.int .i64 ((pMove p0 (uPush l1 10 (uAdd p6 1) g_7) p2 p3 p4 p5 (uAdd p6 1) p7 p8 (uHeld (uAdd p9 (p9 / 8))) g_0 g_6 false true false).1), .slice qA (uPush l1 10 (uAdd p6 1) g_7).length qk, .int .u64 p2, .int .u64 p3, .int .u64 ((pMove p0 (uPush l1 10 (uAdd p6 1) g_7) p2 p3 p4 p5 (uAdd p6 1) p7 p8 (uHeld (uAdd p9 (p9 / 8))) g_0 g_6 false true false).2.2.2.2.1), .int .u64 ((pMove p0 (uPush l1 10 (uAdd p6 1) g_7) p2 p3 p4 p5 (uAdd p6 1) p7 p8 (uHeld (uAdd p9 (p9 / 8))) g_0 g_6 false true false).2.2.2.2.2.1), .int .u64 (uAdd p6 1), .int .u64 ((pMove p0 (uPush l1 10 (uAdd p6 1) g_7) p2 p3 p4 p5 (uAdd p6 1) p7 p8 (uHeld (uAdd p9 (p9 / 8))) g_0 g_6 false true false).2.2.2.2.2.2.2.1), .int .u64 ((pMove p0 (uPush l1 10 (uAdd p6 1) g_7) p2 p3 p4 p5 (uAdd p6 1) p7 p8 (uHeld (uAdd p9 (p9 / 8))) g_0 g_6 false true false).2.2.2.2.2.2.2.2.1), .int .u64 (uHeld (uAdd p9 (p9 / 8)))]) rfl rfl rfl Bg2 (by kernel_rfl) (nle rfl) rfl rfl ?_; intro w14 hn hw; replace Bg0 := Bg0.grown hw Ng2_g0.symm; replace Bg1 := Bg1.grown hw Ng2_g1.symm; replace RB_qA := RB_qA.grown hw NRB_qA_g2; replace HS := HS.grown hw GEg2; replace Bg2 := hn; clear hw; clear hn))
 all_goals exact bodyPost_ret (results_cell1 rfl _ _ g2 26 [.int .i64 ((pMove p0 (uPush l1 10 (uAdd p6 1) g_7) p2 p3 p4 p5 (uAdd p6 1) p7 p8 (uHeld (uAdd p9 (p9 / 8))) g_0 g_6 false true false).1), .slice qA (uPush l1 10 (uAdd p6 1) g_7).length qk, .int .u64 p2, .int .u64 p3, .int .u64 ((pMove p0 (uPush l1 10 (uAdd p6 1) g_7) p2 p3 p4 p5 (uAdd p6 1) p7 p8 (uHeld (uAdd p9 (p9 / 8))) g_0 g_6 false true false).2.2.2.2.1), .int .u64 ((pMove p0 (uPush l1 10 (uAdd p6 1) g_7) p2 p3 p4 p5 (uAdd p6 1) p7 p8 (uHeld (uAdd p9 (p9 / 8))) g_0 g_6 false true false).2.2.2.2.2.1), .int .u64 (uAdd p6 1), .int .u64 ((pMove p0 (uPush l1 10 (uAdd p6 1) g_7) p2 p3 p4 p5 (uAdd p6 1) p7 p8 (uHeld (uAdd p9 (p9 / 8))) g_0 g_6 false true false).2.2.2.2.2.2.2.1), .int .u64 ((pMove p0 (uPush l1 10 (uAdd p6 1) g_7) p2 p3 p4 p5 (uAdd p6 1) p7 p8 (uHeld (uAdd p9 (p9 / 8))) g_0 g_6 false true false).2.2.2.2.2.2.2.2.1), .int .u64 (uHeld (uAdd p9 (p9 / 8)))] _ rfl Bg2 Try.underlying26 rfl (by kernel_rfl)) rfl ⟨qA, qk, rfl, hk_qA, RB_qA, HS.out⟩
theorem rack_9 (p0 p2 p3 p4 p5 p6 p7 p8 p9 g_0 g_1 g_2 g_3 g_4 g_5 g_6 g_7 : Int) (A1 : Option Addr) (k1 : Nat) (Wp2 : W64 p2) (Wp3 : W64 p3) (Wp4 : W64 p4) (Wp5 : W64 p5) (Wp6 : W64 p6) (Wp7 : W64 p7) (Wp8 : W64 p8) (Wp9 : W64 p9) (Wg_0 : W64 g_0) (Wg_1 : W64 g_1) (Wg_2 : W64 g_2) (Wg_3 : W64 g_3) (Wg_4 : W64 g_4) (Wg_5 : W64 g_5) (Wg_6 : W64 g_6) (Wg_7 : W64 g_7) (w : World) (l1 : List S52) (hr1 : Kd.C k52 w A1 l1.length l1) (hk1 : l1.length ≤ k1) (hw1 : SWf l1) (hL1 : l1.length < 1000000) (h0 : (decide (uBest l1 ≤ g_7)) = true) (h1 : (decide (uAdd p3 10000 ≤ g_0)) = true) :
  Calls Try.prog 12 #[.agg #[.int .i64 p0, .slice A1 l1.length k1, .int .u64 p2, .int .u64 p3, .int .u64 p4, .int .u64 p5, .int .u64 p6, .int .u64 p7, .int .u64 p8, .int .u64 p9], .agg #[.int .u64 g_0, .int .u64 g_1, .int .u64 g_2, .int .u64 g_3, .int .u64 g_4, .int .u64 g_5, .int .u64 g_6, .int .u64 g_7, .bool true, .bool false]] w fun e w' => ∃ (qA : Option Addr) (qk : Nat), e = .returned (.agg #[.int .i64 ((pMove p0 (uPush l1 10 p6 g_7) g_5 g_0 p4 p5 p6 p7 p8 p9 g_0 g_6 true false true).1), .slice qA (uPush l1 10 p6 g_7).length qk, .int .u64 g_5, .int .u64 g_0, .int .u64 ((pMove p0 (uPush l1 10 p6 g_7) g_5 g_0 p4 p5 p6 p7 p8 p9 g_0 g_6 true false true).2.2.2.2.1), .int .u64 ((pMove p0 (uPush l1 10 p6 g_7) g_5 g_0 p4 p5 p6 p7 p8 p9 g_0 g_6 true false true).2.2.2.2.2.1), .int .u64 p6, .int .u64 ((pMove p0 (uPush l1 10 p6 g_7) g_5 g_0 p4 p5 p6 p7 p8 p9 g_0 g_6 true false true).2.2.2.2.2.2.2.1), .int .u64 ((pMove p0 (uPush l1 10 p6 g_7) g_5 g_0 p4 p5 p6 p7 p8 p9 g_0 g_6 true false true).2.2.2.2.2.2.2.2.1), .int .u64 p9]) ∧ (uPush l1 10 p6 g_7).length ≤ qk ∧ RB w' qA (uPush l1 10 p6 g_7) ∧ Below w.heap.size w w' := by
 have hu26 := Try.underlying26
 have hu28 := Try.underlying28
 have hu52 := Try.underlying52
 have HS := Since.refl w
 go_enter Try.func12, Try.ntmps12
 go_wp2_with (first | (refine seg_new rfl (N := 2) rfl [.int .i64 p0, .slice A1 l1.length k1, .int .u64 p2, .int .u64 p3, .int .u64 p4, .int .u64 p5, .int .u64 p6, .int .u64 p7, .int .u64 p8, .int .u64 p9] 26 ?hr ?_; (case hr => rfl); intro g0 hg w1 hn hl; have GEg0 := ge_new HS hg; clear hg; replace HS := HS.below hl; have Bg0 := hn; clear hl hn) | (refine seg_new rfl (N := 3) rfl [.int .u64 g_0, .int .u64 g_1, .int .u64 g_2, .int .u64 g_3, .int .u64 g_4, .int .u64 g_5, .int .u64 g_6, .int .u64 g_7, .bool true, .bool false] 28 ?hr ?_; (case hr => rfl); intro g1 hg w2 hn hl; have Ng1_g0 := ne_new Bg0 hg; have GEg1 := ge_new HS hg; clear hg; replace Bg0 := Bg0.below hl; replace HS := HS.below hl; have Bg1 := hn; clear hl hn) | (refine seg_new rfl (N := 4) rfl [.int .i64 0, .slice none 0 0, .int .u64 0, .int .u64 0, .int .u64 0, .int .u64 0, .int .u64 0, .int .u64 0, .int .u64 0, .int .u64 0] 26 ?hr ?_; (case hr => rfl); intro g2 hg w3 hn hl; have Ng2_g0 := ne_new Bg0 hg; have Ng2_g1 := ne_new Bg1 hg; have GEg2 := ge_new HS hg; clear hg; replace Bg0 := Bg0.below hl; replace Bg1 := Bg1.below hl; replace HS := HS.below hl; have Bg2 := hn; clear hl hn; have kg1_7 := Bg1.at 7 rfl; have kg1_8 := Bg1.at 8 rfl; have kg1_9 := Bg1.at 9 rfl))
 refine start_ (n := 10) (S := fun w' => w'.cell? ⟨g1, 8, none⟩ = some (.bool true) ∧ w'.cell? ⟨g1, 7, none⟩ = some (.int .u64 g_7) ∧ Blk w' g0 26 [.int .i64 p0, .slice A1 l1.length k1, .int .u64 p2, .int .u64 p3, .int .u64 p4, .int .u64 p5, .int .u64 p6, .int .u64 p7, .int .u64 p8, .int .u64 p9]) (ds := []) (bs 10 0) (by kernel_rfl) rfl rfl ⟨((Bg1.drew.cell 8).trans rfl), ((Bg1.drew.cell 7).trans rfl), Bg0.drew⟩ (fun hHeld => ?_)
 generalize hWd : World.drew w3 = w4 at hHeld ⊢
 have hl : Below w3.heap.size w3 w4 := (by rw [← hWd]; exact below_drew1 (Below.refl _ _))
 clear hWd
 replace Bg0 := Bg0.below hl; replace Bg1 := Bg1.below hl; replace Bg2 := Bg2.below hl; replace HS := HS.below hl; clear hl; replace kg1_7 := Bg1.at 7 rfl; replace kg1_8 := Bg1.at 8 rfl; replace kg1_9 := Bg1.at 9 rfl
 refine pu 0 20 (.pointer (some ⟨g1, 8, none⟩)) 1 rfl rfl (by kernel_rfl) (fun _ _ _ h => h) (by rfl) (fun _ => by kernel_rfl) rfl ?_
 refine norm_ (a' := ?_) ?_ ?_
 rotate_left
 ·simp only [Act.put, zA_, z0_, z1_, i64_w, i32_w]
  rfl
 refine take_ (i := 1) (N := some 21) (v := ?_) (a' := ?_) (bs 10 3) rfl rfl (by kernel_rfl) (fun _ _ _ h => h) (Or.inl ⟨by rfl, ?_⟩) hHeld ?_ ?_
 rotate_left
 ·rintro w' ⟨s0, s1, s2⟩
  go_simp
  with_reducible rfl
 rotate_left
 ·simp only [Act.put, zA_, z0_, z1_, i64_w, i32_w]
  rfl
 refine pure_ (i := 2) (N := some 22) (v := ?_) (a' := ?_) (bs 10 7) rfl rfl (by kernel_rfl) (fun _ _ _ h => h) (Or.inl ⟨by rfl, ?_⟩) ?_ ?_
 rotate_left
 ·intro w'
  go_simp
  with_reducible rfl
 rotate_left
 ·simp only [Act.put, zA_, z0_, z1_, i64_w, i32_w]
  rfl
 refine pure_ (i := 3) (N := some 23) (v := ?_) (a' := ?_) (bs 10 15) rfl rfl (by kernel_rfl) (fun _ _ _ h => h) (Or.inl ⟨by rfl, ?_⟩) ?_ ?_
 rotate_left
 ·intro w'
  go_simp
  with_reducible rfl
 rotate_left
 ·simp only [Act.put, zA_, z0_, z1_, i64_w, i32_w]
  rfl
 refine pu 4 24 (.pointer (some ⟨g1, 7, none⟩)) 31 rfl rfl (by kernel_rfl) (fun _ _ _ h => h) (by rfl) (fun _ => by kernel_rfl) rfl ?_
 refine norm_ (a' := ?_) ?_ ?_
 rotate_left
 ·simp only [Act.put, zA_, z0_, z1_, i64_w, i32_w]
  rfl
 refine take_ (i := 5) (N := some 25) (v := ?_) (a' := ?_) (bs 10 63) rfl rfl (by kernel_rfl) (fun _ _ _ h => h) (Or.inl ⟨by rfl, ?_⟩) hHeld ?_ ?_
 rotate_left
 ·rintro w' ⟨s0, s1, s2⟩
  go_simp
  with_reducible rfl
 rotate_left
 ·simp only [Act.put, zA_, z0_, z1_, i64_w, i32_w]
  rfl
 refine take_ (i := 6) (N := some 26) (v := .agg #[.int .i64 p0, .slice A1 l1.length k1, .int .u64 p2, .int .u64 p3, .int .u64 p4, .int .u64 p5, .int .u64 p6, .int .u64 p7, .int .u64 p8, .int .u64 p9]) (a' := ?_) (bs 10 127) rfl rfl (by kernel_rfl) (fun _ _ _ h => h) (Or.inl ⟨by rfl, ?_⟩) hHeld ?_ ?_
 ·rintro w' ⟨s0, s1, s2⟩
  exact exec_seg_load 26 (.tmp 2) (by rfl) g0 0 [.int .i64 p0, .slice A1 l1.length k1, .int .u64 p2, .int .u64 p3, .int .u64 p4, .int .u64 p5, .int .u64 p6, .int .u64 p7, .int .u64 p8, .int .u64 p9] (by rfl) s2 (by rfl) Try.underlying26 (by rfl) (by kernel_rfl)
 rotate_left
 ·simp only [Act.put, zA_, z0_, z1_, i64_w, i32_w]
  rfl
 refine one_ (i := 7) (N := some 27) (bs 10 255) rfl rfl (by kernel_rfl) (by decide) (fun K hK => ?_)
 refine goes_ Try.func32 (by kernel_rfl) rfl #[.agg #[.int .i64 p0, .slice A1 l1.length k1, .int .u64 p2, .int .u64 p3, .int .u64 p4, .int .u64 p5, .int .u64 p6, .int .u64 p7, .int .u64 p8, .int .u64 p9]] (by rfl) rfl rfl (by simp only [List.map_toArray, List.map_cons, List.map_nil]; rfl) ?_
 with_reducible refine (rbestC p0 p2 p3 p4 p5 p6 p7 p8 p9 A1 k1 l1 _ (Kd.C_below hr1 HS.out) hk1).mono ?_
 rintro e w5 ⟨rfl, hl⟩
 refine ⟨_, rfl, ?_⟩
 replace Bg0 := Bg0.below hl; replace Bg1 := Bg1.below hl; replace Bg2 := Bg2.below hl; replace HS := HS.below hl; clear hl; replace kg1_7 := Bg1.at 7 rfl; replace kg1_8 := Bg1.at 8 rfl; replace kg1_9 := Bg1.at 9 rfl
 refine hK.out _ _ ⟨((Bg1.cell 8).trans rfl), ((Bg1.cell 7).trans rfl), Bg0⟩ (fun hHeld => ?_)
 clear hK K
 refine norm_ (a' := ?_) ?_ ?_
 rotate_left
 ·show Act.put _ (some 27) _ = _
  simp only [Act.put, zA_, z0_, z1_, i64_w, i32_w]
  rfl
 refine pure_ (i := 8) (N := some 28) (v := ?_) (a' := ?_) (bs 10 511) rfl rfl (by kernel_rfl) (fun _ _ _ h => h) (Or.inl ⟨by rfl, ?_⟩) ?_ ?_
 rotate_left
 ·intro w'
  go_simp
  with_reducible rfl
 rotate_left
 ·simp only [Act.put, zA_, z0_, z1_, i64_w, i32_w]
  rfl
 refine pure_ (i := 9) (N := some 29) (v := ?_) (a' := ?_) (bs 10 1023) rfl rfl (by kernel_rfl) (fun _ _ _ h => h) (Or.inl ⟨by rfl, ?_⟩) ?_ ?_
 rotate_left
 ·intro w'
  go_simp
  with_reducible rfl
 rotate_left
 ·simp only [Act.put, zA_, z0_, z1_, i64_w, i32_w]
  rfl
 refine done_ (by kernel_rfl) ?_
 clear kg1_8 kg1_9; have kg0_1 := Bg0.at 1 rfl; have kg0_6 := Bg0.at 6 rfl; replace kg1_7 := Bg1.at 7 rfl
 go_wp2_with (first | ((go_at_call 33); (with_reducible refine (pushC 10 p6 g_7 A1 k1 l1 hw1 (by decide) Wp6 Wg_7 _ ⟨(Kd.C_below hr1 HS.out)⟩ hk1 hL1).mono ?_); rintro e w6 ⟨qA, qk, rfl, hk_qA, RB_qA, hF_qA, hl⟩; have NRB_qA_g0 := hF_qA.ne (NE_old ⟨hr1⟩ GEg0) Bg0; have NRB_qA_g1 := hF_qA.ne (NE_old ⟨hr1⟩ GEg1) Bg1; have NRB_qA_g2 := hF_qA.ne (NE_old ⟨hr1⟩ GEg2) Bg2; replace hF_qA := hF_qA.mono HS.le; replace Bg0 := Bg0.below hl; replace Bg1 := Bg1.below hl; replace Bg2 := Bg2.below hl; replace HS := HS.below hl; clear hl; clear kg0_1 kg0_6 kg1_7) | (refine seg_store rfl rfl 23 (.tmp 38) (.tmp 37) rfl g0 1 [.slice qA (uPush l1 10 p6 g_7).length qk] [.int .i64 p0, .slice qA (uPush l1 10 p6 g_7).length qk, .int .u64 p2, .int .u64 p3, .int .u64 p4, .int .u64 p5, .int .u64 p6, .int .u64 p7, .int .u64 p8, .int .u64 p9] (.slice qA (uPush l1 10 p6 g_7).length qk) rfl rfl rfl Bg0 (by kernel_rfl) (nle rfl) rfl rfl ?_; intro w7 hn hw; replace Bg1 := Bg1.grown hw Ng1_g0; replace Bg2 := Bg2.grown hw Ng2_g0; replace RB_qA := RB_qA.grown hw NRB_qA_g0; replace HS := HS.grown hw GEg0; replace Bg0 := hn; clear hw; have kg0_3 := Bg0.at 3 rfl; have kg1_0 := Bg1.at 0 rfl; clear hn))
 all_goals go_quiet (first | (go_at_call 30; with_reducible exact wigwagref01_AddT.Q p3 10000 Wp3 (by decide) _ _))
 all_goals (generalize hW : World.drewN w7 _ = w8; have hl : Below w7.heap.size w7 w8 := (by rw [← hW]; exact pw_below_drewN (Below.refl _ _) _); clear hW; replace Bg0 := Bg0.below hl; replace Bg1 := Bg1.below hl; replace Bg2 := Bg2.below hl; replace RB_qA := RB_qA.below hl; replace HS := HS.below hl; clear hl; clear kg0_3 kg1_0; have kg1_5 := Bg1.at 5 rfl)
 go_wp2_with (first | (refine seg_store rfl rfl 24 (.tmp 60) (.tmp 59) rfl g0 2 [.int .u64 g_5] [.int .i64 p0, .slice qA (uPush l1 10 p6 g_7).length qk, .int .u64 g_5, .int .u64 p3, .int .u64 p4, .int .u64 p5, .int .u64 p6, .int .u64 p7, .int .u64 p8, .int .u64 p9] (.int .u64 g_5) rfl rfl rfl Bg0 (by kernel_rfl) (nle rfl) rfl rfl ?_; intro w9 hn hw; replace Bg1 := Bg1.grown hw Ng1_g0; replace Bg2 := Bg2.grown hw Ng2_g0; replace RB_qA := RB_qA.grown hw NRB_qA_g0; replace HS := HS.grown hw GEg0; replace Bg0 := hn; clear hw; clear kg1_5; have kg1_0 := Bg1.at 0 rfl; clear hn) | (refine seg_store rfl rfl 24 (.tmp 63) (.tmp 62) rfl g0 3 [.int .u64 g_0] [.int .i64 p0, .slice qA (uPush l1 10 p6 g_7).length qk, .int .u64 g_5, .int .u64 g_0, .int .u64 p4, .int .u64 p5, .int .u64 p6, .int .u64 p7, .int .u64 p8, .int .u64 p9] (.int .u64 g_0) rfl rfl rfl Bg0 (by kernel_rfl) (nle rfl) rfl rfl ?_; intro w10 hn hw; replace Bg1 := Bg1.grown hw Ng1_g0; replace Bg2 := Bg2.grown hw Ng2_g0; replace RB_qA := RB_qA.grown hw NRB_qA_g0; replace HS := HS.grown hw GEg0; replace Bg0 := hn; clear hw; clear kg1_0; clear hn) | (refine seg_load rfl (N := 64) rfl 26 (.tmp 2) rfl g0 0 [.int .i64 p0, .slice qA (uPush l1 10 p6 g_7).length qk, .int .u64 g_5, .int .u64 g_0, .int .u64 p4, .int .u64 p5, .int .u64 p6, .int .u64 p7, .int .u64 p8, .int .u64 p9] rfl Bg0 rfl Try.underlying26 rfl (by kernel_rfl) ?_) | (refine seg_load rfl (N := 65) rfl 28 (.tmp 3) rfl g1 0 [.int .u64 g_0, .int .u64 g_1, .int .u64 g_2, .int .u64 g_3, .int .u64 g_4, .int .u64 g_5, .int .u64 g_6, .int .u64 g_7, .bool true, .bool false] rfl Bg1 rfl Try.underlying28 rfl (by kernel_rfl) ?_) | ((go_at_call 34); (with_reducible refine (moveC p0 g_5 g_0 p4 p5 p6 p7 p8 p9 g_0 g_1 g_2 g_3 g_4 g_5 g_6 g_7 true false true qA qk (uPush l1 10 p6 g_7) (wf_push hw1 Wp6 Wg_7) Wg_5 Wg_0 Wp4 Wp5 Wp6 Wp7 Wp8 Wp9 _ RB_qA.out hk_qA).mono ?_); rintro e w11 ⟨rfl, hl⟩; replace Bg0 := Bg0.below hl; replace Bg1 := Bg1.below hl; replace Bg2 := Bg2.below hl; replace RB_qA := RB_qA.below hl; replace HS := HS.below hl; clear hl) | (refine seg_store rfl rfl 26 (.tmp 4) (.tmp 67) rfl g2 0 [.int .i64 ((pMove p0 (uPush l1 10 p6 g_7) g_5 g_0 p4 p5 p6 p7 p8 p9 g_0 g_6 true false true).1), .slice qA (uPush l1 10 p6 g_7).length qk, .int .u64 g_5, .int .u64 g_0, .int .u64 ((pMove p0 (uPush l1 10 p6 g_7) g_5 g_0 p4 p5 p6 p7 p8 p9 g_0 g_6 true false true).2.2.2.2.1), .int .u64 ((pMove p0 (uPush l1 10 p6 g_7) g_5 g_0 p4 p5 p6 p7 p8 p9 g_0 g_6 true false true).2.2.2.2.2.1), .int .u64 p6, .int .u64 ((pMove p0 (uPush l1 10 p6 g_7) g_5 g_0 p4 p5 p6 p7 p8 p9 g_0 g_6 true false true).2.2.2.2.2.2.2.1), .int .u64 ((pMove p0 (uPush l1 10 p6 g_7) g_5 g_0 p4 p5 p6 p7 p8 p9 g_0 g_6 true false true).2.2.2.2.2.2.2.2.1), .int .u64 p9] [.int .i64 ((pMove p0 (uPush l1 10 p6 g_7) g_5 g_0 p4 p5 p6 p7 p8 p9 g_0 g_6 true false true).1), .slice qA (uPush l1 10 p6 g_7).length qk, .int .u64 g_5, .int .u64 g_0, .int .u64 ((pMove p0 (uPush l1 10 p6 g_7) g_5 g_0 p4 p5 p6 p7 p8 p9 g_0 g_6 true false true).2.2.2.2.1), .int .u64 ((pMove p0 (uPush l1 10 p6 g_7) g_5 g_0 p4 p5 p6 p7 p8 p9 g_0 g_6 true false true).2.2.2.2.2.1), .int .u64 p6, .int .u64 ((pMove p0 (uPush l1 10 p6 g_7) g_5 g_0 p4 p5 p6 p7 p8 p9 g_0 g_6 true false true).2.2.2.2.2.2.2.1), .int .u64 ((pMove p0 (uPush l1 10 p6 g_7) g_5 g_0 p4 p5 p6 p7 p8 p9 g_0 g_6 true false true).2.2.2.2.2.2.2.2.1), .int .u64 p9] (.agg #[.int .i64 ((pMove p0 (uPush l1 10 p6 g_7) g_5 g_0 p4 p5 p6 p7 p8 p9 g_0 g_6 true false true).1), .slice qA (uPush l1 10 p6 g_7).length qk, .int .u64 g_5, .int .u64 g_0, .int .u64 ((pMove p0 (uPush l1 10 p6 g_7) g_5 g_0 p4 p5 p6 p7 p8 p9 g_0 g_6 true false true).2.2.2.2.1), .int .u64 ((pMove p0 (uPush l1 10 p6 g_7) g_5 g_0 p4 p5 p6 p7 p8 p9 g_0 g_6 true false true).2.2.2.2.2.1), .int .u64 p6, .int .u64 ((pMove p0 (uPush l1 10 p6 g_7) g_5 g_0 p4 p5 p6 p7 p8 p9 g_0 g_6 true false true).2.2.2.2.2.2.2.1), .int .u64 ((pMove p0 (uPush l1 10 p6 g_7) g_5 g_0 p4 p5 p6 p7 p8 p9 g_0 g_6 true false true).2.2.2.2.2.2.2.2.1), .int .u64 p9]) rfl rfl rfl Bg2 (by kernel_rfl) (nle rfl) rfl rfl ?_; intro w12 hn hw; replace Bg0 := Bg0.grown hw Ng2_g0.symm; replace Bg1 := Bg1.grown hw Ng2_g1.symm; replace RB_qA := RB_qA.grown hw NRB_qA_g2; replace HS := HS.grown hw GEg2; replace Bg2 := hn; clear hw; clear hn))
 all_goals exact bodyPost_ret (results_cell1 rfl _ _ g2 26 [.int .i64 ((pMove p0 (uPush l1 10 p6 g_7) g_5 g_0 p4 p5 p6 p7 p8 p9 g_0 g_6 true false true).1), .slice qA (uPush l1 10 p6 g_7).length qk, .int .u64 g_5, .int .u64 g_0, .int .u64 ((pMove p0 (uPush l1 10 p6 g_7) g_5 g_0 p4 p5 p6 p7 p8 p9 g_0 g_6 true false true).2.2.2.2.1), .int .u64 ((pMove p0 (uPush l1 10 p6 g_7) g_5 g_0 p4 p5 p6 p7 p8 p9 g_0 g_6 true false true).2.2.2.2.2.1), .int .u64 p6, .int .u64 ((pMove p0 (uPush l1 10 p6 g_7) g_5 g_0 p4 p5 p6 p7 p8 p9 g_0 g_6 true false true).2.2.2.2.2.2.2.1), .int .u64 ((pMove p0 (uPush l1 10 p6 g_7) g_5 g_0 p4 p5 p6 p7 p8 p9 g_0 g_6 true false true).2.2.2.2.2.2.2.2.1), .int .u64 p9] _ rfl Bg2 Try.underlying26 rfl (by kernel_rfl)) rfl ⟨qA, qk, rfl, hk_qA, RB_qA, HS.out⟩
theorem rack_10 (p0 p2 p3 p4 p5 p6 p7 p8 p9 g_0 g_1 g_2 g_3 g_4 g_5 g_6 g_7 : Int) (A1 : Option Addr) (k1 : Nat) (Wp2 : W64 p2) (Wp3 : W64 p3) (Wp4 : W64 p4) (Wp5 : W64 p5) (Wp6 : W64 p6) (Wp7 : W64 p7) (Wp8 : W64 p8) (Wp9 : W64 p9) (Wg_0 : W64 g_0) (Wg_1 : W64 g_1) (Wg_2 : W64 g_2) (Wg_3 : W64 g_3) (Wg_4 : W64 g_4) (Wg_5 : W64 g_5) (Wg_6 : W64 g_6) (Wg_7 : W64 g_7) (w : World) (l1 : List S52) (hr1 : Kd.C k52 w A1 l1.length l1) (hk1 : l1.length ≤ k1) (hw1 : SWf l1) (hL1 : l1.length < 1000000) (h0 : (decide (uBest l1 ≤ g_7)) = true) (h1 : (decide (uAdd p3 10000 ≤ g_0)) = false) (h2 : (decide (g_5 < p2)) = true) :
  Calls Try.prog 12 #[.agg #[.int .i64 p0, .slice A1 l1.length k1, .int .u64 p2, .int .u64 p3, .int .u64 p4, .int .u64 p5, .int .u64 p6, .int .u64 p7, .int .u64 p8, .int .u64 p9], .agg #[.int .u64 g_0, .int .u64 g_1, .int .u64 g_2, .int .u64 g_3, .int .u64 g_4, .int .u64 g_5, .int .u64 g_6, .int .u64 g_7, .bool true, .bool false]] w fun e w' => ∃ (qA : Option Addr) (qk : Nat), e = .returned (.agg #[.int .i64 ((pMove p0 (uPush l1 10 p6 g_7) g_5 g_0 p4 p5 p6 p7 p8 p9 g_0 g_6 true false false).1), .slice qA (uPush l1 10 p6 g_7).length qk, .int .u64 g_5, .int .u64 g_0, .int .u64 ((pMove p0 (uPush l1 10 p6 g_7) g_5 g_0 p4 p5 p6 p7 p8 p9 g_0 g_6 true false false).2.2.2.2.1), .int .u64 ((pMove p0 (uPush l1 10 p6 g_7) g_5 g_0 p4 p5 p6 p7 p8 p9 g_0 g_6 true false false).2.2.2.2.2.1), .int .u64 p6, .int .u64 ((pMove p0 (uPush l1 10 p6 g_7) g_5 g_0 p4 p5 p6 p7 p8 p9 g_0 g_6 true false false).2.2.2.2.2.2.2.1), .int .u64 ((pMove p0 (uPush l1 10 p6 g_7) g_5 g_0 p4 p5 p6 p7 p8 p9 g_0 g_6 true false false).2.2.2.2.2.2.2.2.1), .int .u64 p9]) ∧ (uPush l1 10 p6 g_7).length ≤ qk ∧ RB w' qA (uPush l1 10 p6 g_7) ∧ Below w.heap.size w w' := by
 have hu26 := Try.underlying26
 have hu28 := Try.underlying28
 have hu52 := Try.underlying52
 have HS := Since.refl w
 go_enter Try.func12, Try.ntmps12
 go_wp2_with (first | (refine seg_new rfl (N := 2) rfl [.int .i64 p0, .slice A1 l1.length k1, .int .u64 p2, .int .u64 p3, .int .u64 p4, .int .u64 p5, .int .u64 p6, .int .u64 p7, .int .u64 p8, .int .u64 p9] 26 ?hr ?_; (case hr => rfl); intro g0 hg w1 hn hl; have GEg0 := ge_new HS hg; clear hg; replace HS := HS.below hl; have Bg0 := hn; clear hl hn) | (refine seg_new rfl (N := 3) rfl [.int .u64 g_0, .int .u64 g_1, .int .u64 g_2, .int .u64 g_3, .int .u64 g_4, .int .u64 g_5, .int .u64 g_6, .int .u64 g_7, .bool true, .bool false] 28 ?hr ?_; (case hr => rfl); intro g1 hg w2 hn hl; have Ng1_g0 := ne_new Bg0 hg; have GEg1 := ge_new HS hg; clear hg; replace Bg0 := Bg0.below hl; replace HS := HS.below hl; have Bg1 := hn; clear hl hn) | (refine seg_new rfl (N := 4) rfl [.int .i64 0, .slice none 0 0, .int .u64 0, .int .u64 0, .int .u64 0, .int .u64 0, .int .u64 0, .int .u64 0, .int .u64 0, .int .u64 0] 26 ?hr ?_; (case hr => rfl); intro g2 hg w3 hn hl; have Ng2_g0 := ne_new Bg0 hg; have Ng2_g1 := ne_new Bg1 hg; have GEg2 := ge_new HS hg; clear hg; replace Bg0 := Bg0.below hl; replace Bg1 := Bg1.below hl; replace HS := HS.below hl; have Bg2 := hn; clear hl hn; have kg1_7 := Bg1.at 7 rfl; have kg1_8 := Bg1.at 8 rfl; have kg1_9 := Bg1.at 9 rfl))
 refine start_ (n := 10) (S := fun w' => w'.cell? ⟨g1, 8, none⟩ = some (.bool true) ∧ w'.cell? ⟨g1, 7, none⟩ = some (.int .u64 g_7) ∧ Blk w' g0 26 [.int .i64 p0, .slice A1 l1.length k1, .int .u64 p2, .int .u64 p3, .int .u64 p4, .int .u64 p5, .int .u64 p6, .int .u64 p7, .int .u64 p8, .int .u64 p9]) (ds := []) (bs 10 0) (by kernel_rfl) rfl rfl ⟨((Bg1.drew.cell 8).trans rfl), ((Bg1.drew.cell 7).trans rfl), Bg0.drew⟩ (fun hHeld => ?_)
 generalize hWd : World.drew w3 = w4 at hHeld ⊢
 have hl : Below w3.heap.size w3 w4 := (by rw [← hWd]; exact below_drew1 (Below.refl _ _))
 clear hWd
 replace Bg0 := Bg0.below hl; replace Bg1 := Bg1.below hl; replace Bg2 := Bg2.below hl; replace HS := HS.below hl; clear hl; replace kg1_7 := Bg1.at 7 rfl; replace kg1_8 := Bg1.at 8 rfl; replace kg1_9 := Bg1.at 9 rfl
 refine pu 0 20 (.pointer (some ⟨g1, 8, none⟩)) 1 rfl rfl (by kernel_rfl) (fun _ _ _ h => h) (by rfl) (fun _ => by kernel_rfl) rfl ?_
 refine norm_ (a' := ?_) ?_ ?_
 rotate_left
 ·simp only [Act.put, zA_, z0_, z1_, i64_w, i32_w]
  rfl
 refine take_ (i := 1) (N := some 21) (v := ?_) (a' := ?_) (bs 10 3) rfl rfl (by kernel_rfl) (fun _ _ _ h => h) (Or.inl ⟨by rfl, ?_⟩) hHeld ?_ ?_
 rotate_left
 ·rintro w' ⟨s0, s1, s2⟩
  go_simp
  with_reducible rfl
 rotate_left
 ·simp only [Act.put, zA_, z0_, z1_, i64_w, i32_w]
  rfl
 refine pure_ (i := 2) (N := some 22) (v := ?_) (a' := ?_) (bs 10 7) rfl rfl (by kernel_rfl) (fun _ _ _ h => h) (Or.inl ⟨by rfl, ?_⟩) ?_ ?_
 rotate_left
 ·intro w'
  go_simp
  with_reducible rfl
 rotate_left
 ·simp only [Act.put, zA_, z0_, z1_, i64_w, i32_w]
  rfl
 refine pure_ (i := 3) (N := some 23) (v := ?_) (a' := ?_) (bs 10 15) rfl rfl (by kernel_rfl) (fun _ _ _ h => h) (Or.inl ⟨by rfl, ?_⟩) ?_ ?_
 rotate_left
 ·intro w'
  go_simp
  with_reducible rfl
 rotate_left
 ·simp only [Act.put, zA_, z0_, z1_, i64_w, i32_w]
  rfl
 refine pu 4 24 (.pointer (some ⟨g1, 7, none⟩)) 31 rfl rfl (by kernel_rfl) (fun _ _ _ h => h) (by rfl) (fun _ => by kernel_rfl) rfl ?_
 refine norm_ (a' := ?_) ?_ ?_
 rotate_left
 ·simp only [Act.put, zA_, z0_, z1_, i64_w, i32_w]
  rfl
 refine take_ (i := 5) (N := some 25) (v := ?_) (a' := ?_) (bs 10 63) rfl rfl (by kernel_rfl) (fun _ _ _ h => h) (Or.inl ⟨by rfl, ?_⟩) hHeld ?_ ?_
 rotate_left
 ·rintro w' ⟨s0, s1, s2⟩
  go_simp
  with_reducible rfl
 rotate_left
 ·simp only [Act.put, zA_, z0_, z1_, i64_w, i32_w]
  rfl
 refine take_ (i := 6) (N := some 26) (v := .agg #[.int .i64 p0, .slice A1 l1.length k1, .int .u64 p2, .int .u64 p3, .int .u64 p4, .int .u64 p5, .int .u64 p6, .int .u64 p7, .int .u64 p8, .int .u64 p9]) (a' := ?_) (bs 10 127) rfl rfl (by kernel_rfl) (fun _ _ _ h => h) (Or.inl ⟨by rfl, ?_⟩) hHeld ?_ ?_
 ·rintro w' ⟨s0, s1, s2⟩
  exact exec_seg_load 26 (.tmp 2) (by rfl) g0 0 [.int .i64 p0, .slice A1 l1.length k1, .int .u64 p2, .int .u64 p3, .int .u64 p4, .int .u64 p5, .int .u64 p6, .int .u64 p7, .int .u64 p8, .int .u64 p9] (by rfl) s2 (by rfl) Try.underlying26 (by rfl) (by kernel_rfl)
 rotate_left
 ·simp only [Act.put, zA_, z0_, z1_, i64_w, i32_w]
  rfl
 refine one_ (i := 7) (N := some 27) (bs 10 255) rfl rfl (by kernel_rfl) (by decide) (fun K hK => ?_)
 refine goes_ Try.func32 (by kernel_rfl) rfl #[.agg #[.int .i64 p0, .slice A1 l1.length k1, .int .u64 p2, .int .u64 p3, .int .u64 p4, .int .u64 p5, .int .u64 p6, .int .u64 p7, .int .u64 p8, .int .u64 p9]] (by rfl) rfl rfl (by simp only [List.map_toArray, List.map_cons, List.map_nil]; rfl) ?_
 with_reducible refine (rbestC p0 p2 p3 p4 p5 p6 p7 p8 p9 A1 k1 l1 _ (Kd.C_below hr1 HS.out) hk1).mono ?_
 rintro e w5 ⟨rfl, hl⟩
 refine ⟨_, rfl, ?_⟩
 replace Bg0 := Bg0.below hl; replace Bg1 := Bg1.below hl; replace Bg2 := Bg2.below hl; replace HS := HS.below hl; clear hl; replace kg1_7 := Bg1.at 7 rfl; replace kg1_8 := Bg1.at 8 rfl; replace kg1_9 := Bg1.at 9 rfl
 refine hK.out _ _ ⟨((Bg1.cell 8).trans rfl), ((Bg1.cell 7).trans rfl), Bg0⟩ (fun hHeld => ?_)
 clear hK K
 refine norm_ (a' := ?_) ?_ ?_
 rotate_left
 ·show Act.put _ (some 27) _ = _
  simp only [Act.put, zA_, z0_, z1_, i64_w, i32_w]
  rfl
 refine pure_ (i := 8) (N := some 28) (v := ?_) (a' := ?_) (bs 10 511) rfl rfl (by kernel_rfl) (fun _ _ _ h => h) (Or.inl ⟨by rfl, ?_⟩) ?_ ?_
 rotate_left
 ·intro w'
  go_simp
  with_reducible rfl
 rotate_left
 ·simp only [Act.put, zA_, z0_, z1_, i64_w, i32_w]
  rfl
 refine pure_ (i := 9) (N := some 29) (v := ?_) (a' := ?_) (bs 10 1023) rfl rfl (by kernel_rfl) (fun _ _ _ h => h) (Or.inl ⟨by rfl, ?_⟩) ?_ ?_
 rotate_left
 ·intro w'
  go_simp
  with_reducible rfl
 rotate_left
 ·simp only [Act.put, zA_, z0_, z1_, i64_w, i32_w]
  rfl
 refine done_ (by kernel_rfl) ?_
 clear kg1_8 kg1_9; have kg0_1 := Bg0.at 1 rfl; have kg0_6 := Bg0.at 6 rfl; replace kg1_7 := Bg1.at 7 rfl
 go_wp2_with (first | ((go_at_call 33); (with_reducible refine (pushC 10 p6 g_7 A1 k1 l1 hw1 (by decide) Wp6 Wg_7 _ ⟨(Kd.C_below hr1 HS.out)⟩ hk1 hL1).mono ?_); rintro e w6 ⟨qA, qk, rfl, hk_qA, RB_qA, hF_qA, hl⟩; have NRB_qA_g0 := hF_qA.ne (NE_old ⟨hr1⟩ GEg0) Bg0; have NRB_qA_g1 := hF_qA.ne (NE_old ⟨hr1⟩ GEg1) Bg1; have NRB_qA_g2 := hF_qA.ne (NE_old ⟨hr1⟩ GEg2) Bg2; replace hF_qA := hF_qA.mono HS.le; replace Bg0 := Bg0.below hl; replace Bg1 := Bg1.below hl; replace Bg2 := Bg2.below hl; replace HS := HS.below hl; clear hl; clear kg0_1 kg0_6 kg1_7) | (refine seg_store rfl rfl 23 (.tmp 38) (.tmp 37) rfl g0 1 [.slice qA (uPush l1 10 p6 g_7).length qk] [.int .i64 p0, .slice qA (uPush l1 10 p6 g_7).length qk, .int .u64 p2, .int .u64 p3, .int .u64 p4, .int .u64 p5, .int .u64 p6, .int .u64 p7, .int .u64 p8, .int .u64 p9] (.slice qA (uPush l1 10 p6 g_7).length qk) rfl rfl rfl Bg0 (by kernel_rfl) (nle rfl) rfl rfl ?_; intro w7 hn hw; replace Bg1 := Bg1.grown hw Ng1_g0; replace Bg2 := Bg2.grown hw Ng2_g0; replace RB_qA := RB_qA.grown hw NRB_qA_g0; replace HS := HS.grown hw GEg0; replace Bg0 := hn; clear hw; have kg0_3 := Bg0.at 3 rfl; have kg1_0 := Bg1.at 0 rfl; clear hn))
 all_goals go_quiet (first | (go_at_call 30; with_reducible exact wigwagref01_AddT.Q p3 10000 Wp3 (by decide) _ _))
 all_goals (generalize hW : World.drewN w7 _ = w8; have hl : Below w7.heap.size w7 w8 := (by rw [← hW]; exact pw_below_drewN (Below.refl _ _) _); clear hW; replace Bg0 := Bg0.below hl; replace Bg1 := Bg1.below hl; replace Bg2 := Bg2.below hl; replace RB_qA := RB_qA.below hl; replace HS := HS.below hl; clear hl; clear kg0_3 kg1_0; have kg0_2 := Bg0.at 2 rfl; have kg1_5 := Bg1.at 5 rfl)
 go_wp2_with (first | (refine seg_store rfl rfl 24 (.tmp 60) (.tmp 59) rfl g0 2 [.int .u64 g_5] [.int .i64 p0, .slice qA (uPush l1 10 p6 g_7).length qk, .int .u64 g_5, .int .u64 p3, .int .u64 p4, .int .u64 p5, .int .u64 p6, .int .u64 p7, .int .u64 p8, .int .u64 p9] (.int .u64 g_5) rfl rfl rfl Bg0 (by kernel_rfl) (nle rfl) rfl rfl ?_; intro w9 hn hw; replace Bg1 := Bg1.grown hw Ng1_g0; replace Bg2 := Bg2.grown hw Ng2_g0; replace RB_qA := RB_qA.grown hw NRB_qA_g0; replace HS := HS.grown hw GEg0; replace Bg0 := hn; clear hw; clear kg0_2 kg1_5; have kg1_0 := Bg1.at 0 rfl; clear hn) | (refine seg_store rfl rfl 24 (.tmp 63) (.tmp 62) rfl g0 3 [.int .u64 g_0] [.int .i64 p0, .slice qA (uPush l1 10 p6 g_7).length qk, .int .u64 g_5, .int .u64 g_0, .int .u64 p4, .int .u64 p5, .int .u64 p6, .int .u64 p7, .int .u64 p8, .int .u64 p9] (.int .u64 g_0) rfl rfl rfl Bg0 (by kernel_rfl) (nle rfl) rfl rfl ?_; intro w10 hn hw; replace Bg1 := Bg1.grown hw Ng1_g0; replace Bg2 := Bg2.grown hw Ng2_g0; replace RB_qA := RB_qA.grown hw NRB_qA_g0; replace HS := HS.grown hw GEg0; replace Bg0 := hn; clear hw; clear kg1_0; clear hn) | (refine seg_load rfl (N := 64) rfl 26 (.tmp 2) rfl g0 0 [.int .i64 p0, .slice qA (uPush l1 10 p6 g_7).length qk, .int .u64 g_5, .int .u64 g_0, .int .u64 p4, .int .u64 p5, .int .u64 p6, .int .u64 p7, .int .u64 p8, .int .u64 p9] rfl Bg0 rfl Try.underlying26 rfl (by kernel_rfl) ?_) | (refine seg_load rfl (N := 65) rfl 28 (.tmp 3) rfl g1 0 [.int .u64 g_0, .int .u64 g_1, .int .u64 g_2, .int .u64 g_3, .int .u64 g_4, .int .u64 g_5, .int .u64 g_6, .int .u64 g_7, .bool true, .bool false] rfl Bg1 rfl Try.underlying28 rfl (by kernel_rfl) ?_) | ((go_at_call 34); (with_reducible refine (moveC p0 g_5 g_0 p4 p5 p6 p7 p8 p9 g_0 g_1 g_2 g_3 g_4 g_5 g_6 g_7 true false false qA qk (uPush l1 10 p6 g_7) (wf_push hw1 Wp6 Wg_7) Wg_5 Wg_0 Wp4 Wp5 Wp6 Wp7 Wp8 Wp9 _ RB_qA.out hk_qA).mono ?_); rintro e w11 ⟨rfl, hl⟩; replace Bg0 := Bg0.below hl; replace Bg1 := Bg1.below hl; replace Bg2 := Bg2.below hl; replace RB_qA := RB_qA.below hl; replace HS := HS.below hl; clear hl) | (refine seg_store rfl rfl 26 (.tmp 4) (.tmp 67) rfl g2 0 [.int .i64 ((pMove p0 (uPush l1 10 p6 g_7) g_5 g_0 p4 p5 p6 p7 p8 p9 g_0 g_6 true false false).1), .slice qA (uPush l1 10 p6 g_7).length qk, .int .u64 g_5, .int .u64 g_0, .int .u64 ((pMove p0 (uPush l1 10 p6 g_7) g_5 g_0 p4 p5 p6 p7 p8 p9 g_0 g_6 true false false).2.2.2.2.1), .int .u64 ((pMove p0 (uPush l1 10 p6 g_7) g_5 g_0 p4 p5 p6 p7 p8 p9 g_0 g_6 true false false).2.2.2.2.2.1), .int .u64 p6, .int .u64 ((pMove p0 (uPush l1 10 p6 g_7) g_5 g_0 p4 p5 p6 p7 p8 p9 g_0 g_6 true false false).2.2.2.2.2.2.2.1), .int .u64 ((pMove p0 (uPush l1 10 p6 g_7) g_5 g_0 p4 p5 p6 p7 p8 p9 g_0 g_6 true false false).2.2.2.2.2.2.2.2.1), .int .u64 p9] [.int .i64 ((pMove p0 (uPush l1 10 p6 g_7) g_5 g_0 p4 p5 p6 p7 p8 p9 g_0 g_6 true false false).1), .slice qA (uPush l1 10 p6 g_7).length qk, .int .u64 g_5, .int .u64 g_0, .int .u64 ((pMove p0 (uPush l1 10 p6 g_7) g_5 g_0 p4 p5 p6 p7 p8 p9 g_0 g_6 true false false).2.2.2.2.1), .int .u64 ((pMove p0 (uPush l1 10 p6 g_7) g_5 g_0 p4 p5 p6 p7 p8 p9 g_0 g_6 true false false).2.2.2.2.2.1), .int .u64 p6, .int .u64 ((pMove p0 (uPush l1 10 p6 g_7) g_5 g_0 p4 p5 p6 p7 p8 p9 g_0 g_6 true false false).2.2.2.2.2.2.2.1), .int .u64 ((pMove p0 (uPush l1 10 p6 g_7) g_5 g_0 p4 p5 p6 p7 p8 p9 g_0 g_6 true false false).2.2.2.2.2.2.2.2.1), .int .u64 p9] (.agg #[.int .i64 ((pMove p0 (uPush l1 10 p6 g_7) g_5 g_0 p4 p5 p6 p7 p8 p9 g_0 g_6 true false false).1), .slice qA (uPush l1 10 p6 g_7).length qk, .int .u64 g_5, .int .u64 g_0, .int .u64 ((pMove p0 (uPush l1 10 p6 g_7) g_5 g_0 p4 p5 p6 p7 p8 p9 g_0 g_6 true false false).2.2.2.2.1), .int .u64 ((pMove p0 (uPush l1 10 p6 g_7) g_5 g_0 p4 p5 p6 p7 p8 p9 g_0 g_6 true false false).2.2.2.2.2.1), .int .u64 p6, .int .u64 ((pMove p0 (uPush l1 10 p6 g_7) g_5 g_0 p4 p5 p6 p7 p8 p9 g_0 g_6 true false false).2.2.2.2.2.2.2.1), .int .u64 ((pMove p0 (uPush l1 10 p6 g_7) g_5 g_0 p4 p5 p6 p7 p8 p9 g_0 g_6 true false false).2.2.2.2.2.2.2.2.1), .int .u64 p9]) rfl rfl rfl Bg2 (by kernel_rfl) (nle rfl) rfl rfl ?_; intro w12 hn hw; replace Bg0 := Bg0.grown hw Ng2_g0.symm; replace Bg1 := Bg1.grown hw Ng2_g1.symm; replace RB_qA := RB_qA.grown hw NRB_qA_g2; replace HS := HS.grown hw GEg2; replace Bg2 := hn; clear hw; clear hn))
 all_goals exact bodyPost_ret (results_cell1 rfl _ _ g2 26 [.int .i64 ((pMove p0 (uPush l1 10 p6 g_7) g_5 g_0 p4 p5 p6 p7 p8 p9 g_0 g_6 true false false).1), .slice qA (uPush l1 10 p6 g_7).length qk, .int .u64 g_5, .int .u64 g_0, .int .u64 ((pMove p0 (uPush l1 10 p6 g_7) g_5 g_0 p4 p5 p6 p7 p8 p9 g_0 g_6 true false false).2.2.2.2.1), .int .u64 ((pMove p0 (uPush l1 10 p6 g_7) g_5 g_0 p4 p5 p6 p7 p8 p9 g_0 g_6 true false false).2.2.2.2.2.1), .int .u64 p6, .int .u64 ((pMove p0 (uPush l1 10 p6 g_7) g_5 g_0 p4 p5 p6 p7 p8 p9 g_0 g_6 true false false).2.2.2.2.2.2.2.1), .int .u64 ((pMove p0 (uPush l1 10 p6 g_7) g_5 g_0 p4 p5 p6 p7 p8 p9 g_0 g_6 true false false).2.2.2.2.2.2.2.2.1), .int .u64 p9] _ rfl Bg2 Try.underlying26 rfl (by kernel_rfl)) rfl ⟨qA, qk, rfl, hk_qA, RB_qA, HS.out⟩
theorem rack_11 (p0 p2 p3 p4 p5 p6 p7 p8 p9 g_0 g_1 g_2 g_3 g_4 g_5 g_6 g_7 : Int) (A1 : Option Addr) (k1 : Nat) (Wp2 : W64 p2) (Wp3 : W64 p3) (Wp4 : W64 p4) (Wp5 : W64 p5) (Wp6 : W64 p6) (Wp7 : W64 p7) (Wp8 : W64 p8) (Wp9 : W64 p9) (Wg_0 : W64 g_0) (Wg_1 : W64 g_1) (Wg_2 : W64 g_2) (Wg_3 : W64 g_3) (Wg_4 : W64 g_4) (Wg_5 : W64 g_5) (Wg_6 : W64 g_6) (Wg_7 : W64 g_7) (w : World) (l1 : List S52) (hr1 : Kd.C k52 w A1 l1.length l1) (hk1 : l1.length ≤ k1) (hw1 : SWf l1) (hL1 : l1.length < 1000000) (h0 : (decide (uBest l1 ≤ g_7)) = true) (h1 : (decide (uAdd p3 10000 ≤ g_0)) = false) (h2 : (decide (g_5 < p2)) = false) :
  Calls Try.prog 12 #[.agg #[.int .i64 p0, .slice A1 l1.length k1, .int .u64 p2, .int .u64 p3, .int .u64 p4, .int .u64 p5, .int .u64 p6, .int .u64 p7, .int .u64 p8, .int .u64 p9], .agg #[.int .u64 g_0, .int .u64 g_1, .int .u64 g_2, .int .u64 g_3, .int .u64 g_4, .int .u64 g_5, .int .u64 g_6, .int .u64 g_7, .bool true, .bool false]] w fun e w' => ∃ (qA : Option Addr) (qk : Nat), e = .returned (.agg #[.int .i64 ((pMove p0 (uPush l1 10 p6 g_7) p2 p3 p4 p5 p6 p7 p8 p9 g_0 g_6 true false false).1), .slice qA (uPush l1 10 p6 g_7).length qk, .int .u64 p2, .int .u64 p3, .int .u64 ((pMove p0 (uPush l1 10 p6 g_7) p2 p3 p4 p5 p6 p7 p8 p9 g_0 g_6 true false false).2.2.2.2.1), .int .u64 ((pMove p0 (uPush l1 10 p6 g_7) p2 p3 p4 p5 p6 p7 p8 p9 g_0 g_6 true false false).2.2.2.2.2.1), .int .u64 p6, .int .u64 ((pMove p0 (uPush l1 10 p6 g_7) p2 p3 p4 p5 p6 p7 p8 p9 g_0 g_6 true false false).2.2.2.2.2.2.2.1), .int .u64 ((pMove p0 (uPush l1 10 p6 g_7) p2 p3 p4 p5 p6 p7 p8 p9 g_0 g_6 true false false).2.2.2.2.2.2.2.2.1), .int .u64 p9]) ∧ (uPush l1 10 p6 g_7).length ≤ qk ∧ RB w' qA (uPush l1 10 p6 g_7) ∧ Below w.heap.size w w' := by
 have hu26 := Try.underlying26
 have hu28 := Try.underlying28
 have hu52 := Try.underlying52
 have HS := Since.refl w
 go_enter Try.func12, Try.ntmps12
 go_wp2_with (first | (refine seg_new rfl (N := 2) rfl [.int .i64 p0, .slice A1 l1.length k1, .int .u64 p2, .int .u64 p3, .int .u64 p4, .int .u64 p5, .int .u64 p6, .int .u64 p7, .int .u64 p8, .int .u64 p9] 26 ?hr ?_; (case hr => rfl); intro g0 hg w1 hn hl; have GEg0 := ge_new HS hg; clear hg; replace HS := HS.below hl; have Bg0 := hn; clear hl hn) | (refine seg_new rfl (N := 3) rfl [.int .u64 g_0, .int .u64 g_1, .int .u64 g_2, .int .u64 g_3, .int .u64 g_4, .int .u64 g_5, .int .u64 g_6, .int .u64 g_7, .bool true, .bool false] 28 ?hr ?_; (case hr => rfl); intro g1 hg w2 hn hl; have Ng1_g0 := ne_new Bg0 hg; have GEg1 := ge_new HS hg; clear hg; replace Bg0 := Bg0.below hl; replace HS := HS.below hl; have Bg1 := hn; clear hl hn) | (refine seg_new rfl (N := 4) rfl [.int .i64 0, .slice none 0 0, .int .u64 0, .int .u64 0, .int .u64 0, .int .u64 0, .int .u64 0, .int .u64 0, .int .u64 0, .int .u64 0] 26 ?hr ?_; (case hr => rfl); intro g2 hg w3 hn hl; have Ng2_g0 := ne_new Bg0 hg; have Ng2_g1 := ne_new Bg1 hg; have GEg2 := ge_new HS hg; clear hg; replace Bg0 := Bg0.below hl; replace Bg1 := Bg1.below hl; replace HS := HS.below hl; have Bg2 := hn; clear hl hn; have kg1_7 := Bg1.at 7 rfl; have kg1_8 := Bg1.at 8 rfl; have kg1_9 := Bg1.at 9 rfl))
 refine start_ (n := 10) (S := fun w' => w'.cell? ⟨g1, 8, none⟩ = some (.bool true) ∧ w'.cell? ⟨g1, 7, none⟩ = some (.int .u64 g_7) ∧ Blk w' g0 26 [.int .i64 p0, .slice A1 l1.length k1, .int .u64 p2, .int .u64 p3, .int .u64 p4, .int .u64 p5, .int .u64 p6, .int .u64 p7, .int .u64 p8, .int .u64 p9]) (ds := []) (bs 10 0) (by kernel_rfl) rfl rfl ⟨((Bg1.drew.cell 8).trans rfl), ((Bg1.drew.cell 7).trans rfl), Bg0.drew⟩ (fun hHeld => ?_)
 generalize hWd : World.drew w3 = w4 at hHeld ⊢
 have hl : Below w3.heap.size w3 w4 := (by rw [← hWd]; exact below_drew1 (Below.refl _ _))
 clear hWd
 replace Bg0 := Bg0.below hl; replace Bg1 := Bg1.below hl; replace Bg2 := Bg2.below hl; replace HS := HS.below hl; clear hl; replace kg1_7 := Bg1.at 7 rfl; replace kg1_8 := Bg1.at 8 rfl; replace kg1_9 := Bg1.at 9 rfl
 refine pu 0 20 (.pointer (some ⟨g1, 8, none⟩)) 1 rfl rfl (by kernel_rfl) (fun _ _ _ h => h) (by rfl) (fun _ => by kernel_rfl) rfl ?_
 refine norm_ (a' := ?_) ?_ ?_
 rotate_left
 ·simp only [Act.put, zA_, z0_, z1_, i64_w, i32_w]
  rfl
 refine take_ (i := 1) (N := some 21) (v := ?_) (a' := ?_) (bs 10 3) rfl rfl (by kernel_rfl) (fun _ _ _ h => h) (Or.inl ⟨by rfl, ?_⟩) hHeld ?_ ?_
 rotate_left
 ·rintro w' ⟨s0, s1, s2⟩
  go_simp
  with_reducible rfl
 rotate_left
 ·simp only [Act.put, zA_, z0_, z1_, i64_w, i32_w]
  rfl
 refine pure_ (i := 2) (N := some 22) (v := ?_) (a' := ?_) (bs 10 7) rfl rfl (by kernel_rfl) (fun _ _ _ h => h) (Or.inl ⟨by rfl, ?_⟩) ?_ ?_
 rotate_left
 ·intro w'
  go_simp
  with_reducible rfl
 rotate_left
 ·simp only [Act.put, zA_, z0_, z1_, i64_w, i32_w]
  rfl
 refine pure_ (i := 3) (N := some 23) (v := ?_) (a' := ?_) (bs 10 15) rfl rfl (by kernel_rfl) (fun _ _ _ h => h) (Or.inl ⟨by rfl, ?_⟩) ?_ ?_
 rotate_left
 ·intro w'
  go_simp
  with_reducible rfl
 rotate_left
 ·simp only [Act.put, zA_, z0_, z1_, i64_w, i32_w]
  rfl
 refine pu 4 24 (.pointer (some ⟨g1, 7, none⟩)) 31 rfl rfl (by kernel_rfl) (fun _ _ _ h => h) (by rfl) (fun _ => by kernel_rfl) rfl ?_
 refine norm_ (a' := ?_) ?_ ?_
 rotate_left
 ·simp only [Act.put, zA_, z0_, z1_, i64_w, i32_w]
  rfl
 refine take_ (i := 5) (N := some 25) (v := ?_) (a' := ?_) (bs 10 63) rfl rfl (by kernel_rfl) (fun _ _ _ h => h) (Or.inl ⟨by rfl, ?_⟩) hHeld ?_ ?_
 rotate_left
 ·rintro w' ⟨s0, s1, s2⟩
  go_simp
  with_reducible rfl
 rotate_left
 ·simp only [Act.put, zA_, z0_, z1_, i64_w, i32_w]
  rfl
 refine take_ (i := 6) (N := some 26) (v := .agg #[.int .i64 p0, .slice A1 l1.length k1, .int .u64 p2, .int .u64 p3, .int .u64 p4, .int .u64 p5, .int .u64 p6, .int .u64 p7, .int .u64 p8, .int .u64 p9]) (a' := ?_) (bs 10 127) rfl rfl (by kernel_rfl) (fun _ _ _ h => h) (Or.inl ⟨by rfl, ?_⟩) hHeld ?_ ?_
 ·rintro w' ⟨s0, s1, s2⟩
  exact exec_seg_load 26 (.tmp 2) (by rfl) g0 0 [.int .i64 p0, .slice A1 l1.length k1, .int .u64 p2, .int .u64 p3, .int .u64 p4, .int .u64 p5, .int .u64 p6, .int .u64 p7, .int .u64 p8, .int .u64 p9] (by rfl) s2 (by rfl) Try.underlying26 (by rfl) (by kernel_rfl)
 rotate_left
 ·simp only [Act.put, zA_, z0_, z1_, i64_w, i32_w]
  rfl
 refine one_ (i := 7) (N := some 27) (bs 10 255) rfl rfl (by kernel_rfl) (by decide) (fun K hK => ?_)
 refine goes_ Try.func32 (by kernel_rfl) rfl #[.agg #[.int .i64 p0, .slice A1 l1.length k1, .int .u64 p2, .int .u64 p3, .int .u64 p4, .int .u64 p5, .int .u64 p6, .int .u64 p7, .int .u64 p8, .int .u64 p9]] (by rfl) rfl rfl (by simp only [List.map_toArray, List.map_cons, List.map_nil]; rfl) ?_
 with_reducible refine (rbestC p0 p2 p3 p4 p5 p6 p7 p8 p9 A1 k1 l1 _ (Kd.C_below hr1 HS.out) hk1).mono ?_
 rintro e w5 ⟨rfl, hl⟩
 refine ⟨_, rfl, ?_⟩
 replace Bg0 := Bg0.below hl; replace Bg1 := Bg1.below hl; replace Bg2 := Bg2.below hl; replace HS := HS.below hl; clear hl; replace kg1_7 := Bg1.at 7 rfl; replace kg1_8 := Bg1.at 8 rfl; replace kg1_9 := Bg1.at 9 rfl
 refine hK.out _ _ ⟨((Bg1.cell 8).trans rfl), ((Bg1.cell 7).trans rfl), Bg0⟩ (fun hHeld => ?_)
 clear hK K
 refine norm_ (a' := ?_) ?_ ?_
 rotate_left
 ·show Act.put _ (some 27) _ = _
  simp only [Act.put, zA_, z0_, z1_, i64_w, i32_w]
  rfl
 refine pure_ (i := 8) (N := some 28) (v := ?_) (a' := ?_) (bs 10 511) rfl rfl (by kernel_rfl) (fun _ _ _ h => h) (Or.inl ⟨by rfl, ?_⟩) ?_ ?_
 rotate_left
 ·intro w'
  go_simp
  with_reducible rfl
 rotate_left
 ·simp only [Act.put, zA_, z0_, z1_, i64_w, i32_w]
  rfl
 refine pure_ (i := 9) (N := some 29) (v := ?_) (a' := ?_) (bs 10 1023) rfl rfl (by kernel_rfl) (fun _ _ _ h => h) (Or.inl ⟨by rfl, ?_⟩) ?_ ?_
 rotate_left
 ·intro w'
  go_simp
  with_reducible rfl
 rotate_left
 ·simp only [Act.put, zA_, z0_, z1_, i64_w, i32_w]
  rfl
 refine done_ (by kernel_rfl) ?_
 clear kg1_8 kg1_9; have kg0_1 := Bg0.at 1 rfl; have kg0_6 := Bg0.at 6 rfl; replace kg1_7 := Bg1.at 7 rfl
 go_wp2_with (first | ((go_at_call 33); (with_reducible refine (pushC 10 p6 g_7 A1 k1 l1 hw1 (by decide) Wp6 Wg_7 _ ⟨(Kd.C_below hr1 HS.out)⟩ hk1 hL1).mono ?_); rintro e w6 ⟨qA, qk, rfl, hk_qA, RB_qA, hF_qA, hl⟩; have NRB_qA_g0 := hF_qA.ne (NE_old ⟨hr1⟩ GEg0) Bg0; have NRB_qA_g1 := hF_qA.ne (NE_old ⟨hr1⟩ GEg1) Bg1; have NRB_qA_g2 := hF_qA.ne (NE_old ⟨hr1⟩ GEg2) Bg2; replace hF_qA := hF_qA.mono HS.le; replace Bg0 := Bg0.below hl; replace Bg1 := Bg1.below hl; replace Bg2 := Bg2.below hl; replace HS := HS.below hl; clear hl; clear kg0_1 kg0_6 kg1_7) | (refine seg_store rfl rfl 23 (.tmp 38) (.tmp 37) rfl g0 1 [.slice qA (uPush l1 10 p6 g_7).length qk] [.int .i64 p0, .slice qA (uPush l1 10 p6 g_7).length qk, .int .u64 p2, .int .u64 p3, .int .u64 p4, .int .u64 p5, .int .u64 p6, .int .u64 p7, .int .u64 p8, .int .u64 p9] (.slice qA (uPush l1 10 p6 g_7).length qk) rfl rfl rfl Bg0 (by kernel_rfl) (nle rfl) rfl rfl ?_; intro w7 hn hw; replace Bg1 := Bg1.grown hw Ng1_g0; replace Bg2 := Bg2.grown hw Ng2_g0; replace RB_qA := RB_qA.grown hw NRB_qA_g0; replace HS := HS.grown hw GEg0; replace Bg0 := hn; clear hw; have kg0_3 := Bg0.at 3 rfl; have kg1_0 := Bg1.at 0 rfl; clear hn))
 all_goals go_quiet (first | (go_at_call 30; with_reducible exact wigwagref01_AddT.Q p3 10000 Wp3 (by decide) _ _))
 all_goals (generalize hW : World.drewN w7 _ = w8; have hl : Below w7.heap.size w7 w8 := (by rw [← hW]; exact pw_below_drewN (Below.refl _ _) _); clear hW; replace Bg0 := Bg0.below hl; replace Bg1 := Bg1.below hl; replace Bg2 := Bg2.below hl; replace RB_qA := RB_qA.below hl; replace HS := HS.below hl; clear hl; clear kg0_3 kg1_0; have kg0_2 := Bg0.at 2 rfl; have kg1_5 := Bg1.at 5 rfl)
 go_wp2_with (first | (refine seg_load rfl (N := 64) rfl 26 (.tmp 2) rfl g0 0 [.int .i64 p0, .slice qA (uPush l1 10 p6 g_7).length qk, .int .u64 p2, .int .u64 p3, .int .u64 p4, .int .u64 p5, .int .u64 p6, .int .u64 p7, .int .u64 p8, .int .u64 p9] rfl Bg0 rfl Try.underlying26 rfl (by kernel_rfl) ?_) | (refine seg_load rfl (N := 65) rfl 28 (.tmp 3) rfl g1 0 [.int .u64 g_0, .int .u64 g_1, .int .u64 g_2, .int .u64 g_3, .int .u64 g_4, .int .u64 g_5, .int .u64 g_6, .int .u64 g_7, .bool true, .bool false] rfl Bg1 rfl Try.underlying28 rfl (by kernel_rfl) ?_) | ((go_at_call 34); (with_reducible refine (moveC p0 p2 p3 p4 p5 p6 p7 p8 p9 g_0 g_1 g_2 g_3 g_4 g_5 g_6 g_7 true false false qA qk (uPush l1 10 p6 g_7) (wf_push hw1 Wp6 Wg_7) Wp2 Wp3 Wp4 Wp5 Wp6 Wp7 Wp8 Wp9 _ RB_qA.out hk_qA).mono ?_); rintro e w9 ⟨rfl, hl⟩; replace Bg0 := Bg0.below hl; replace Bg1 := Bg1.below hl; replace Bg2 := Bg2.below hl; replace RB_qA := RB_qA.below hl; replace HS := HS.below hl; clear hl; clear kg0_2 kg1_5) | (refine seg_store rfl rfl 26 (.tmp 4) (.tmp 67) rfl g2 0 [.int .i64 ((pMove p0 (uPush l1 10 p6 g_7) p2 p3 p4 p5 p6 p7 p8 p9 g_0 g_6 true false false).1), .slice qA (uPush l1 10 p6 g_7).length qk, .int .u64 p2, .int .u64 p3, .int .u64 ((pMove p0 (uPush l1 10 p6 g_7) p2 p3 p4 p5 p6 p7 p8 p9 g_0 g_6 true false false).2.2.2.2.1), .int .u64 ((pMove p0 (uPush l1 10 p6 g_7) p2 p3 p4 p5 p6 p7 p8 p9 g_0 g_6 true false false).2.2.2.2.2.1), .int .u64 p6, .int .u64 ((pMove p0 (uPush l1 10 p6 g_7) p2 p3 p4 p5 p6 p7 p8 p9 g_0 g_6 true false false).2.2.2.2.2.2.2.1), .int .u64 ((pMove p0 (uPush l1 10 p6 g_7) p2 p3 p4 p5 p6 p7 p8 p9 g_0 g_6 true false false).2.2.2.2.2.2.2.2.1), .int .u64 p9] [.int .i64 ((pMove p0 (uPush l1 10 p6 g_7) p2 p3 p4 p5 p6 p7 p8 p9 g_0 g_6 true false false).1), .slice qA (uPush l1 10 p6 g_7).length qk, .int .u64 p2, .int .u64 p3, .int .u64 ((pMove p0 (uPush l1 10 p6 g_7) p2 p3 p4 p5 p6 p7 p8 p9 g_0 g_6 true false false).2.2.2.2.1), .int .u64 ((pMove p0 (uPush l1 10 p6 g_7) p2 p3 p4 p5 p6 p7 p8 p9 g_0 g_6 true false false).2.2.2.2.2.1), .int .u64 p6, .int .u64 ((pMove p0 (uPush l1 10 p6 g_7) p2 p3 p4 p5 p6 p7 p8 p9 g_0 g_6 true false false).2.2.2.2.2.2.2.1), .int .u64 ((pMove p0 (uPush l1 10 p6 g_7) p2 p3 p4 p5 p6 p7 p8 p9 g_0 g_6 true false false).2.2.2.2.2.2.2.2.1), .int .u64 p9] (.agg #[.int .i64 ((pMove p0 (uPush l1 10 p6 g_7) p2 p3 p4 p5 p6 p7 p8 p9 g_0 g_6 true false false).1), .slice qA (uPush l1 10 p6 g_7).length qk, .int .u64 p2, .int .u64 p3, .int .u64 ((pMove p0 (uPush l1 10 p6 g_7) p2 p3 p4 p5 p6 p7 p8 p9 g_0 g_6 true false false).2.2.2.2.1), .int .u64 ((pMove p0 (uPush l1 10 p6 g_7) p2 p3 p4 p5 p6 p7 p8 p9 g_0 g_6 true false false).2.2.2.2.2.1), .int .u64 p6, .int .u64 ((pMove p0 (uPush l1 10 p6 g_7) p2 p3 p4 p5 p6 p7 p8 p9 g_0 g_6 true false false).2.2.2.2.2.2.2.1), .int .u64 ((pMove p0 (uPush l1 10 p6 g_7) p2 p3 p4 p5 p6 p7 p8 p9 g_0 g_6 true false false).2.2.2.2.2.2.2.2.1), .int .u64 p9]) rfl rfl rfl Bg2 (by kernel_rfl) (nle rfl) rfl rfl ?_; intro w10 hn hw; replace Bg0 := Bg0.grown hw Ng2_g0.symm; replace Bg1 := Bg1.grown hw Ng2_g1.symm; replace RB_qA := RB_qA.grown hw NRB_qA_g2; replace HS := HS.grown hw GEg2; replace Bg2 := hn; clear hw; clear hn))
 all_goals exact bodyPost_ret (results_cell1 rfl _ _ g2 26 [.int .i64 ((pMove p0 (uPush l1 10 p6 g_7) p2 p3 p4 p5 p6 p7 p8 p9 g_0 g_6 true false false).1), .slice qA (uPush l1 10 p6 g_7).length qk, .int .u64 p2, .int .u64 p3, .int .u64 ((pMove p0 (uPush l1 10 p6 g_7) p2 p3 p4 p5 p6 p7 p8 p9 g_0 g_6 true false false).2.2.2.2.1), .int .u64 ((pMove p0 (uPush l1 10 p6 g_7) p2 p3 p4 p5 p6 p7 p8 p9 g_0 g_6 true false false).2.2.2.2.2.1), .int .u64 p6, .int .u64 ((pMove p0 (uPush l1 10 p6 g_7) p2 p3 p4 p5 p6 p7 p8 p9 g_0 g_6 true false false).2.2.2.2.2.2.2.1), .int .u64 ((pMove p0 (uPush l1 10 p6 g_7) p2 p3 p4 p5 p6 p7 p8 p9 g_0 g_6 true false false).2.2.2.2.2.2.2.2.1), .int .u64 p9] _ rfl Bg2 Try.underlying26 rfl (by kernel_rfl)) rfl ⟨qA, qk, rfl, hk_qA, RB_qA, HS.out⟩
theorem rack_12 (p0 p2 p3 p4 p5 p6 p7 p8 p9 g_0 g_1 g_2 g_3 g_4 g_5 g_6 g_7 : Int) (A1 : Option Addr) (k1 : Nat) (Wp2 : W64 p2) (Wp3 : W64 p3) (Wp4 : W64 p4) (Wp5 : W64 p5) (Wp6 : W64 p6) (Wp7 : W64 p7) (Wp8 : W64 p8) (Wp9 : W64 p9) (Wg_0 : W64 g_0) (Wg_1 : W64 g_1) (Wg_2 : W64 g_2) (Wg_3 : W64 g_3) (Wg_4 : W64 g_4) (Wg_5 : W64 g_5) (Wg_6 : W64 g_6) (Wg_7 : W64 g_7) (w : World) (l1 : List S52) (hr1 : Kd.C k52 w A1 l1.length l1) (hk1 : l1.length ≤ k1) (hw1 : SWf l1) (hL1 : l1.length < 1000000) (h0 : (decide (uBest l1 ≤ g_7)) = false) (h1 : (decide (uAdd p3 10000 ≤ g_0)) = true) :
  Calls Try.prog 12 #[.agg #[.int .i64 p0, .slice A1 l1.length k1, .int .u64 p2, .int .u64 p3, .int .u64 p4, .int .u64 p5, .int .u64 p6, .int .u64 p7, .int .u64 p8, .int .u64 p9], .agg #[.int .u64 g_0, .int .u64 g_1, .int .u64 g_2, .int .u64 g_3, .int .u64 g_4, .int .u64 g_5, .int .u64 g_6, .int .u64 g_7, .bool true, .bool false]] w fun e w' => ∃ (qA : Option Addr) (qk : Nat), e = .returned (.agg #[.int .i64 ((pMove p0 l1 g_5 g_0 p4 p5 p6 p7 p8 p9 g_0 g_6 true false true).1), .slice qA l1.length qk, .int .u64 g_5, .int .u64 g_0, .int .u64 ((pMove p0 l1 g_5 g_0 p4 p5 p6 p7 p8 p9 g_0 g_6 true false true).2.2.2.2.1), .int .u64 ((pMove p0 l1 g_5 g_0 p4 p5 p6 p7 p8 p9 g_0 g_6 true false true).2.2.2.2.2.1), .int .u64 p6, .int .u64 ((pMove p0 l1 g_5 g_0 p4 p5 p6 p7 p8 p9 g_0 g_6 true false true).2.2.2.2.2.2.2.1), .int .u64 ((pMove p0 l1 g_5 g_0 p4 p5 p6 p7 p8 p9 g_0 g_6 true false true).2.2.2.2.2.2.2.2.1), .int .u64 p9]) ∧ l1.length ≤ qk ∧ RB w' qA l1 ∧ Below w.heap.size w w' := by
 have hu26 := Try.underlying26
 have hu28 := Try.underlying28
 have HS := Since.refl w
 go_enter Try.func12, Try.ntmps12
 go_wp2_with (first | (refine seg_new rfl (N := 2) rfl [.int .i64 p0, .slice A1 l1.length k1, .int .u64 p2, .int .u64 p3, .int .u64 p4, .int .u64 p5, .int .u64 p6, .int .u64 p7, .int .u64 p8, .int .u64 p9] 26 ?hr ?_; (case hr => rfl); intro g0 hg w1 hn hl; have GEg0 := ge_new HS hg; clear hg; replace HS := HS.below hl; have Bg0 := hn; clear hl hn) | (refine seg_new rfl (N := 3) rfl [.int .u64 g_0, .int .u64 g_1, .int .u64 g_2, .int .u64 g_3, .int .u64 g_4, .int .u64 g_5, .int .u64 g_6, .int .u64 g_7, .bool true, .bool false] 28 ?hr ?_; (case hr => rfl); intro g1 hg w2 hn hl; have Ng1_g0 := ne_new Bg0 hg; have GEg1 := ge_new HS hg; clear hg; replace Bg0 := Bg0.below hl; replace HS := HS.below hl; have Bg1 := hn; clear hl hn) | (refine seg_new rfl (N := 4) rfl [.int .i64 0, .slice none 0 0, .int .u64 0, .int .u64 0, .int .u64 0, .int .u64 0, .int .u64 0, .int .u64 0, .int .u64 0, .int .u64 0] 26 ?hr ?_; (case hr => rfl); intro g2 hg w3 hn hl; have Ng2_g0 := ne_new Bg0 hg; have Ng2_g1 := ne_new Bg1 hg; have GEg2 := ge_new HS hg; clear hg; replace Bg0 := Bg0.below hl; replace Bg1 := Bg1.below hl; replace HS := HS.below hl; have Bg2 := hn; clear hl hn; have kg1_7 := Bg1.at 7 rfl; have kg1_8 := Bg1.at 8 rfl; have kg1_9 := Bg1.at 9 rfl))
 refine start_ (n := 10) (S := fun w' => w'.cell? ⟨g1, 8, none⟩ = some (.bool true) ∧ w'.cell? ⟨g1, 7, none⟩ = some (.int .u64 g_7) ∧ Blk w' g0 26 [.int .i64 p0, .slice A1 l1.length k1, .int .u64 p2, .int .u64 p3, .int .u64 p4, .int .u64 p5, .int .u64 p6, .int .u64 p7, .int .u64 p8, .int .u64 p9]) (ds := []) (bs 10 0) (by kernel_rfl) rfl rfl ⟨((Bg1.drew.cell 8).trans rfl), ((Bg1.drew.cell 7).trans rfl), Bg0.drew⟩ (fun hHeld => ?_)
 generalize hWd : World.drew w3 = w4 at hHeld ⊢
 have hl : Below w3.heap.size w3 w4 := (by rw [← hWd]; exact below_drew1 (Below.refl _ _))
 clear hWd
 replace Bg0 := Bg0.below hl; replace Bg1 := Bg1.below hl; replace Bg2 := Bg2.below hl; replace HS := HS.below hl; clear hl; replace kg1_7 := Bg1.at 7 rfl; replace kg1_8 := Bg1.at 8 rfl; replace kg1_9 := Bg1.at 9 rfl
 refine pu 0 20 (.pointer (some ⟨g1, 8, none⟩)) 1 rfl rfl (by kernel_rfl) (fun _ _ _ h => h) (by rfl) (fun _ => by kernel_rfl) rfl ?_
 refine norm_ (a' := ?_) ?_ ?_
 rotate_left
 ·simp only [Act.put, zA_, z0_, z1_, i64_w, i32_w]
  rfl
 refine take_ (i := 1) (N := some 21) (v := ?_) (a' := ?_) (bs 10 3) rfl rfl (by kernel_rfl) (fun _ _ _ h => h) (Or.inl ⟨by rfl, ?_⟩) hHeld ?_ ?_
 rotate_left
 ·rintro w' ⟨s0, s1, s2⟩
  go_simp
  with_reducible rfl
 rotate_left
 ·simp only [Act.put, zA_, z0_, z1_, i64_w, i32_w]
  rfl
 refine pure_ (i := 2) (N := some 22) (v := ?_) (a' := ?_) (bs 10 7) rfl rfl (by kernel_rfl) (fun _ _ _ h => h) (Or.inl ⟨by rfl, ?_⟩) ?_ ?_
 rotate_left
 ·intro w'
  go_simp
  with_reducible rfl
 rotate_left
 ·simp only [Act.put, zA_, z0_, z1_, i64_w, i32_w]
  rfl
 refine pure_ (i := 3) (N := some 23) (v := ?_) (a' := ?_) (bs 10 15) rfl rfl (by kernel_rfl) (fun _ _ _ h => h) (Or.inl ⟨by rfl, ?_⟩) ?_ ?_
 rotate_left
 ·intro w'
  go_simp
  with_reducible rfl
 rotate_left
 ·simp only [Act.put, zA_, z0_, z1_, i64_w, i32_w]
  rfl
 refine pu 4 24 (.pointer (some ⟨g1, 7, none⟩)) 31 rfl rfl (by kernel_rfl) (fun _ _ _ h => h) (by rfl) (fun _ => by kernel_rfl) rfl ?_
 refine norm_ (a' := ?_) ?_ ?_
 rotate_left
 ·simp only [Act.put, zA_, z0_, z1_, i64_w, i32_w]
  rfl
 refine take_ (i := 5) (N := some 25) (v := ?_) (a' := ?_) (bs 10 63) rfl rfl (by kernel_rfl) (fun _ _ _ h => h) (Or.inl ⟨by rfl, ?_⟩) hHeld ?_ ?_
 rotate_left
 ·rintro w' ⟨s0, s1, s2⟩
  go_simp
  with_reducible rfl
 rotate_left
 ·simp only [Act.put, zA_, z0_, z1_, i64_w, i32_w]
  rfl
 refine take_ (i := 6) (N := some 26) (v := .agg #[.int .i64 p0, .slice A1 l1.length k1, .int .u64 p2, .int .u64 p3, .int .u64 p4, .int .u64 p5, .int .u64 p6, .int .u64 p7, .int .u64 p8, .int .u64 p9]) (a' := ?_) (bs 10 127) rfl rfl (by kernel_rfl) (fun _ _ _ h => h) (Or.inl ⟨by rfl, ?_⟩) hHeld ?_ ?_
 ·rintro w' ⟨s0, s1, s2⟩
  exact exec_seg_load 26 (.tmp 2) (by rfl) g0 0 [.int .i64 p0, .slice A1 l1.length k1, .int .u64 p2, .int .u64 p3, .int .u64 p4, .int .u64 p5, .int .u64 p6, .int .u64 p7, .int .u64 p8, .int .u64 p9] (by rfl) s2 (by rfl) Try.underlying26 (by rfl) (by kernel_rfl)
 rotate_left
 ·simp only [Act.put, zA_, z0_, z1_, i64_w, i32_w]
  rfl
 refine one_ (i := 7) (N := some 27) (bs 10 255) rfl rfl (by kernel_rfl) (by decide) (fun K hK => ?_)
 refine goes_ Try.func32 (by kernel_rfl) rfl #[.agg #[.int .i64 p0, .slice A1 l1.length k1, .int .u64 p2, .int .u64 p3, .int .u64 p4, .int .u64 p5, .int .u64 p6, .int .u64 p7, .int .u64 p8, .int .u64 p9]] (by rfl) rfl rfl (by simp only [List.map_toArray, List.map_cons, List.map_nil]; rfl) ?_
 with_reducible refine (rbestC p0 p2 p3 p4 p5 p6 p7 p8 p9 A1 k1 l1 _ (Kd.C_below hr1 HS.out) hk1).mono ?_
 rintro e w5 ⟨rfl, hl⟩
 refine ⟨_, rfl, ?_⟩
 replace Bg0 := Bg0.below hl; replace Bg1 := Bg1.below hl; replace Bg2 := Bg2.below hl; replace HS := HS.below hl; clear hl; replace kg1_7 := Bg1.at 7 rfl; replace kg1_8 := Bg1.at 8 rfl; replace kg1_9 := Bg1.at 9 rfl
 refine hK.out _ _ ⟨((Bg1.cell 8).trans rfl), ((Bg1.cell 7).trans rfl), Bg0⟩ (fun hHeld => ?_)
 clear hK K
 refine norm_ (a' := ?_) ?_ ?_
 rotate_left
 ·show Act.put _ (some 27) _ = _
  simp only [Act.put, zA_, z0_, z1_, i64_w, i32_w]
  rfl
 refine pure_ (i := 8) (N := some 28) (v := ?_) (a' := ?_) (bs 10 511) rfl rfl (by kernel_rfl) (fun _ _ _ h => h) (Or.inl ⟨by rfl, ?_⟩) ?_ ?_
 rotate_left
 ·intro w'
  go_simp
  with_reducible rfl
 rotate_left
 ·simp only [Act.put, zA_, z0_, z1_, i64_w, i32_w]
  rfl
 refine pure_ (i := 9) (N := some 29) (v := ?_) (a' := ?_) (bs 10 1023) rfl rfl (by kernel_rfl) (fun _ _ _ h => h) (Or.inl ⟨by rfl, ?_⟩) ?_ ?_
 rotate_left
 ·intro w'
  go_simp
  with_reducible rfl
 rotate_left
 ·simp only [Act.put, zA_, z0_, z1_, i64_w, i32_w]
  rfl
 refine done_ (by kernel_rfl) ?_
 clear kg1_7 kg1_8 kg1_9
 go_wp2_with (first | (refine Kd.R_lit k52 _ 52 ?hg (N := 39) ?hd (xs := ([] : List S52)) (inner := []) (ok := fun _ => True) (okp := fun _ => True) ?hr ?hp (fun _ hk => hk) trivial (Below.refl _ _) (Nat.le_refl _) (by simp) ?_; (case hd => rfl); (case hg => rfl); (case hr => first | (go_simp; done) | (go_simp; rfl)); (case hp => exact (Reps.none _ _)); intro vb w6 hRb hl hg_ hnew_; clear hg_ hnew_; have Og0 := Bg0; have Og1 := Bg1; have Og2 := Bg2; have OHS := HS; have hlb := hl; replace Bg0 := Bg0.below hl; replace Bg1 := Bg1.below hl; replace Bg2 := Bg2.below hl; replace HS := HS.below hl; clear hl; have kg0_1 := Bg0.at 1 rfl) | ((with_reducible refine gate_builtin (b := .append) (xs := #[.tmp 39, .tmp 41]) rfl ?_); at_builtin; refine Kd.R_append_rows k52 (w0 := w5) w5.heap.size rfl (.tmp 39) (.tmp 41) 23 52 (.agg #[(.int .u64 0), (.int .u64 0)]) 16 rfl Try.underlying23 info52 rfl (by decide) (by omega) vb [] l1 _ _ _ (fun _ => True) (fun _ => False) rfl rfl hRb (Kd.C_below hr1 HS.out) (fun _ _ h => h) (fun _ h => h.elim) (fun _ _ => trivial) hlb hlb.size (by simp only [List.length_nil]; omega) ?_; intro vq w7 ho hb hg_ hat_; clear hg_ hat_ hRb; simp only [List.nil_append] at ho; obtain ⟨qA, qk, rfl⟩ := Kd.R_slice ho; obtain ⟨_, hk_qA, hqC⟩ := Kd.R_reads' ho; have RB_qA : RB w7 qA l1 := ⟨hqC⟩; have hF_qA : FR w5 A1 l1 qA l1 := .inr (fun ad e hp => by obtain ⟨inner, hown⟩ := Kd.R_own ho; exact own_base hown _ (by rw [e]; rfl)); clear ho; have NRB_qA_g0 := hF_qA.ne (NE_old ⟨hr1⟩ GEg0) Og0; have NRB_qA_g1 := hF_qA.ne (NE_old ⟨hr1⟩ GEg1) Og1; have NRB_qA_g2 := hF_qA.ne (NE_old ⟨hr1⟩ GEg2) Og2; replace Bg0 := Og0.below hb; replace Bg1 := Og1.below hb; replace Bg2 := Og2.below hb; replace hF_qA := hF_qA.mono OHS.le; replace HS := OHS.below hb; clear hb hlb OHS Og0 Og1 Og2; clear kg0_1) | (refine seg_store rfl rfl 23 (.tmp 43) (.tmp 42) rfl g0 1 [.slice qA l1.length qk] [.int .i64 p0, .slice qA l1.length qk, .int .u64 p2, .int .u64 p3, .int .u64 p4, .int .u64 p5, .int .u64 p6, .int .u64 p7, .int .u64 p8, .int .u64 p9] (.slice qA l1.length qk) rfl rfl rfl Bg0 (by kernel_rfl) (nle rfl) rfl rfl ?_; intro w8 hn hw; replace Bg1 := Bg1.grown hw Ng1_g0; replace Bg2 := Bg2.grown hw Ng2_g0; replace RB_qA := RB_qA.grown hw NRB_qA_g0; replace HS := HS.grown hw GEg0; replace Bg0 := hn; clear hw; have kg0_3 := Bg0.at 3 rfl; have kg1_0 := Bg1.at 0 rfl; clear hn))
 all_goals go_quiet (first | (go_at_call 30; with_reducible exact wigwagref01_AddT.Q p3 10000 Wp3 (by decide) _ _))
 all_goals (generalize hW : World.drewN w8 _ = w9; have hl : Below w8.heap.size w8 w9 := (by rw [← hW]; exact pw_below_drewN (Below.refl _ _) _); clear hW; replace Bg0 := Bg0.below hl; replace Bg1 := Bg1.below hl; replace Bg2 := Bg2.below hl; replace RB_qA := RB_qA.below hl; replace HS := HS.below hl; clear hl; clear kg0_3 kg1_0; have kg1_5 := Bg1.at 5 rfl)
 go_wp2_with (first | (refine seg_store rfl rfl 24 (.tmp 60) (.tmp 59) rfl g0 2 [.int .u64 g_5] [.int .i64 p0, .slice qA l1.length qk, .int .u64 g_5, .int .u64 p3, .int .u64 p4, .int .u64 p5, .int .u64 p6, .int .u64 p7, .int .u64 p8, .int .u64 p9] (.int .u64 g_5) rfl rfl rfl Bg0 (by kernel_rfl) (nle rfl) rfl rfl ?_; intro w10 hn hw; replace Bg1 := Bg1.grown hw Ng1_g0; replace Bg2 := Bg2.grown hw Ng2_g0; replace RB_qA := RB_qA.grown hw NRB_qA_g0; replace HS := HS.grown hw GEg0; replace Bg0 := hn; clear hw; clear kg1_5; have kg1_0 := Bg1.at 0 rfl; clear hn) | (refine seg_store rfl rfl 24 (.tmp 63) (.tmp 62) rfl g0 3 [.int .u64 g_0] [.int .i64 p0, .slice qA l1.length qk, .int .u64 g_5, .int .u64 g_0, .int .u64 p4, .int .u64 p5, .int .u64 p6, .int .u64 p7, .int .u64 p8, .int .u64 p9] (.int .u64 g_0) rfl rfl rfl Bg0 (by kernel_rfl) (nle rfl) rfl rfl ?_; intro w11 hn hw; replace Bg1 := Bg1.grown hw Ng1_g0; replace Bg2 := Bg2.grown hw Ng2_g0; replace RB_qA := RB_qA.grown hw NRB_qA_g0; replace HS := HS.grown hw GEg0; replace Bg0 := hn; clear hw; clear kg1_0; clear hn) | (refine seg_load rfl (N := 64) rfl 26 (.tmp 2) rfl g0 0 [.int .i64 p0, .slice qA l1.length qk, .int .u64 g_5, .int .u64 g_0, .int .u64 p4, .int .u64 p5, .int .u64 p6, .int .u64 p7, .int .u64 p8, .int .u64 p9] rfl Bg0 rfl Try.underlying26 rfl (by kernel_rfl) ?_) | (refine seg_load rfl (N := 65) rfl 28 (.tmp 3) rfl g1 0 [.int .u64 g_0, .int .u64 g_1, .int .u64 g_2, .int .u64 g_3, .int .u64 g_4, .int .u64 g_5, .int .u64 g_6, .int .u64 g_7, .bool true, .bool false] rfl Bg1 rfl Try.underlying28 rfl (by kernel_rfl) ?_) | ((go_at_call 34); (with_reducible refine (moveC p0 g_5 g_0 p4 p5 p6 p7 p8 p9 g_0 g_1 g_2 g_3 g_4 g_5 g_6 g_7 true false true qA qk l1 hw1 Wg_5 Wg_0 Wp4 Wp5 Wp6 Wp7 Wp8 Wp9 _ RB_qA.out hk_qA).mono ?_); rintro e w12 ⟨rfl, hl⟩; replace Bg0 := Bg0.below hl; replace Bg1 := Bg1.below hl; replace Bg2 := Bg2.below hl; replace RB_qA := RB_qA.below hl; replace HS := HS.below hl; clear hl) | (refine seg_store rfl rfl 26 (.tmp 4) (.tmp 67) rfl g2 0 [.int .i64 ((pMove p0 l1 g_5 g_0 p4 p5 p6 p7 p8 p9 g_0 g_6 true false true).1), .slice qA l1.length qk, .int .u64 g_5, .int .u64 g_0, .int .u64 ((pMove p0 l1 g_5 g_0 p4 p5 p6 p7 p8 p9 g_0 g_6 true false true).2.2.2.2.1), .int .u64 ((pMove p0 l1 g_5 g_0 p4 p5 p6 p7 p8 p9 g_0 g_6 true false true).2.2.2.2.2.1), .int .u64 p6, .int .u64 ((pMove p0 l1 g_5 g_0 p4 p5 p6 p7 p8 p9 g_0 g_6 true false true).2.2.2.2.2.2.2.1), .int .u64 ((pMove p0 l1 g_5 g_0 p4 p5 p6 p7 p8 p9 g_0 g_6 true false true).2.2.2.2.2.2.2.2.1), .int .u64 p9] [.int .i64 ((pMove p0 l1 g_5 g_0 p4 p5 p6 p7 p8 p9 g_0 g_6 true false true).1), .slice qA l1.length qk, .int .u64 g_5, .int .u64 g_0, .int .u64 ((pMove p0 l1 g_5 g_0 p4 p5 p6 p7 p8 p9 g_0 g_6 true false true).2.2.2.2.1), .int .u64 ((pMove p0 l1 g_5 g_0 p4 p5 p6 p7 p8 p9 g_0 g_6 true false true).2.2.2.2.2.1), .int .u64 p6, .int .u64 ((pMove p0 l1 g_5 g_0 p4 p5 p6 p7 p8 p9 g_0 g_6 true false true).2.2.2.2.2.2.2.1), .int .u64 ((pMove p0 l1 g_5 g_0 p4 p5 p6 p7 p8 p9 g_0 g_6 true false true).2.2.2.2.2.2.2.2.1), .int .u64 p9] (.agg #[.int .i64 ((pMove p0 l1 g_5 g_0 p4 p5 p6 p7 p8 p9 g_0 g_6 true false true).1), .slice qA l1.length qk, .int .u64 g_5, .int .u64 g_0, .int .u64 ((pMove p0 l1 g_5 g_0 p4 p5 p6 p7 p8 p9 g_0 g_6 true false true).2.2.2.2.1), .int .u64 ((pMove p0 l1 g_5 g_0 p4 p5 p6 p7 p8 p9 g_0 g_6 true false true).2.2.2.2.2.1), .int .u64 p6, .int .u64 ((pMove p0 l1 g_5 g_0 p4 p5 p6 p7 p8 p9 g_0 g_6 true false true).2.2.2.2.2.2.2.1), .int .u64 ((pMove p0 l1 g_5 g_0 p4 p5 p6 p7 p8 p9 g_0 g_6 true false true).2.2.2.2.2.2.2.2.1), .int .u64 p9]) rfl rfl rfl Bg2 (by kernel_rfl) (nle rfl) rfl rfl ?_; intro w13 hn hw; replace Bg0 := Bg0.grown hw Ng2_g0.symm; replace Bg1 := Bg1.grown hw Ng2_g1.symm; replace RB_qA := RB_qA.grown hw NRB_qA_g2; replace HS := HS.grown hw GEg2; replace Bg2 := hn; clear hw; clear hn))
 all_goals exact bodyPost_ret (results_cell1 rfl _ _ g2 26 [.int .i64 ((pMove p0 l1 g_5 g_0 p4 p5 p6 p7 p8 p9 g_0 g_6 true false true).1), .slice qA l1.length qk, .int .u64 g_5, .int .u64 g_0, .int .u64 ((pMove p0 l1 g_5 g_0 p4 p5 p6 p7 p8 p9 g_0 g_6 true false true).2.2.2.2.1), .int .u64 ((pMove p0 l1 g_5 g_0 p4 p5 p6 p7 p8 p9 g_0 g_6 true false true).2.2.2.2.2.1), .int .u64 p6, .int .u64 ((pMove p0 l1 g_5 g_0 p4 p5 p6 p7 p8 p9 g_0 g_6 true false true).2.2.2.2.2.2.2.1), .int .u64 ((pMove p0 l1 g_5 g_0 p4 p5 p6 p7 p8 p9 g_0 g_6 true false true).2.2.2.2.2.2.2.2.1), .int .u64 p9] _ rfl Bg2 Try.underlying26 rfl (by kernel_rfl)) rfl ⟨qA, qk, rfl, hk_qA, RB_qA, HS.out⟩
theorem rack_13 (p0 p2 p3 p4 p5 p6 p7 p8 p9 g_0 g_1 g_2 g_3 g_4 g_5 g_6 g_7 : Int) (A1 : Option Addr) (k1 : Nat) (Wp2 : W64 p2) (Wp3 : W64 p3) (Wp4 : W64 p4) (Wp5 : W64 p5) (Wp6 : W64 p6) (Wp7 : W64 p7) (Wp8 : W64 p8) (Wp9 : W64 p9) (Wg_0 : W64 g_0) (Wg_1 : W64 g_1) (Wg_2 : W64 g_2) (Wg_3 : W64 g_3) (Wg_4 : W64 g_4) (Wg_5 : W64 g_5) (Wg_6 : W64 g_6) (Wg_7 : W64 g_7) (w : World) (l1 : List S52) (hr1 : Kd.C k52 w A1 l1.length l1) (hk1 : l1.length ≤ k1) (hw1 : SWf l1) (hL1 : l1.length < 1000000) (h0 : (decide (uBest l1 ≤ g_7)) = false) (h1 : (decide (uAdd p3 10000 ≤ g_0)) = false) (h2 : (decide (g_5 < p2)) = true) :
  Calls Try.prog 12 #[.agg #[.int .i64 p0, .slice A1 l1.length k1, .int .u64 p2, .int .u64 p3, .int .u64 p4, .int .u64 p5, .int .u64 p6, .int .u64 p7, .int .u64 p8, .int .u64 p9], .agg #[.int .u64 g_0, .int .u64 g_1, .int .u64 g_2, .int .u64 g_3, .int .u64 g_4, .int .u64 g_5, .int .u64 g_6, .int .u64 g_7, .bool true, .bool false]] w fun e w' => ∃ (qA : Option Addr) (qk : Nat), e = .returned (.agg #[.int .i64 ((pMove p0 l1 g_5 g_0 p4 p5 p6 p7 p8 p9 g_0 g_6 true false false).1), .slice qA l1.length qk, .int .u64 g_5, .int .u64 g_0, .int .u64 ((pMove p0 l1 g_5 g_0 p4 p5 p6 p7 p8 p9 g_0 g_6 true false false).2.2.2.2.1), .int .u64 ((pMove p0 l1 g_5 g_0 p4 p5 p6 p7 p8 p9 g_0 g_6 true false false).2.2.2.2.2.1), .int .u64 p6, .int .u64 ((pMove p0 l1 g_5 g_0 p4 p5 p6 p7 p8 p9 g_0 g_6 true false false).2.2.2.2.2.2.2.1), .int .u64 ((pMove p0 l1 g_5 g_0 p4 p5 p6 p7 p8 p9 g_0 g_6 true false false).2.2.2.2.2.2.2.2.1), .int .u64 p9]) ∧ l1.length ≤ qk ∧ RB w' qA l1 ∧ Below w.heap.size w w' := by
 have hu26 := Try.underlying26
 have hu28 := Try.underlying28
 have HS := Since.refl w
 go_enter Try.func12, Try.ntmps12
 go_wp2_with (first | (refine seg_new rfl (N := 2) rfl [.int .i64 p0, .slice A1 l1.length k1, .int .u64 p2, .int .u64 p3, .int .u64 p4, .int .u64 p5, .int .u64 p6, .int .u64 p7, .int .u64 p8, .int .u64 p9] 26 ?hr ?_; (case hr => rfl); intro g0 hg w1 hn hl; have GEg0 := ge_new HS hg; clear hg; replace HS := HS.below hl; have Bg0 := hn; clear hl hn) | (refine seg_new rfl (N := 3) rfl [.int .u64 g_0, .int .u64 g_1, .int .u64 g_2, .int .u64 g_3, .int .u64 g_4, .int .u64 g_5, .int .u64 g_6, .int .u64 g_7, .bool true, .bool false] 28 ?hr ?_; (case hr => rfl); intro g1 hg w2 hn hl; have Ng1_g0 := ne_new Bg0 hg; have GEg1 := ge_new HS hg; clear hg; replace Bg0 := Bg0.below hl; replace HS := HS.below hl; have Bg1 := hn; clear hl hn) | (refine seg_new rfl (N := 4) rfl [.int .i64 0, .slice none 0 0, .int .u64 0, .int .u64 0, .int .u64 0, .int .u64 0, .int .u64 0, .int .u64 0, .int .u64 0, .int .u64 0] 26 ?hr ?_; (case hr => rfl); intro g2 hg w3 hn hl; have Ng2_g0 := ne_new Bg0 hg; have Ng2_g1 := ne_new Bg1 hg; have GEg2 := ge_new HS hg; clear hg; replace Bg0 := Bg0.below hl; replace Bg1 := Bg1.below hl; replace HS := HS.below hl; have Bg2 := hn; clear hl hn; have kg1_7 := Bg1.at 7 rfl; have kg1_8 := Bg1.at 8 rfl; have kg1_9 := Bg1.at 9 rfl))
 refine start_ (n := 10) (S := fun w' => w'.cell? ⟨g1, 8, none⟩ = some (.bool true) ∧ w'.cell? ⟨g1, 7, none⟩ = some (.int .u64 g_7) ∧ Blk w' g0 26 [.int .i64 p0, .slice A1 l1.length k1, .int .u64 p2, .int .u64 p3, .int .u64 p4, .int .u64 p5, .int .u64 p6, .int .u64 p7, .int .u64 p8, .int .u64 p9]) (ds := []) (bs 10 0) (by kernel_rfl) rfl rfl ⟨((Bg1.drew.cell 8).trans rfl), ((Bg1.drew.cell 7).trans rfl), Bg0.drew⟩ (fun hHeld => ?_)
 generalize hWd : World.drew w3 = w4 at hHeld ⊢
 have hl : Below w3.heap.size w3 w4 := (by rw [← hWd]; exact below_drew1 (Below.refl _ _))
 clear hWd
 replace Bg0 := Bg0.below hl; replace Bg1 := Bg1.below hl; replace Bg2 := Bg2.below hl; replace HS := HS.below hl; clear hl; replace kg1_7 := Bg1.at 7 rfl; replace kg1_8 := Bg1.at 8 rfl; replace kg1_9 := Bg1.at 9 rfl
 refine pu 0 20 (.pointer (some ⟨g1, 8, none⟩)) 1 rfl rfl (by kernel_rfl) (fun _ _ _ h => h) (by rfl) (fun _ => by kernel_rfl) rfl ?_
 refine norm_ (a' := ?_) ?_ ?_
 rotate_left
 ·simp only [Act.put, zA_, z0_, z1_, i64_w, i32_w]
  rfl
 refine take_ (i := 1) (N := some 21) (v := ?_) (a' := ?_) (bs 10 3) rfl rfl (by kernel_rfl) (fun _ _ _ h => h) (Or.inl ⟨by rfl, ?_⟩) hHeld ?_ ?_
 rotate_left
 ·rintro w' ⟨s0, s1, s2⟩
  go_simp
  with_reducible rfl
 rotate_left
 ·simp only [Act.put, zA_, z0_, z1_, i64_w, i32_w]
  rfl
 refine pure_ (i := 2) (N := some 22) (v := ?_) (a' := ?_) (bs 10 7) rfl rfl (by kernel_rfl) (fun _ _ _ h => h) (Or.inl ⟨by rfl, ?_⟩) ?_ ?_
 rotate_left
 ·intro w'
  go_simp
  with_reducible rfl
 rotate_left
 ·simp only [Act.put, zA_, z0_, z1_, i64_w, i32_w]
  rfl
 refine pure_ (i := 3) (N := some 23) (v := ?_) (a' := ?_) (bs 10 15) rfl rfl (by kernel_rfl) (fun _ _ _ h => h) (Or.inl ⟨by rfl, ?_⟩) ?_ ?_
 rotate_left
 ·intro w'
  go_simp
  with_reducible rfl
 rotate_left
 ·simp only [Act.put, zA_, z0_, z1_, i64_w, i32_w]
  rfl
 refine pu 4 24 (.pointer (some ⟨g1, 7, none⟩)) 31 rfl rfl (by kernel_rfl) (fun _ _ _ h => h) (by rfl) (fun _ => by kernel_rfl) rfl ?_
 refine norm_ (a' := ?_) ?_ ?_
 rotate_left
 ·simp only [Act.put, zA_, z0_, z1_, i64_w, i32_w]
  rfl
 refine take_ (i := 5) (N := some 25) (v := ?_) (a' := ?_) (bs 10 63) rfl rfl (by kernel_rfl) (fun _ _ _ h => h) (Or.inl ⟨by rfl, ?_⟩) hHeld ?_ ?_
 rotate_left
 ·rintro w' ⟨s0, s1, s2⟩
  go_simp
  with_reducible rfl
 rotate_left
 ·simp only [Act.put, zA_, z0_, z1_, i64_w, i32_w]
  rfl
 refine take_ (i := 6) (N := some 26) (v := .agg #[.int .i64 p0, .slice A1 l1.length k1, .int .u64 p2, .int .u64 p3, .int .u64 p4, .int .u64 p5, .int .u64 p6, .int .u64 p7, .int .u64 p8, .int .u64 p9]) (a' := ?_) (bs 10 127) rfl rfl (by kernel_rfl) (fun _ _ _ h => h) (Or.inl ⟨by rfl, ?_⟩) hHeld ?_ ?_
 ·rintro w' ⟨s0, s1, s2⟩
  exact exec_seg_load 26 (.tmp 2) (by rfl) g0 0 [.int .i64 p0, .slice A1 l1.length k1, .int .u64 p2, .int .u64 p3, .int .u64 p4, .int .u64 p5, .int .u64 p6, .int .u64 p7, .int .u64 p8, .int .u64 p9] (by rfl) s2 (by rfl) Try.underlying26 (by rfl) (by kernel_rfl)
 rotate_left
 ·simp only [Act.put, zA_, z0_, z1_, i64_w, i32_w]
  rfl
 refine one_ (i := 7) (N := some 27) (bs 10 255) rfl rfl (by kernel_rfl) (by decide) (fun K hK => ?_)
 refine goes_ Try.func32 (by kernel_rfl) rfl #[.agg #[.int .i64 p0, .slice A1 l1.length k1, .int .u64 p2, .int .u64 p3, .int .u64 p4, .int .u64 p5, .int .u64 p6, .int .u64 p7, .int .u64 p8, .int .u64 p9]] (by rfl) rfl rfl (by simp only [List.map_toArray, List.map_cons, List.map_nil]; rfl) ?_
 with_reducible refine (rbestC p0 p2 p3 p4 p5 p6 p7 p8 p9 A1 k1 l1 _ (Kd.C_below hr1 HS.out) hk1).mono ?_
 rintro e w5 ⟨rfl, hl⟩
 refine ⟨_, rfl, ?_⟩
 replace Bg0 := Bg0.below hl; replace Bg1 := Bg1.below hl; replace Bg2 := Bg2.below hl; replace HS := HS.below hl; clear hl; replace kg1_7 := Bg1.at 7 rfl; replace kg1_8 := Bg1.at 8 rfl; replace kg1_9 := Bg1.at 9 rfl
 refine hK.out _ _ ⟨((Bg1.cell 8).trans rfl), ((Bg1.cell 7).trans rfl), Bg0⟩ (fun hHeld => ?_)
 clear hK K
 refine norm_ (a' := ?_) ?_ ?_
 rotate_left
 ·show Act.put _ (some 27) _ = _
  simp only [Act.put, zA_, z0_, z1_, i64_w, i32_w]
  rfl
 refine pure_ (i := 8) (N := some 28) (v := ?_) (a' := ?_) (bs 10 511) rfl rfl (by kernel_rfl) (fun _ _ _ h => h) (Or.inl ⟨by rfl, ?_⟩) ?_ ?_
 rotate_left
 ·intro w'
  go_simp
  with_reducible rfl
 rotate_left
 ·simp only [Act.put, zA_, z0_, z1_, i64_w, i32_w]
  rfl
 refine pure_ (i := 9) (N := some 29) (v := ?_) (a' := ?_) (bs 10 1023) rfl rfl (by kernel_rfl) (fun _ _ _ h => h) (Or.inl ⟨by rfl, ?_⟩) ?_ ?_
 rotate_left
 ·intro w'
  go_simp
  with_reducible rfl
 rotate_left
 ·simp only [Act.put, zA_, z0_, z1_, i64_w, i32_w]
  rfl
 refine done_ (by kernel_rfl) ?_
 clear kg1_7 kg1_8 kg1_9
 go_wp2_with (first | (refine Kd.R_lit k52 _ 52 ?hg (N := 39) ?hd (xs := ([] : List S52)) (inner := []) (ok := fun _ => True) (okp := fun _ => True) ?hr ?hp (fun _ hk => hk) trivial (Below.refl _ _) (Nat.le_refl _) (by simp) ?_; (case hd => rfl); (case hg => rfl); (case hr => first | (go_simp; done) | (go_simp; rfl)); (case hp => exact (Reps.none _ _)); intro vb w6 hRb hl hg_ hnew_; clear hg_ hnew_; have Og0 := Bg0; have Og1 := Bg1; have Og2 := Bg2; have OHS := HS; have hlb := hl; replace Bg0 := Bg0.below hl; replace Bg1 := Bg1.below hl; replace Bg2 := Bg2.below hl; replace HS := HS.below hl; clear hl; have kg0_1 := Bg0.at 1 rfl) | ((with_reducible refine gate_builtin (b := .append) (xs := #[.tmp 39, .tmp 41]) rfl ?_); at_builtin; refine Kd.R_append_rows k52 (w0 := w5) w5.heap.size rfl (.tmp 39) (.tmp 41) 23 52 (.agg #[(.int .u64 0), (.int .u64 0)]) 16 rfl Try.underlying23 info52 rfl (by decide) (by omega) vb [] l1 _ _ _ (fun _ => True) (fun _ => False) rfl rfl hRb (Kd.C_below hr1 HS.out) (fun _ _ h => h) (fun _ h => h.elim) (fun _ _ => trivial) hlb hlb.size (by simp only [List.length_nil]; omega) ?_; intro vq w7 ho hb hg_ hat_; clear hg_ hat_ hRb; simp only [List.nil_append] at ho; obtain ⟨qA, qk, rfl⟩ := Kd.R_slice ho; obtain ⟨_, hk_qA, hqC⟩ := Kd.R_reads' ho; have RB_qA : RB w7 qA l1 := ⟨hqC⟩; have hF_qA : FR w5 A1 l1 qA l1 := .inr (fun ad e hp => by obtain ⟨inner, hown⟩ := Kd.R_own ho; exact own_base hown _ (by rw [e]; rfl)); clear ho; have NRB_qA_g0 := hF_qA.ne (NE_old ⟨hr1⟩ GEg0) Og0; have NRB_qA_g1 := hF_qA.ne (NE_old ⟨hr1⟩ GEg1) Og1; have NRB_qA_g2 := hF_qA.ne (NE_old ⟨hr1⟩ GEg2) Og2; replace Bg0 := Og0.below hb; replace Bg1 := Og1.below hb; replace Bg2 := Og2.below hb; replace hF_qA := hF_qA.mono OHS.le; replace HS := OHS.below hb; clear hb hlb OHS Og0 Og1 Og2; clear kg0_1) | (refine seg_store rfl rfl 23 (.tmp 43) (.tmp 42) rfl g0 1 [.slice qA l1.length qk] [.int .i64 p0, .slice qA l1.length qk, .int .u64 p2, .int .u64 p3, .int .u64 p4, .int .u64 p5, .int .u64 p6, .int .u64 p7, .int .u64 p8, .int .u64 p9] (.slice qA l1.length qk) rfl rfl rfl Bg0 (by kernel_rfl) (nle rfl) rfl rfl ?_; intro w8 hn hw; replace Bg1 := Bg1.grown hw Ng1_g0; replace Bg2 := Bg2.grown hw Ng2_g0; replace RB_qA := RB_qA.grown hw NRB_qA_g0; replace HS := HS.grown hw GEg0; replace Bg0 := hn; clear hw; have kg0_3 := Bg0.at 3 rfl; have kg1_0 := Bg1.at 0 rfl; clear hn))
 all_goals go_quiet (first | (go_at_call 30; with_reducible exact wigwagref01_AddT.Q p3 10000 Wp3 (by decide) _ _))
 all_goals (generalize hW : World.drewN w8 _ = w9; have hl : Below w8.heap.size w8 w9 := (by rw [← hW]; exact pw_below_drewN (Below.refl _ _) _); clear hW; replace Bg0 := Bg0.below hl; replace Bg1 := Bg1.below hl; replace Bg2 := Bg2.below hl; replace RB_qA := RB_qA.below hl; replace HS := HS.below hl; clear hl; clear kg0_3 kg1_0; have kg0_2 := Bg0.at 2 rfl; have kg1_5 := Bg1.at 5 rfl)
 go_wp2_with (first | (refine seg_store rfl rfl 24 (.tmp 60) (.tmp 59) rfl g0 2 [.int .u64 g_5] [.int .i64 p0, .slice qA l1.length qk, .int .u64 g_5, .int .u64 p3, .int .u64 p4, .int .u64 p5, .int .u64 p6, .int .u64 p7, .int .u64 p8, .int .u64 p9] (.int .u64 g_5) rfl rfl rfl Bg0 (by kernel_rfl) (nle rfl) rfl rfl ?_; intro w10 hn hw; replace Bg1 := Bg1.grown hw Ng1_g0; replace Bg2 := Bg2.grown hw Ng2_g0; replace RB_qA := RB_qA.grown hw NRB_qA_g0; replace HS := HS.grown hw GEg0; replace Bg0 := hn; clear hw; clear kg0_2 kg1_5; have kg1_0 := Bg1.at 0 rfl; clear hn) | (refine seg_store rfl rfl 24 (.tmp 63) (.tmp 62) rfl g0 3 [.int .u64 g_0] [.int .i64 p0, .slice qA l1.length qk, .int .u64 g_5, .int .u64 g_0, .int .u64 p4, .int .u64 p5, .int .u64 p6, .int .u64 p7, .int .u64 p8, .int .u64 p9] (.int .u64 g_0) rfl rfl rfl Bg0 (by kernel_rfl) (nle rfl) rfl rfl ?_; intro w11 hn hw; replace Bg1 := Bg1.grown hw Ng1_g0; replace Bg2 := Bg2.grown hw Ng2_g0; replace RB_qA := RB_qA.grown hw NRB_qA_g0; replace HS := HS.grown hw GEg0; replace Bg0 := hn; clear hw; clear kg1_0; clear hn) | (refine seg_load rfl (N := 64) rfl 26 (.tmp 2) rfl g0 0 [.int .i64 p0, .slice qA l1.length qk, .int .u64 g_5, .int .u64 g_0, .int .u64 p4, .int .u64 p5, .int .u64 p6, .int .u64 p7, .int .u64 p8, .int .u64 p9] rfl Bg0 rfl Try.underlying26 rfl (by kernel_rfl) ?_) | (refine seg_load rfl (N := 65) rfl 28 (.tmp 3) rfl g1 0 [.int .u64 g_0, .int .u64 g_1, .int .u64 g_2, .int .u64 g_3, .int .u64 g_4, .int .u64 g_5, .int .u64 g_6, .int .u64 g_7, .bool true, .bool false] rfl Bg1 rfl Try.underlying28 rfl (by kernel_rfl) ?_) | ((go_at_call 34); (with_reducible refine (moveC p0 g_5 g_0 p4 p5 p6 p7 p8 p9 g_0 g_1 g_2 g_3 g_4 g_5 g_6 g_7 true false false qA qk l1 hw1 Wg_5 Wg_0 Wp4 Wp5 Wp6 Wp7 Wp8 Wp9 _ RB_qA.out hk_qA).mono ?_); rintro e w12 ⟨rfl, hl⟩; replace Bg0 := Bg0.below hl; replace Bg1 := Bg1.below hl; replace Bg2 := Bg2.below hl; replace RB_qA := RB_qA.below hl; replace HS := HS.below hl; clear hl) | (refine seg_store rfl rfl 26 (.tmp 4) (.tmp 67) rfl g2 0 [.int .i64 ((pMove p0 l1 g_5 g_0 p4 p5 p6 p7 p8 p9 g_0 g_6 true false false).1), .slice qA l1.length qk, .int .u64 g_5, .int .u64 g_0, .int .u64 ((pMove p0 l1 g_5 g_0 p4 p5 p6 p7 p8 p9 g_0 g_6 true false false).2.2.2.2.1), .int .u64 ((pMove p0 l1 g_5 g_0 p4 p5 p6 p7 p8 p9 g_0 g_6 true false false).2.2.2.2.2.1), .int .u64 p6, .int .u64 ((pMove p0 l1 g_5 g_0 p4 p5 p6 p7 p8 p9 g_0 g_6 true false false).2.2.2.2.2.2.2.1), .int .u64 ((pMove p0 l1 g_5 g_0 p4 p5 p6 p7 p8 p9 g_0 g_6 true false false).2.2.2.2.2.2.2.2.1), .int .u64 p9] [.int .i64 ((pMove p0 l1 g_5 g_0 p4 p5 p6 p7 p8 p9 g_0 g_6 true false false).1), .slice qA l1.length qk, .int .u64 g_5, .int .u64 g_0, .int .u64 ((pMove p0 l1 g_5 g_0 p4 p5 p6 p7 p8 p9 g_0 g_6 true false false).2.2.2.2.1), .int .u64 ((pMove p0 l1 g_5 g_0 p4 p5 p6 p7 p8 p9 g_0 g_6 true false false).2.2.2.2.2.1), .int .u64 p6, .int .u64 ((pMove p0 l1 g_5 g_0 p4 p5 p6 p7 p8 p9 g_0 g_6 true false false).2.2.2.2.2.2.2.1), .int .u64 ((pMove p0 l1 g_5 g_0 p4 p5 p6 p7 p8 p9 g_0 g_6 true false false).2.2.2.2.2.2.2.2.1), .int .u64 p9] (.agg #[.int .i64 ((pMove p0 l1 g_5 g_0 p4 p5 p6 p7 p8 p9 g_0 g_6 true false false).1), .slice qA l1.length qk, .int .u64 g_5, .int .u64 g_0, .int .u64 ((pMove p0 l1 g_5 g_0 p4 p5 p6 p7 p8 p9 g_0 g_6 true false false).2.2.2.2.1), .int .u64 ((pMove p0 l1 g_5 g_0 p4 p5 p6 p7 p8 p9 g_0 g_6 true false false).2.2.2.2.2.1), .int .u64 p6, .int .u64 ((pMove p0 l1 g_5 g_0 p4 p5 p6 p7 p8 p9 g_0 g_6 true false false).2.2.2.2.2.2.2.1), .int .u64 ((pMove p0 l1 g_5 g_0 p4 p5 p6 p7 p8 p9 g_0 g_6 true false false).2.2.2.2.2.2.2.2.1), .int .u64 p9]) rfl rfl rfl Bg2 (by kernel_rfl) (nle rfl) rfl rfl ?_; intro w13 hn hw; replace Bg0 := Bg0.grown hw Ng2_g0.symm; replace Bg1 := Bg1.grown hw Ng2_g1.symm; replace RB_qA := RB_qA.grown hw NRB_qA_g2; replace HS := HS.grown hw GEg2; replace Bg2 := hn; clear hw; clear hn))
 all_goals exact bodyPost_ret (results_cell1 rfl _ _ g2 26 [.int .i64 ((pMove p0 l1 g_5 g_0 p4 p5 p6 p7 p8 p9 g_0 g_6 true false false).1), .slice qA l1.length qk, .int .u64 g_5, .int .u64 g_0, .int .u64 ((pMove p0 l1 g_5 g_0 p4 p5 p6 p7 p8 p9 g_0 g_6 true false false).2.2.2.2.1), .int .u64 ((pMove p0 l1 g_5 g_0 p4 p5 p6 p7 p8 p9 g_0 g_6 true false false).2.2.2.2.2.1), .int .u64 p6, .int .u64 ((pMove p0 l1 g_5 g_0 p4 p5 p6 p7 p8 p9 g_0 g_6 true false false).2.2.2.2.2.2.2.1), .int .u64 ((pMove p0 l1 g_5 g_0 p4 p5 p6 p7 p8 p9 g_0 g_6 true false false).2.2.2.2.2.2.2.2.1), .int .u64 p9] _ rfl Bg2 Try.underlying26 rfl (by kernel_rfl)) rfl ⟨qA, qk, rfl, hk_qA, RB_qA, HS.out⟩
theorem rack_14 (p0 p2 p3 p4 p5 p6 p7 p8 p9 g_0 g_1 g_2 g_3 g_4 g_5 g_6 g_7 : Int) (A1 : Option Addr) (k1 : Nat) (Wp2 : W64 p2) (Wp3 : W64 p3) (Wp4 : W64 p4) (Wp5 : W64 p5) (Wp6 : W64 p6) (Wp7 : W64 p7) (Wp8 : W64 p8) (Wp9 : W64 p9) (Wg_0 : W64 g_0) (Wg_1 : W64 g_1) (Wg_2 : W64 g_2) (Wg_3 : W64 g_3) (Wg_4 : W64 g_4) (Wg_5 : W64 g_5) (Wg_6 : W64 g_6) (Wg_7 : W64 g_7) (w : World) (l1 : List S52) (hr1 : Kd.C k52 w A1 l1.length l1) (hk1 : l1.length ≤ k1) (hw1 : SWf l1) (hL1 : l1.length < 1000000) (h0 : (decide (uBest l1 ≤ g_7)) = false) (h1 : (decide (uAdd p3 10000 ≤ g_0)) = false) (h2 : (decide (g_5 < p2)) = false) :
  Calls Try.prog 12 #[.agg #[.int .i64 p0, .slice A1 l1.length k1, .int .u64 p2, .int .u64 p3, .int .u64 p4, .int .u64 p5, .int .u64 p6, .int .u64 p7, .int .u64 p8, .int .u64 p9], .agg #[.int .u64 g_0, .int .u64 g_1, .int .u64 g_2, .int .u64 g_3, .int .u64 g_4, .int .u64 g_5, .int .u64 g_6, .int .u64 g_7, .bool true, .bool false]] w fun e w' => ∃ (qA : Option Addr) (qk : Nat), e = .returned (.agg #[.int .i64 ((pMove p0 l1 p2 p3 p4 p5 p6 p7 p8 p9 g_0 g_6 true false false).1), .slice qA l1.length qk, .int .u64 p2, .int .u64 p3, .int .u64 ((pMove p0 l1 p2 p3 p4 p5 p6 p7 p8 p9 g_0 g_6 true false false).2.2.2.2.1), .int .u64 ((pMove p0 l1 p2 p3 p4 p5 p6 p7 p8 p9 g_0 g_6 true false false).2.2.2.2.2.1), .int .u64 p6, .int .u64 ((pMove p0 l1 p2 p3 p4 p5 p6 p7 p8 p9 g_0 g_6 true false false).2.2.2.2.2.2.2.1), .int .u64 ((pMove p0 l1 p2 p3 p4 p5 p6 p7 p8 p9 g_0 g_6 true false false).2.2.2.2.2.2.2.2.1), .int .u64 p9]) ∧ l1.length ≤ qk ∧ RB w' qA l1 ∧ Below w.heap.size w w' := by
 have hu26 := Try.underlying26
 have hu28 := Try.underlying28
 have HS := Since.refl w
 go_enter Try.func12, Try.ntmps12
 go_wp2_with (first | (refine seg_new rfl (N := 2) rfl [.int .i64 p0, .slice A1 l1.length k1, .int .u64 p2, .int .u64 p3, .int .u64 p4, .int .u64 p5, .int .u64 p6, .int .u64 p7, .int .u64 p8, .int .u64 p9] 26 ?hr ?_; (case hr => rfl); intro g0 hg w1 hn hl; have GEg0 := ge_new HS hg; clear hg; replace HS := HS.below hl; have Bg0 := hn; clear hl hn) | (refine seg_new rfl (N := 3) rfl [.int .u64 g_0, .int .u64 g_1, .int .u64 g_2, .int .u64 g_3, .int .u64 g_4, .int .u64 g_5, .int .u64 g_6, .int .u64 g_7, .bool true, .bool false] 28 ?hr ?_; (case hr => rfl); intro g1 hg w2 hn hl; have Ng1_g0 := ne_new Bg0 hg; have GEg1 := ge_new HS hg; clear hg; replace Bg0 := Bg0.below hl; replace HS := HS.below hl; have Bg1 := hn; clear hl hn) | (refine seg_new rfl (N := 4) rfl [.int .i64 0, .slice none 0 0, .int .u64 0, .int .u64 0, .int .u64 0, .int .u64 0, .int .u64 0, .int .u64 0, .int .u64 0, .int .u64 0] 26 ?hr ?_; (case hr => rfl); intro g2 hg w3 hn hl; have Ng2_g0 := ne_new Bg0 hg; have Ng2_g1 := ne_new Bg1 hg; have GEg2 := ge_new HS hg; clear hg; replace Bg0 := Bg0.below hl; replace Bg1 := Bg1.below hl; replace HS := HS.below hl; have Bg2 := hn; clear hl hn; have kg1_7 := Bg1.at 7 rfl; have kg1_8 := Bg1.at 8 rfl; have kg1_9 := Bg1.at 9 rfl))
 refine start_ (n := 10) (S := fun w' => w'.cell? ⟨g1, 8, none⟩ = some (.bool true) ∧ w'.cell? ⟨g1, 7, none⟩ = some (.int .u64 g_7) ∧ Blk w' g0 26 [.int .i64 p0, .slice A1 l1.length k1, .int .u64 p2, .int .u64 p3, .int .u64 p4, .int .u64 p5, .int .u64 p6, .int .u64 p7, .int .u64 p8, .int .u64 p9]) (ds := []) (bs 10 0) (by kernel_rfl) rfl rfl ⟨((Bg1.drew.cell 8).trans rfl), ((Bg1.drew.cell 7).trans rfl), Bg0.drew⟩ (fun hHeld => ?_)
 generalize hWd : World.drew w3 = w4 at hHeld ⊢
 have hl : Below w3.heap.size w3 w4 := (by rw [← hWd]; exact below_drew1 (Below.refl _ _))
 clear hWd
 replace Bg0 := Bg0.below hl; replace Bg1 := Bg1.below hl; replace Bg2 := Bg2.below hl; replace HS := HS.below hl; clear hl; replace kg1_7 := Bg1.at 7 rfl; replace kg1_8 := Bg1.at 8 rfl; replace kg1_9 := Bg1.at 9 rfl
 refine pu 0 20 (.pointer (some ⟨g1, 8, none⟩)) 1 rfl rfl (by kernel_rfl) (fun _ _ _ h => h) (by rfl) (fun _ => by kernel_rfl) rfl ?_
 refine norm_ (a' := ?_) ?_ ?_
 rotate_left
 ·simp only [Act.put, zA_, z0_, z1_, i64_w, i32_w]
  rfl
 refine take_ (i := 1) (N := some 21) (v := ?_) (a' := ?_) (bs 10 3) rfl rfl (by kernel_rfl) (fun _ _ _ h => h) (Or.inl ⟨by rfl, ?_⟩) hHeld ?_ ?_
 rotate_left
 ·rintro w' ⟨s0, s1, s2⟩
  go_simp
  with_reducible rfl
 rotate_left
 ·simp only [Act.put, zA_, z0_, z1_, i64_w, i32_w]
  rfl
 refine pure_ (i := 2) (N := some 22) (v := ?_) (a' := ?_) (bs 10 7) rfl rfl (by kernel_rfl) (fun _ _ _ h => h) (Or.inl ⟨by rfl, ?_⟩) ?_ ?_
 rotate_left
 ·intro w'
  go_simp
  with_reducible rfl
 rotate_left
 ·simp only [Act.put, zA_, z0_, z1_, i64_w, i32_w]
  rfl
 refine pure_ (i := 3) (N := some 23) (v := ?_) (a' := ?_) (bs 10 15) rfl rfl (by kernel_rfl) (fun _ _ _ h => h) (Or.inl ⟨by rfl, ?_⟩) ?_ ?_
 rotate_left
 ·intro w'
  go_simp
  with_reducible rfl
 rotate_left
 ·simp only [Act.put, zA_, z0_, z1_, i64_w, i32_w]
  rfl
 refine pu 4 24 (.pointer (some ⟨g1, 7, none⟩)) 31 rfl rfl (by kernel_rfl) (fun _ _ _ h => h) (by rfl) (fun _ => by kernel_rfl) rfl ?_
 refine norm_ (a' := ?_) ?_ ?_
 rotate_left
 ·simp only [Act.put, zA_, z0_, z1_, i64_w, i32_w]
  rfl
 refine take_ (i := 5) (N := some 25) (v := ?_) (a' := ?_) (bs 10 63) rfl rfl (by kernel_rfl) (fun _ _ _ h => h) (Or.inl ⟨by rfl, ?_⟩) hHeld ?_ ?_
 rotate_left
 ·rintro w' ⟨s0, s1, s2⟩
  go_simp
  with_reducible rfl
 rotate_left
 ·simp only [Act.put, zA_, z0_, z1_, i64_w, i32_w]
  rfl
 refine take_ (i := 6) (N := some 26) (v := .agg #[.int .i64 p0, .slice A1 l1.length k1, .int .u64 p2, .int .u64 p3, .int .u64 p4, .int .u64 p5, .int .u64 p6, .int .u64 p7, .int .u64 p8, .int .u64 p9]) (a' := ?_) (bs 10 127) rfl rfl (by kernel_rfl) (fun _ _ _ h => h) (Or.inl ⟨by rfl, ?_⟩) hHeld ?_ ?_
 ·rintro w' ⟨s0, s1, s2⟩
  exact exec_seg_load 26 (.tmp 2) (by rfl) g0 0 [.int .i64 p0, .slice A1 l1.length k1, .int .u64 p2, .int .u64 p3, .int .u64 p4, .int .u64 p5, .int .u64 p6, .int .u64 p7, .int .u64 p8, .int .u64 p9] (by rfl) s2 (by rfl) Try.underlying26 (by rfl) (by kernel_rfl)
 rotate_left
 ·simp only [Act.put, zA_, z0_, z1_, i64_w, i32_w]
  rfl
 refine one_ (i := 7) (N := some 27) (bs 10 255) rfl rfl (by kernel_rfl) (by decide) (fun K hK => ?_)
 refine goes_ Try.func32 (by kernel_rfl) rfl #[.agg #[.int .i64 p0, .slice A1 l1.length k1, .int .u64 p2, .int .u64 p3, .int .u64 p4, .int .u64 p5, .int .u64 p6, .int .u64 p7, .int .u64 p8, .int .u64 p9]] (by rfl) rfl rfl (by simp only [List.map_toArray, List.map_cons, List.map_nil]; rfl) ?_
 with_reducible refine (rbestC p0 p2 p3 p4 p5 p6 p7 p8 p9 A1 k1 l1 _ (Kd.C_below hr1 HS.out) hk1).mono ?_
 rintro e w5 ⟨rfl, hl⟩
 refine ⟨_, rfl, ?_⟩
 replace Bg0 := Bg0.below hl; replace Bg1 := Bg1.below hl; replace Bg2 := Bg2.below hl; replace HS := HS.below hl; clear hl; replace kg1_7 := Bg1.at 7 rfl; replace kg1_8 := Bg1.at 8 rfl; replace kg1_9 := Bg1.at 9 rfl
 refine hK.out _ _ ⟨((Bg1.cell 8).trans rfl), ((Bg1.cell 7).trans rfl), Bg0⟩ (fun hHeld => ?_)
 clear hK K
 refine norm_ (a' := ?_) ?_ ?_
 rotate_left
 ·show Act.put _ (some 27) _ = _
  simp only [Act.put, zA_, z0_, z1_, i64_w, i32_w]
  rfl
 refine pure_ (i := 8) (N := some 28) (v := ?_) (a' := ?_) (bs 10 511) rfl rfl (by kernel_rfl) (fun _ _ _ h => h) (Or.inl ⟨by rfl, ?_⟩) ?_ ?_
 rotate_left
 ·intro w'
  go_simp
  with_reducible rfl
 rotate_left
 ·simp only [Act.put, zA_, z0_, z1_, i64_w, i32_w]
  rfl
 refine pure_ (i := 9) (N := some 29) (v := ?_) (a' := ?_) (bs 10 1023) rfl rfl (by kernel_rfl) (fun _ _ _ h => h) (Or.inl ⟨by rfl, ?_⟩) ?_ ?_
 rotate_left
 ·intro w'
  go_simp
  with_reducible rfl
 rotate_left
 ·simp only [Act.put, zA_, z0_, z1_, i64_w, i32_w]
  rfl
 refine done_ (by kernel_rfl) ?_
 clear kg1_7 kg1_8 kg1_9
 go_wp2_with (first | (refine Kd.R_lit k52 _ 52 ?hg (N := 39) ?hd (xs := ([] : List S52)) (inner := []) (ok := fun _ => True) (okp := fun _ => True) ?hr ?hp (fun _ hk => hk) trivial (Below.refl _ _) (Nat.le_refl _) (by simp) ?_; (case hd => rfl); (case hg => rfl); (case hr => first | (go_simp; done) | (go_simp; rfl)); (case hp => exact (Reps.none _ _)); intro vb w6 hRb hl hg_ hnew_; clear hg_ hnew_; have Og0 := Bg0; have Og1 := Bg1; have Og2 := Bg2; have OHS := HS; have hlb := hl; replace Bg0 := Bg0.below hl; replace Bg1 := Bg1.below hl; replace Bg2 := Bg2.below hl; replace HS := HS.below hl; clear hl; have kg0_1 := Bg0.at 1 rfl) | ((with_reducible refine gate_builtin (b := .append) (xs := #[.tmp 39, .tmp 41]) rfl ?_); at_builtin; refine Kd.R_append_rows k52 (w0 := w5) w5.heap.size rfl (.tmp 39) (.tmp 41) 23 52 (.agg #[(.int .u64 0), (.int .u64 0)]) 16 rfl Try.underlying23 info52 rfl (by decide) (by omega) vb [] l1 _ _ _ (fun _ => True) (fun _ => False) rfl rfl hRb (Kd.C_below hr1 HS.out) (fun _ _ h => h) (fun _ h => h.elim) (fun _ _ => trivial) hlb hlb.size (by simp only [List.length_nil]; omega) ?_; intro vq w7 ho hb hg_ hat_; clear hg_ hat_ hRb; simp only [List.nil_append] at ho; obtain ⟨qA, qk, rfl⟩ := Kd.R_slice ho; obtain ⟨_, hk_qA, hqC⟩ := Kd.R_reads' ho; have RB_qA : RB w7 qA l1 := ⟨hqC⟩; have hF_qA : FR w5 A1 l1 qA l1 := .inr (fun ad e hp => by obtain ⟨inner, hown⟩ := Kd.R_own ho; exact own_base hown _ (by rw [e]; rfl)); clear ho; have NRB_qA_g0 := hF_qA.ne (NE_old ⟨hr1⟩ GEg0) Og0; have NRB_qA_g1 := hF_qA.ne (NE_old ⟨hr1⟩ GEg1) Og1; have NRB_qA_g2 := hF_qA.ne (NE_old ⟨hr1⟩ GEg2) Og2; replace Bg0 := Og0.below hb; replace Bg1 := Og1.below hb; replace Bg2 := Og2.below hb; replace hF_qA := hF_qA.mono OHS.le; replace HS := OHS.below hb; clear hb hlb OHS Og0 Og1 Og2; clear kg0_1) | (refine seg_store rfl rfl 23 (.tmp 43) (.tmp 42) rfl g0 1 [.slice qA l1.length qk] [.int .i64 p0, .slice qA l1.length qk, .int .u64 p2, .int .u64 p3, .int .u64 p4, .int .u64 p5, .int .u64 p6, .int .u64 p7, .int .u64 p8, .int .u64 p9] (.slice qA l1.length qk) rfl rfl rfl Bg0 (by kernel_rfl) (nle rfl) rfl rfl ?_; intro w8 hn hw; replace Bg1 := Bg1.grown hw Ng1_g0; replace Bg2 := Bg2.grown hw Ng2_g0; replace RB_qA := RB_qA.grown hw NRB_qA_g0; replace HS := HS.grown hw GEg0; replace Bg0 := hn; clear hw; have kg0_3 := Bg0.at 3 rfl; have kg1_0 := Bg1.at 0 rfl; clear hn))
 all_goals go_quiet (first | (go_at_call 30; with_reducible exact wigwagref01_AddT.Q p3 10000 Wp3 (by decide) _ _))
 all_goals (generalize hW : World.drewN w8 _ = w9; have hl : Below w8.heap.size w8 w9 := (by rw [← hW]; exact pw_below_drewN (Below.refl _ _) _); clear hW; replace Bg0 := Bg0.below hl; replace Bg1 := Bg1.below hl; replace Bg2 := Bg2.below hl; replace RB_qA := RB_qA.below hl; replace HS := HS.below hl; clear hl; clear kg0_3 kg1_0; have kg0_2 := Bg0.at 2 rfl; have kg1_5 := Bg1.at 5 rfl)
 go_wp2_with (first | (refine seg_load rfl (N := 64) rfl 26 (.tmp 2) rfl g0 0 [.int .i64 p0, .slice qA l1.length qk, .int .u64 p2, .int .u64 p3, .int .u64 p4, .int .u64 p5, .int .u64 p6, .int .u64 p7, .int .u64 p8, .int .u64 p9] rfl Bg0 rfl Try.underlying26 rfl (by kernel_rfl) ?_) | (refine seg_load rfl (N := 65) rfl 28 (.tmp 3) rfl g1 0 [.int .u64 g_0, .int .u64 g_1, .int .u64 g_2, .int .u64 g_3, .int .u64 g_4, .int .u64 g_5, .int .u64 g_6, .int .u64 g_7, .bool true, .bool false] rfl Bg1 rfl Try.underlying28 rfl (by kernel_rfl) ?_) | ((go_at_call 34); (with_reducible refine (moveC p0 p2 p3 p4 p5 p6 p7 p8 p9 g_0 g_1 g_2 g_3 g_4 g_5 g_6 g_7 true false false qA qk l1 hw1 Wp2 Wp3 Wp4 Wp5 Wp6 Wp7 Wp8 Wp9 _ RB_qA.out hk_qA).mono ?_); rintro e w10 ⟨rfl, hl⟩; replace Bg0 := Bg0.below hl; replace Bg1 := Bg1.below hl; replace Bg2 := Bg2.below hl; replace RB_qA := RB_qA.below hl; replace HS := HS.below hl; clear hl; clear kg0_2 kg1_5) | (refine seg_store rfl rfl 26 (.tmp 4) (.tmp 67) rfl g2 0 [.int .i64 ((pMove p0 l1 p2 p3 p4 p5 p6 p7 p8 p9 g_0 g_6 true false false).1), .slice qA l1.length qk, .int .u64 p2, .int .u64 p3, .int .u64 ((pMove p0 l1 p2 p3 p4 p5 p6 p7 p8 p9 g_0 g_6 true false false).2.2.2.2.1), .int .u64 ((pMove p0 l1 p2 p3 p4 p5 p6 p7 p8 p9 g_0 g_6 true false false).2.2.2.2.2.1), .int .u64 p6, .int .u64 ((pMove p0 l1 p2 p3 p4 p5 p6 p7 p8 p9 g_0 g_6 true false false).2.2.2.2.2.2.2.1), .int .u64 ((pMove p0 l1 p2 p3 p4 p5 p6 p7 p8 p9 g_0 g_6 true false false).2.2.2.2.2.2.2.2.1), .int .u64 p9] [.int .i64 ((pMove p0 l1 p2 p3 p4 p5 p6 p7 p8 p9 g_0 g_6 true false false).1), .slice qA l1.length qk, .int .u64 p2, .int .u64 p3, .int .u64 ((pMove p0 l1 p2 p3 p4 p5 p6 p7 p8 p9 g_0 g_6 true false false).2.2.2.2.1), .int .u64 ((pMove p0 l1 p2 p3 p4 p5 p6 p7 p8 p9 g_0 g_6 true false false).2.2.2.2.2.1), .int .u64 p6, .int .u64 ((pMove p0 l1 p2 p3 p4 p5 p6 p7 p8 p9 g_0 g_6 true false false).2.2.2.2.2.2.2.1), .int .u64 ((pMove p0 l1 p2 p3 p4 p5 p6 p7 p8 p9 g_0 g_6 true false false).2.2.2.2.2.2.2.2.1), .int .u64 p9] (.agg #[.int .i64 ((pMove p0 l1 p2 p3 p4 p5 p6 p7 p8 p9 g_0 g_6 true false false).1), .slice qA l1.length qk, .int .u64 p2, .int .u64 p3, .int .u64 ((pMove p0 l1 p2 p3 p4 p5 p6 p7 p8 p9 g_0 g_6 true false false).2.2.2.2.1), .int .u64 ((pMove p0 l1 p2 p3 p4 p5 p6 p7 p8 p9 g_0 g_6 true false false).2.2.2.2.2.1), .int .u64 p6, .int .u64 ((pMove p0 l1 p2 p3 p4 p5 p6 p7 p8 p9 g_0 g_6 true false false).2.2.2.2.2.2.2.1), .int .u64 ((pMove p0 l1 p2 p3 p4 p5 p6 p7 p8 p9 g_0 g_6 true false false).2.2.2.2.2.2.2.2.1), .int .u64 p9]) rfl rfl rfl Bg2 (by kernel_rfl) (nle rfl) rfl rfl ?_; intro w11 hn hw; replace Bg0 := Bg0.grown hw Ng2_g0.symm; replace Bg1 := Bg1.grown hw Ng2_g1.symm; replace RB_qA := RB_qA.grown hw NRB_qA_g2; replace HS := HS.grown hw GEg2; replace Bg2 := hn; clear hw; clear hn))
 all_goals exact bodyPost_ret (results_cell1 rfl _ _ g2 26 [.int .i64 ((pMove p0 l1 p2 p3 p4 p5 p6 p7 p8 p9 g_0 g_6 true false false).1), .slice qA l1.length qk, .int .u64 p2, .int .u64 p3, .int .u64 ((pMove p0 l1 p2 p3 p4 p5 p6 p7 p8 p9 g_0 g_6 true false false).2.2.2.2.1), .int .u64 ((pMove p0 l1 p2 p3 p4 p5 p6 p7 p8 p9 g_0 g_6 true false false).2.2.2.2.2.1), .int .u64 p6, .int .u64 ((pMove p0 l1 p2 p3 p4 p5 p6 p7 p8 p9 g_0 g_6 true false false).2.2.2.2.2.2.2.1), .int .u64 ((pMove p0 l1 p2 p3 p4 p5 p6 p7 p8 p9 g_0 g_6 true false false).2.2.2.2.2.2.2.2.1), .int .u64 p9] _ rfl Bg2 Try.underlying26 rfl (by kernel_rfl)) rfl ⟨qA, qk, rfl, hk_qA, RB_qA, HS.out⟩
theorem rack_15 (p0 p2 p3 p4 p5 p6 p7 p8 p9 g_0 g_1 g_2 g_3 g_4 g_5 g_6 g_7 : Int) (A1 : Option Addr) (k1 : Nat) (Wp2 : W64 p2) (Wp3 : W64 p3) (Wp4 : W64 p4) (Wp5 : W64 p5) (Wp6 : W64 p6) (Wp7 : W64 p7) (Wp8 : W64 p8) (Wp9 : W64 p9) (Wg_0 : W64 g_0) (Wg_1 : W64 g_1) (Wg_2 : W64 g_2) (Wg_3 : W64 g_3) (Wg_4 : W64 g_4) (Wg_5 : W64 g_5) (Wg_6 : W64 g_6) (Wg_7 : W64 g_7) (w : World) (l1 : List S52) (hr1 : Kd.C k52 w A1 l1.length l1) (hk1 : l1.length ≤ k1) (hw1 : SWf l1) (hL1 : l1.length < 1000000) (h0 : (decide (uAdd p3 10000 ≤ g_0)) = true) :
  Calls Try.prog 12 #[.agg #[.int .i64 p0, .slice A1 l1.length k1, .int .u64 p2, .int .u64 p3, .int .u64 p4, .int .u64 p5, .int .u64 p6, .int .u64 p7, .int .u64 p8, .int .u64 p9], .agg #[.int .u64 g_0, .int .u64 g_1, .int .u64 g_2, .int .u64 g_3, .int .u64 g_4, .int .u64 g_5, .int .u64 g_6, .int .u64 g_7, .bool false, .bool false]] w fun e w' => ∃ (qA : Option Addr) (qk : Nat), e = .returned (.agg #[.int .i64 ((pMove p0 (uPush l1 10 p6 g_7) g_5 g_0 p4 p5 p6 p7 p8 p9 g_0 g_6 false false true).1), .slice qA (uPush l1 10 p6 g_7).length qk, .int .u64 g_5, .int .u64 g_0, .int .u64 ((pMove p0 (uPush l1 10 p6 g_7) g_5 g_0 p4 p5 p6 p7 p8 p9 g_0 g_6 false false true).2.2.2.2.1), .int .u64 ((pMove p0 (uPush l1 10 p6 g_7) g_5 g_0 p4 p5 p6 p7 p8 p9 g_0 g_6 false false true).2.2.2.2.2.1), .int .u64 p6, .int .u64 ((pMove p0 (uPush l1 10 p6 g_7) g_5 g_0 p4 p5 p6 p7 p8 p9 g_0 g_6 false false true).2.2.2.2.2.2.2.1), .int .u64 ((pMove p0 (uPush l1 10 p6 g_7) g_5 g_0 p4 p5 p6 p7 p8 p9 g_0 g_6 false false true).2.2.2.2.2.2.2.2.1), .int .u64 p9]) ∧ (uPush l1 10 p6 g_7).length ≤ qk ∧ RB w' qA (uPush l1 10 p6 g_7) ∧ Below w.heap.size w w' := by
 have hu26 := Try.underlying26
 have hu28 := Try.underlying28
 have hu52 := Try.underlying52
 have HS := Since.refl w
 go_enter Try.func12, Try.ntmps12
 go_wp2_with (first | (refine seg_new rfl (N := 2) rfl [.int .i64 p0, .slice A1 l1.length k1, .int .u64 p2, .int .u64 p3, .int .u64 p4, .int .u64 p5, .int .u64 p6, .int .u64 p7, .int .u64 p8, .int .u64 p9] 26 ?hr ?_; (case hr => rfl); intro g0 hg w1 hn hl; have GEg0 := ge_new HS hg; clear hg; replace HS := HS.below hl; have Bg0 := hn; clear hl hn) | (refine seg_new rfl (N := 3) rfl [.int .u64 g_0, .int .u64 g_1, .int .u64 g_2, .int .u64 g_3, .int .u64 g_4, .int .u64 g_5, .int .u64 g_6, .int .u64 g_7, .bool false, .bool false] 28 ?hr ?_; (case hr => rfl); intro g1 hg w2 hn hl; have Ng1_g0 := ne_new Bg0 hg; have GEg1 := ge_new HS hg; clear hg; replace Bg0 := Bg0.below hl; replace HS := HS.below hl; have Bg1 := hn; clear hl hn) | (refine seg_new rfl (N := 4) rfl [.int .i64 0, .slice none 0 0, .int .u64 0, .int .u64 0, .int .u64 0, .int .u64 0, .int .u64 0, .int .u64 0, .int .u64 0, .int .u64 0] 26 ?hr ?_; (case hr => rfl); intro g2 hg w3 hn hl; have Ng2_g0 := ne_new Bg0 hg; have Ng2_g1 := ne_new Bg1 hg; have GEg2 := ge_new HS hg; clear hg; replace Bg0 := Bg0.below hl; replace Bg1 := Bg1.below hl; replace HS := HS.below hl; have Bg2 := hn; clear hl hn; have kg1_8 := Bg1.at 8 rfl; have kg1_9 := Bg1.at 9 rfl))
 refine start_ (n := 10) (S := fun w' => w'.cell? ⟨g1, 8, none⟩ = some (.bool false)) (ds := []) (bs 10 0) (by kernel_rfl) rfl rfl ((Bg1.drew.cell 8).trans rfl) (fun hHeld => ?_)
 generalize hWd : World.drew w3 = w4 at hHeld ⊢
 have hl : Below w3.heap.size w3 w4 := (by rw [← hWd]; exact below_drew1 (Below.refl _ _))
 clear hWd
 replace Bg0 := Bg0.below hl; replace Bg1 := Bg1.below hl; replace Bg2 := Bg2.below hl; replace HS := HS.below hl; clear hl; replace kg1_8 := Bg1.at 8 rfl; replace kg1_9 := Bg1.at 9 rfl
 refine pu 0 20 (.pointer (some ⟨g1, 8, none⟩)) 1 rfl rfl (by kernel_rfl) (fun _ _ _ h => h) (by rfl) (fun _ => by kernel_rfl) rfl ?_
 refine norm_ (a' := ?_) ?_ ?_
 rotate_left
 ·simp only [Act.put, zA_, z0_, z1_, i64_w, i32_w]
  rfl
 refine take_ (i := 1) (N := some 21) (v := ?_) (a' := ?_) (bs 10 3) rfl rfl (by kernel_rfl) (fun _ _ _ h => h) (Or.inl ⟨by rfl, ?_⟩) hHeld ?_ ?_
 rotate_left
 ·intro w' s0
  go_simp
  with_reducible rfl
 rotate_left
 ·simp only [Act.put, zA_, z0_, z1_, i64_w, i32_w]
  rfl
 refine pure_ (i := 2) (N := some 22) (v := ?_) (a' := ?_) (bs 10 7) rfl rfl (by kernel_rfl) (fun _ _ _ h => h) (Or.inl ⟨by rfl, ?_⟩) ?_ ?_
 rotate_left
 ·intro w'
  go_simp
  with_reducible rfl
 rotate_left
 ·simp only [Act.put, zA_, z0_, z1_, i64_w, i32_w]
  rfl
 refine pure_ (i := 3) (N := some 23) (v := ?_) (a' := ?_) (bs 10 15) rfl rfl (by kernel_rfl) (fun _ _ _ h => h) (Or.inl ⟨by rfl, ?_⟩) ?_ ?_
 rotate_left
 ·intro w'
  go_simp
  with_reducible rfl
 rotate_left
 ·simp only [Act.put, zA_, z0_, z1_, i64_w, i32_w]
  rfl
 refine pure_ (i := 4) (N := some 24) (v := undef) (a' := ?_) (bs 10 31) rfl rfl (by kernel_rfl) (fun _ _ _ h => h) (Or.inr ⟨by rfl, rfl⟩) ?_ ?_
 rotate_left
 ·simp only [Act.put, zA_, z0_, z1_, i64_w, i32_w]
  rfl
 refine pure_ (i := 5) (N := some 25) (v := undef) (a' := ?_) (bs 10 63) rfl rfl (by kernel_rfl) (fun _ _ _ h => h) (Or.inr ⟨by rfl, rfl⟩) ?_ ?_
 rotate_left
 ·simp only [Act.put, zA_, z0_, z1_, i64_w, i32_w]
  rfl
 refine pure_ (i := 6) (N := some 26) (v := undef) (a' := ?_) (bs 10 127) rfl rfl (by kernel_rfl) (fun _ _ _ h => h) (Or.inr ⟨by rfl, rfl⟩) ?_ ?_
 rotate_left
 ·simp only [Act.put, zA_, z0_, z1_, i64_w, i32_w]
  rfl
 refine pure_ (i := 7) (N := some 27) (v := undef) (a' := ?_) (bs 10 255) rfl rfl (by kernel_rfl) (fun _ _ _ h => h) (Or.inr ⟨by rfl, rfl⟩) ?_ ?_
 rotate_left
 ·simp only [Act.put, zA_, z0_, z1_, i64_w, i32_w]
  rfl
 refine pure_ (i := 8) (N := some 28) (v := undef) (a' := ?_) (bs 10 511) rfl rfl (by kernel_rfl) (fun _ _ _ h => h) (Or.inr ⟨by rfl, rfl⟩) ?_ ?_
 rotate_left
 ·simp only [Act.put, zA_, z0_, z1_, i64_w, i32_w]
  rfl
 refine pure_ (i := 9) (N := some 29) (v := ?_) (a' := ?_) (bs 10 1023) rfl rfl (by kernel_rfl) (fun _ _ _ h => h) (Or.inl ⟨by rfl, ?_⟩) ?_ ?_
 rotate_left
 ·intro w'
  go_simp
  with_reducible rfl
 rotate_left
 ·simp only [Act.put, zA_, z0_, z1_, i64_w, i32_w]
  rfl
 refine done_ (by kernel_rfl) ?_
 clear kg1_8 kg1_9; have kg0_1 := Bg0.at 1 rfl; have kg0_6 := Bg0.at 6 rfl; have kg1_7 := Bg1.at 7 rfl
 go_wp2_with (first | ((go_at_call 33); (with_reducible refine (pushC 10 p6 g_7 A1 k1 l1 hw1 (by decide) Wp6 Wg_7 _ ⟨(Kd.C_below hr1 HS.out)⟩ hk1 hL1).mono ?_); rintro e w5 ⟨qA, qk, rfl, hk_qA, RB_qA, hF_qA, hl⟩; have NRB_qA_g0 := hF_qA.ne (NE_old ⟨hr1⟩ GEg0) Bg0; have NRB_qA_g1 := hF_qA.ne (NE_old ⟨hr1⟩ GEg1) Bg1; have NRB_qA_g2 := hF_qA.ne (NE_old ⟨hr1⟩ GEg2) Bg2; replace hF_qA := hF_qA.mono HS.le; replace Bg0 := Bg0.below hl; replace Bg1 := Bg1.below hl; replace Bg2 := Bg2.below hl; replace HS := HS.below hl; clear hl; clear kg0_1 kg0_6 kg1_7) | (refine seg_store rfl rfl 23 (.tmp 38) (.tmp 37) rfl g0 1 [.slice qA (uPush l1 10 p6 g_7).length qk] [.int .i64 p0, .slice qA (uPush l1 10 p6 g_7).length qk, .int .u64 p2, .int .u64 p3, .int .u64 p4, .int .u64 p5, .int .u64 p6, .int .u64 p7, .int .u64 p8, .int .u64 p9] (.slice qA (uPush l1 10 p6 g_7).length qk) rfl rfl rfl Bg0 (by kernel_rfl) (nle rfl) rfl rfl ?_; intro w6 hn hw; replace Bg1 := Bg1.grown hw Ng1_g0; replace Bg2 := Bg2.grown hw Ng2_g0; replace RB_qA := RB_qA.grown hw NRB_qA_g0; replace HS := HS.grown hw GEg0; replace Bg0 := hn; clear hw; have kg0_3 := Bg0.at 3 rfl; have kg1_0 := Bg1.at 0 rfl; clear hn))
 all_goals go_quiet (first | (go_at_call 30; with_reducible exact wigwagref01_AddT.Q p3 10000 Wp3 (by decide) _ _))
 all_goals (generalize hW : World.drewN w6 _ = w7; have hl : Below w6.heap.size w6 w7 := (by rw [← hW]; exact pw_below_drewN (Below.refl _ _) _); clear hW; replace Bg0 := Bg0.below hl; replace Bg1 := Bg1.below hl; replace Bg2 := Bg2.below hl; replace RB_qA := RB_qA.below hl; replace HS := HS.below hl; clear hl; clear kg0_3 kg1_0; have kg1_5 := Bg1.at 5 rfl)
 go_wp2_with (first | (refine seg_store rfl rfl 24 (.tmp 60) (.tmp 59) rfl g0 2 [.int .u64 g_5] [.int .i64 p0, .slice qA (uPush l1 10 p6 g_7).length qk, .int .u64 g_5, .int .u64 p3, .int .u64 p4, .int .u64 p5, .int .u64 p6, .int .u64 p7, .int .u64 p8, .int .u64 p9] (.int .u64 g_5) rfl rfl rfl Bg0 (by kernel_rfl) (nle rfl) rfl rfl ?_; intro w8 hn hw; replace Bg1 := Bg1.grown hw Ng1_g0; replace Bg2 := Bg2.grown hw Ng2_g0; replace RB_qA := RB_qA.grown hw NRB_qA_g0; replace HS := HS.grown hw GEg0; replace Bg0 := hn; clear hw; clear kg1_5; have kg1_0 := Bg1.at 0 rfl; clear hn) | (refine seg_store rfl rfl 24 (.tmp 63) (.tmp 62) rfl g0 3 [.int .u64 g_0] [.int .i64 p0, .slice qA (uPush l1 10 p6 g_7).length qk, .int .u64 g_5, .int .u64 g_0, .int .u64 p4, .int .u64 p5, .int .u64 p6, .int .u64 p7, .int .u64 p8, .int .u64 p9] (.int .u64 g_0) rfl rfl rfl Bg0 (by kernel_rfl) (nle rfl) rfl rfl ?_; intro w9 hn hw; replace Bg1 := Bg1.grown hw Ng1_g0; replace Bg2 := Bg2.grown hw Ng2_g0; replace RB_qA := RB_qA.grown hw NRB_qA_g0; replace HS := HS.grown hw GEg0; replace Bg0 := hn; clear hw; clear kg1_0; clear hn) | (refine seg_load rfl (N := 64) rfl 26 (.tmp 2) rfl g0 0 [.int .i64 p0, .slice qA (uPush l1 10 p6 g_7).length qk, .int .u64 g_5, .int .u64 g_0, .int .u64 p4, .int .u64 p5, .int .u64 p6, .int .u64 p7, .int .u64 p8, .int .u64 p9] rfl Bg0 rfl Try.underlying26 rfl (by kernel_rfl) ?_) | (refine seg_load rfl (N := 65) rfl 28 (.tmp 3) rfl g1 0 [.int .u64 g_0, .int .u64 g_1, .int .u64 g_2, .int .u64 g_3, .int .u64 g_4, .int .u64 g_5, .int .u64 g_6, .int .u64 g_7, .bool false, .bool false] rfl Bg1 rfl Try.underlying28 rfl (by kernel_rfl) ?_) | ((go_at_call 34); (with_reducible refine (moveC p0 g_5 g_0 p4 p5 p6 p7 p8 p9 g_0 g_1 g_2 g_3 g_4 g_5 g_6 g_7 false false true qA qk (uPush l1 10 p6 g_7) (wf_push hw1 Wp6 Wg_7) Wg_5 Wg_0 Wp4 Wp5 Wp6 Wp7 Wp8 Wp9 _ RB_qA.out hk_qA).mono ?_); rintro e w10 ⟨rfl, hl⟩; replace Bg0 := Bg0.below hl; replace Bg1 := Bg1.below hl; replace Bg2 := Bg2.below hl; replace RB_qA := RB_qA.below hl; replace HS := HS.below hl; clear hl) | (refine seg_store rfl rfl 26 (.tmp 4) (.tmp 67) rfl g2 0 [.int .i64 ((pMove p0 (uPush l1 10 p6 g_7) g_5 g_0 p4 p5 p6 p7 p8 p9 g_0 g_6 false false true).1), .slice qA (uPush l1 10 p6 g_7).length qk, .int .u64 g_5, .int .u64 g_0, .int .u64 ((pMove p0 (uPush l1 10 p6 g_7) g_5 g_0 p4 p5 p6 p7 p8 p9 g_0 g_6 false false true).2.2.2.2.1), .int .u64 ((pMove p0 (uPush l1 10 p6 g_7) g_5 g_0 p4 p5 p6 p7 p8 p9 g_0 g_6 false false true).2.2.2.2.2.1), .int .u64 p6, .int .u64 ((pMove p0 (uPush l1 10 p6 g_7) g_5 g_0 p4 p5 p6 p7 p8 p9 g_0 g_6 false false true).2.2.2.2.2.2.2.1), .int .u64 ((pMove p0 (uPush l1 10 p6 g_7) g_5 g_0 p4 p5 p6 p7 p8 p9 g_0 g_6 false false true).2.2.2.2.2.2.2.2.1), .int .u64 p9] [.int .i64 ((pMove p0 (uPush l1 10 p6 g_7) g_5 g_0 p4 p5 p6 p7 p8 p9 g_0 g_6 false false true).1), .slice qA (uPush l1 10 p6 g_7).length qk, .int .u64 g_5, .int .u64 g_0, .int .u64 ((pMove p0 (uPush l1 10 p6 g_7) g_5 g_0 p4 p5 p6 p7 p8 p9 g_0 g_6 false false true).2.2.2.2.1), .int .u64 ((pMove p0 (uPush l1 10 p6 g_7) g_5 g_0 p4 p5 p6 p7 p8 p9 g_0 g_6 false false true).2.2.2.2.2.1), .int .u64 p6, .int .u64 ((pMove p0 (uPush l1 10 p6 g_7) g_5 g_0 p4 p5 p6 p7 p8 p9 g_0 g_6 false false true).2.2.2.2.2.2.2.1), .int .u64 ((pMove p0 (uPush l1 10 p6 g_7) g_5 g_0 p4 p5 p6 p7 p8 p9 g_0 g_6 false false true).2.2.2.2.2.2.2.2.1), .int .u64 p9] (.agg #[.int .i64 ((pMove p0 (uPush l1 10 p6 g_7) g_5 g_0 p4 p5 p6 p7 p8 p9 g_0 g_6 false false true).1), .slice qA (uPush l1 10 p6 g_7).length qk, .int .u64 g_5, .int .u64 g_0, .int .u64 ((pMove p0 (uPush l1 10 p6 g_7) g_5 g_0 p4 p5 p6 p7 p8 p9 g_0 g_6 false false true).2.2.2.2.1), .int .u64 ((pMove p0 (uPush l1 10 p6 g_7) g_5 g_0 p4 p5 p6 p7 p8 p9 g_0 g_6 false false true).2.2.2.2.2.1), .int .u64 p6, .int .u64 ((pMove p0 (uPush l1 10 p6 g_7) g_5 g_0 p4 p5 p6 p7 p8 p9 g_0 g_6 false false true).2.2.2.2.2.2.2.1), .int .u64 ((pMove p0 (uPush l1 10 p6 g_7) g_5 g_0 p4 p5 p6 p7 p8 p9 g_0 g_6 false false true).2.2.2.2.2.2.2.2.1), .int .u64 p9]) rfl rfl rfl Bg2 (by kernel_rfl) (nle rfl) rfl rfl ?_; intro w11 hn hw; replace Bg0 := Bg0.grown hw Ng2_g0.symm; replace Bg1 := Bg1.grown hw Ng2_g1.symm; replace RB_qA := RB_qA.grown hw NRB_qA_g2; replace HS := HS.grown hw GEg2; replace Bg2 := hn; clear hw; clear hn))
 all_goals exact bodyPost_ret (results_cell1 rfl _ _ g2 26 [.int .i64 ((pMove p0 (uPush l1 10 p6 g_7) g_5 g_0 p4 p5 p6 p7 p8 p9 g_0 g_6 false false true).1), .slice qA (uPush l1 10 p6 g_7).length qk, .int .u64 g_5, .int .u64 g_0, .int .u64 ((pMove p0 (uPush l1 10 p6 g_7) g_5 g_0 p4 p5 p6 p7 p8 p9 g_0 g_6 false false true).2.2.2.2.1), .int .u64 ((pMove p0 (uPush l1 10 p6 g_7) g_5 g_0 p4 p5 p6 p7 p8 p9 g_0 g_6 false false true).2.2.2.2.2.1), .int .u64 p6, .int .u64 ((pMove p0 (uPush l1 10 p6 g_7) g_5 g_0 p4 p5 p6 p7 p8 p9 g_0 g_6 false false true).2.2.2.2.2.2.2.1), .int .u64 ((pMove p0 (uPush l1 10 p6 g_7) g_5 g_0 p4 p5 p6 p7 p8 p9 g_0 g_6 false false true).2.2.2.2.2.2.2.2.1), .int .u64 p9] _ rfl Bg2 Try.underlying26 rfl (by kernel_rfl)) rfl ⟨qA, qk, rfl, hk_qA, RB_qA, HS.out⟩
theorem rack_16 (p0 p2 p3 p4 p5 p6 p7 p8 p9 g_0 g_1 g_2 g_3 g_4 g_5 g_6 g_7 : Int) (A1 : Option Addr) (k1 : Nat) (Wp2 : W64 p2) (Wp3 : W64 p3) (Wp4 : W64 p4) (Wp5 : W64 p5) (Wp6 : W64 p6) (Wp7 : W64 p7) (Wp8 : W64 p8) (Wp9 : W64 p9) (Wg_0 : W64 g_0) (Wg_1 : W64 g_1) (Wg_2 : W64 g_2) (Wg_3 : W64 g_3) (Wg_4 : W64 g_4) (Wg_5 : W64 g_5) (Wg_6 : W64 g_6) (Wg_7 : W64 g_7) (w : World) (l1 : List S52) (hr1 : Kd.C k52 w A1 l1.length l1) (hk1 : l1.length ≤ k1) (hw1 : SWf l1) (hL1 : l1.length < 1000000) (h0 : (decide (uAdd p3 10000 ≤ g_0)) = false) (h1 : (decide (g_5 < p2)) = true) :
  Calls Try.prog 12 #[.agg #[.int .i64 p0, .slice A1 l1.length k1, .int .u64 p2, .int .u64 p3, .int .u64 p4, .int .u64 p5, .int .u64 p6, .int .u64 p7, .int .u64 p8, .int .u64 p9], .agg #[.int .u64 g_0, .int .u64 g_1, .int .u64 g_2, .int .u64 g_3, .int .u64 g_4, .int .u64 g_5, .int .u64 g_6, .int .u64 g_7, .bool false, .bool false]] w fun e w' => ∃ (qA : Option Addr) (qk : Nat), e = .returned (.agg #[.int .i64 ((pMove p0 (uPush l1 10 p6 g_7) g_5 g_0 p4 p5 p6 p7 p8 p9 g_0 g_6 false false false).1), .slice qA (uPush l1 10 p6 g_7).length qk, .int .u64 g_5, .int .u64 g_0, .int .u64 ((pMove p0 (uPush l1 10 p6 g_7) g_5 g_0 p4 p5 p6 p7 p8 p9 g_0 g_6 false false false).2.2.2.2.1), .int .u64 ((pMove p0 (uPush l1 10 p6 g_7) g_5 g_0 p4 p5 p6 p7 p8 p9 g_0 g_6 false false false).2.2.2.2.2.1), .int .u64 p6, .int .u64 ((pMove p0 (uPush l1 10 p6 g_7) g_5 g_0 p4 p5 p6 p7 p8 p9 g_0 g_6 false false false).2.2.2.2.2.2.2.1), .int .u64 ((pMove p0 (uPush l1 10 p6 g_7) g_5 g_0 p4 p5 p6 p7 p8 p9 g_0 g_6 false false false).2.2.2.2.2.2.2.2.1), .int .u64 p9]) ∧ (uPush l1 10 p6 g_7).length ≤ qk ∧ RB w' qA (uPush l1 10 p6 g_7) ∧ Below w.heap.size w w' := by
 have hu26 := Try.underlying26
 have hu28 := Try.underlying28
 have hu52 := Try.underlying52
 have HS := Since.refl w
 go_enter Try.func12, Try.ntmps12
 go_wp2_with (first | (refine seg_new rfl (N := 2) rfl [.int .i64 p0, .slice A1 l1.length k1, .int .u64 p2, .int .u64 p3, .int .u64 p4, .int .u64 p5, .int .u64 p6, .int .u64 p7, .int .u64 p8, .int .u64 p9] 26 ?hr ?_; (case hr => rfl); intro g0 hg w1 hn hl; have GEg0 := ge_new HS hg; clear hg; replace HS := HS.below hl; have Bg0 := hn; clear hl hn) | (refine seg_new rfl (N := 3) rfl [.int .u64 g_0, .int .u64 g_1, .int .u64 g_2, .int .u64 g_3, .int .u64 g_4, .int .u64 g_5, .int .u64 g_6, .int .u64 g_7, .bool false, .bool false] 28 ?hr ?_; (case hr => rfl); intro g1 hg w2 hn hl; have Ng1_g0 := ne_new Bg0 hg; have GEg1 := ge_new HS hg; clear hg; replace Bg0 := Bg0.below hl; replace HS := HS.below hl; have Bg1 := hn; clear hl hn) | (refine seg_new rfl (N := 4) rfl [.int .i64 0, .slice none 0 0, .int .u64 0, .int .u64 0, .int .u64 0, .int .u64 0, .int .u64 0, .int .u64 0, .int .u64 0, .int .u64 0] 26 ?hr ?_; (case hr => rfl); intro g2 hg w3 hn hl; have Ng2_g0 := ne_new Bg0 hg; have Ng2_g1 := ne_new Bg1 hg; have GEg2 := ge_new HS hg; clear hg; replace Bg0 := Bg0.below hl; replace Bg1 := Bg1.below hl; replace HS := HS.below hl; have Bg2 := hn; clear hl hn; have kg1_8 := Bg1.at 8 rfl; have kg1_9 := Bg1.at 9 rfl))
 refine start_ (n := 10) (S := fun w' => w'.cell? ⟨g1, 8, none⟩ = some (.bool false)) (ds := []) (bs 10 0) (by kernel_rfl) rfl rfl ((Bg1.drew.cell 8).trans rfl) (fun hHeld => ?_)
 generalize hWd : World.drew w3 = w4 at hHeld ⊢
 have hl : Below w3.heap.size w3 w4 := (by rw [← hWd]; exact below_drew1 (Below.refl _ _))
 clear hWd
 replace Bg0 := Bg0.below hl; replace Bg1 := Bg1.below hl; replace Bg2 := Bg2.below hl; replace HS := HS.below hl; clear hl; replace kg1_8 := Bg1.at 8 rfl; replace kg1_9 := Bg1.at 9 rfl
 refine pu 0 20 (.pointer (some ⟨g1, 8, none⟩)) 1 rfl rfl (by kernel_rfl) (fun _ _ _ h => h) (by rfl) (fun _ => by kernel_rfl) rfl ?_
 refine norm_ (a' := ?_) ?_ ?_
 rotate_left
 ·simp only [Act.put, zA_, z0_, z1_, i64_w, i32_w]
  rfl
 refine take_ (i := 1) (N := some 21) (v := ?_) (a' := ?_) (bs 10 3) rfl rfl (by kernel_rfl) (fun _ _ _ h => h) (Or.inl ⟨by rfl, ?_⟩) hHeld ?_ ?_
 rotate_left
 ·intro w' s0
  go_simp
  with_reducible rfl
 rotate_left
 ·simp only [Act.put, zA_, z0_, z1_, i64_w, i32_w]
  rfl
 refine pure_ (i := 2) (N := some 22) (v := ?_) (a' := ?_) (bs 10 7) rfl rfl (by kernel_rfl) (fun _ _ _ h => h) (Or.inl ⟨by rfl, ?_⟩) ?_ ?_
 rotate_left
 ·intro w'
  go_simp
  with_reducible rfl
 rotate_left
 ·simp only [Act.put, zA_, z0_, z1_, i64_w, i32_w]
  rfl
 refine pure_ (i := 3) (N := some 23) (v := ?_) (a' := ?_) (bs 10 15) rfl rfl (by kernel_rfl) (fun _ _ _ h => h) (Or.inl ⟨by rfl, ?_⟩) ?_ ?_
 rotate_left
 ·intro w'
  go_simp
  with_reducible rfl
 rotate_left
 ·simp only [Act.put, zA_, z0_, z1_, i64_w, i32_w]
  rfl
 refine pure_ (i := 4) (N := some 24) (v := undef) (a' := ?_) (bs 10 31) rfl rfl (by kernel_rfl) (fun _ _ _ h => h) (Or.inr ⟨by rfl, rfl⟩) ?_ ?_
 rotate_left
 ·simp only [Act.put, zA_, z0_, z1_, i64_w, i32_w]
  rfl
 refine pure_ (i := 5) (N := some 25) (v := undef) (a' := ?_) (bs 10 63) rfl rfl (by kernel_rfl) (fun _ _ _ h => h) (Or.inr ⟨by rfl, rfl⟩) ?_ ?_
 rotate_left
 ·simp only [Act.put, zA_, z0_, z1_, i64_w, i32_w]
  rfl
 refine pure_ (i := 6) (N := some 26) (v := undef) (a' := ?_) (bs 10 127) rfl rfl (by kernel_rfl) (fun _ _ _ h => h) (Or.inr ⟨by rfl, rfl⟩) ?_ ?_
 rotate_left
 ·simp only [Act.put, zA_, z0_, z1_, i64_w, i32_w]
  rfl
 refine pure_ (i := 7) (N := some 27) (v := undef) (a' := ?_) (bs 10 255) rfl rfl (by kernel_rfl) (fun _ _ _ h => h) (Or.inr ⟨by rfl, rfl⟩) ?_ ?_
 rotate_left
 ·simp only [Act.put, zA_, z0_, z1_, i64_w, i32_w]
  rfl
 refine pure_ (i := 8) (N := some 28) (v := undef) (a' := ?_) (bs 10 511) rfl rfl (by kernel_rfl) (fun _ _ _ h => h) (Or.inr ⟨by rfl, rfl⟩) ?_ ?_
 rotate_left
 ·simp only [Act.put, zA_, z0_, z1_, i64_w, i32_w]
  rfl
 refine pure_ (i := 9) (N := some 29) (v := ?_) (a' := ?_) (bs 10 1023) rfl rfl (by kernel_rfl) (fun _ _ _ h => h) (Or.inl ⟨by rfl, ?_⟩) ?_ ?_
 rotate_left
 ·intro w'
  go_simp
  with_reducible rfl
 rotate_left
 ·simp only [Act.put, zA_, z0_, z1_, i64_w, i32_w]
  rfl
 refine done_ (by kernel_rfl) ?_
 clear kg1_8 kg1_9; have kg0_1 := Bg0.at 1 rfl; have kg0_6 := Bg0.at 6 rfl; have kg1_7 := Bg1.at 7 rfl
 go_wp2_with (first | ((go_at_call 33); (with_reducible refine (pushC 10 p6 g_7 A1 k1 l1 hw1 (by decide) Wp6 Wg_7 _ ⟨(Kd.C_below hr1 HS.out)⟩ hk1 hL1).mono ?_); rintro e w5 ⟨qA, qk, rfl, hk_qA, RB_qA, hF_qA, hl⟩; have NRB_qA_g0 := hF_qA.ne (NE_old ⟨hr1⟩ GEg0) Bg0; have NRB_qA_g1 := hF_qA.ne (NE_old ⟨hr1⟩ GEg1) Bg1; have NRB_qA_g2 := hF_qA.ne (NE_old ⟨hr1⟩ GEg2) Bg2; replace hF_qA := hF_qA.mono HS.le; replace Bg0 := Bg0.below hl; replace Bg1 := Bg1.below hl; replace Bg2 := Bg2.below hl; replace HS := HS.below hl; clear hl; clear kg0_1 kg0_6 kg1_7) | (refine seg_store rfl rfl 23 (.tmp 38) (.tmp 37) rfl g0 1 [.slice qA (uPush l1 10 p6 g_7).length qk] [.int .i64 p0, .slice qA (uPush l1 10 p6 g_7).length qk, .int .u64 p2, .int .u64 p3, .int .u64 p4, .int .u64 p5, .int .u64 p6, .int .u64 p7, .int .u64 p8, .int .u64 p9] (.slice qA (uPush l1 10 p6 g_7).length qk) rfl rfl rfl Bg0 (by kernel_rfl) (nle rfl) rfl rfl ?_; intro w6 hn hw; replace Bg1 := Bg1.grown hw Ng1_g0; replace Bg2 := Bg2.grown hw Ng2_g0; replace RB_qA := RB_qA.grown hw NRB_qA_g0; replace HS := HS.grown hw GEg0; replace Bg0 := hn; clear hw; have kg0_3 := Bg0.at 3 rfl; have kg1_0 := Bg1.at 0 rfl; clear hn))
 all_goals go_quiet (first | (go_at_call 30; with_reducible exact wigwagref01_AddT.Q p3 10000 Wp3 (by decide) _ _))
 all_goals (generalize hW : World.drewN w6 _ = w7; have hl : Below w6.heap.size w6 w7 := (by rw [← hW]; exact pw_below_drewN (Below.refl _ _) _); clear hW; replace Bg0 := Bg0.below hl; replace Bg1 := Bg1.below hl; replace Bg2 := Bg2.below hl; replace RB_qA := RB_qA.below hl; replace HS := HS.below hl; clear hl; clear kg0_3 kg1_0; have kg0_2 := Bg0.at 2 rfl; have kg1_5 := Bg1.at 5 rfl)
 go_wp2_with (first | (refine seg_store rfl rfl 24 (.tmp 60) (.tmp 59) rfl g0 2 [.int .u64 g_5] [.int .i64 p0, .slice qA (uPush l1 10 p6 g_7).length qk, .int .u64 g_5, .int .u64 p3, .int .u64 p4, .int .u64 p5, .int .u64 p6, .int .u64 p7, .int .u64 p8, .int .u64 p9] (.int .u64 g_5) rfl rfl rfl Bg0 (by kernel_rfl) (nle rfl) rfl rfl ?_; intro w8 hn hw; replace Bg1 := Bg1.grown hw Ng1_g0; replace Bg2 := Bg2.grown hw Ng2_g0; replace RB_qA := RB_qA.grown hw NRB_qA_g0; replace HS := HS.grown hw GEg0; replace Bg0 := hn; clear hw; clear kg0_2 kg1_5; have kg1_0 := Bg1.at 0 rfl; clear hn) | (refine seg_store rfl rfl 24 (.tmp 63) (.tmp 62) rfl g0 3 [.int .u64 g_0] [.int .i64 p0, .slice qA (uPush l1 10 p6 g_7).length qk, .int .u64 g_5, .int .u64 g_0, .int .u64 p4, .int .u64 p5, .int .u64 p6, .int .u64 p7, .int .u64 p8, .int .u64 p9] (.int .u64 g_0) rfl rfl rfl Bg0 (by kernel_rfl) (nle rfl) rfl rfl ?_; intro w9 hn hw; replace Bg1 := Bg1.grown hw Ng1_g0; replace Bg2 := Bg2.grown hw Ng2_g0; replace RB_qA := RB_qA.grown hw NRB_qA_g0; replace HS := HS.grown hw GEg0; replace Bg0 := hn; clear hw; clear kg1_0; clear hn) | (refine seg_load rfl (N := 64) rfl 26 (.tmp 2) rfl g0 0 [.int .i64 p0, .slice qA (uPush l1 10 p6 g_7).length qk, .int .u64 g_5, .int .u64 g_0, .int .u64 p4, .int .u64 p5, .int .u64 p6, .int .u64 p7, .int .u64 p8, .int .u64 p9] rfl Bg0 rfl Try.underlying26 rfl (by kernel_rfl) ?_) | (refine seg_load rfl (N := 65) rfl 28 (.tmp 3) rfl g1 0 [.int .u64 g_0, .int .u64 g_1, .int .u64 g_2, .int .u64 g_3, .int .u64 g_4, .int .u64 g_5, .int .u64 g_6, .int .u64 g_7, .bool false, .bool false] rfl Bg1 rfl Try.underlying28 rfl (by kernel_rfl) ?_) | ((go_at_call 34); (with_reducible refine (moveC p0 g_5 g_0 p4 p5 p6 p7 p8 p9 g_0 g_1 g_2 g_3 g_4 g_5 g_6 g_7 false false false qA qk (uPush l1 10 p6 g_7) (wf_push hw1 Wp6 Wg_7) Wg_5 Wg_0 Wp4 Wp5 Wp6 Wp7 Wp8 Wp9 _ RB_qA.out hk_qA).mono ?_); rintro e w10 ⟨rfl, hl⟩; replace Bg0 := Bg0.below hl; replace Bg1 := Bg1.below hl; replace Bg2 := Bg2.below hl; replace RB_qA := RB_qA.below hl; replace HS := HS.below hl; clear hl) | (refine seg_store rfl rfl 26 (.tmp 4) (.tmp 67) rfl g2 0 [.int .i64 ((pMove p0 (uPush l1 10 p6 g_7) g_5 g_0 p4 p5 p6 p7 p8 p9 g_0 g_6 false false false).1), .slice qA (uPush l1 10 p6 g_7).length qk, .int .u64 g_5, .int .u64 g_0, .int .u64 ((pMove p0 (uPush l1 10 p6 g_7) g_5 g_0 p4 p5 p6 p7 p8 p9 g_0 g_6 false false false).2.2.2.2.1), .int .u64 ((pMove p0 (uPush l1 10 p6 g_7) g_5 g_0 p4 p5 p6 p7 p8 p9 g_0 g_6 false false false).2.2.2.2.2.1), .int .u64 p6, .int .u64 ((pMove p0 (uPush l1 10 p6 g_7) g_5 g_0 p4 p5 p6 p7 p8 p9 g_0 g_6 false false false).2.2.2.2.2.2.2.1), .int .u64 ((pMove p0 (uPush l1 10 p6 g_7) g_5 g_0 p4 p5 p6 p7 p8 p9 g_0 g_6 false false false).2.2.2.2.2.2.2.2.1), .int .u64 p9] [.int .i64 ((pMove p0 (uPush l1 10 p6 g_7) g_5 g_0 p4 p5 p6 p7 p8 p9 g_0 g_6 false false false).1), .slice qA (uPush l1 10 p6 g_7).length qk, .int .u64 g_5, .int .u64 g_0, .int .u64 ((pMove p0 (uPush l1 10 p6 g_7) g_5 g_0 p4 p5 p6 p7 p8 p9 g_0 g_6 false false false).2.2.2.2.1), .int .u64 ((pMove p0 (uPush l1 10 p6 g_7) g_5 g_0 p4 p5 p6 p7 p8 p9 g_0 g_6 false false false).2.2.2.2.2.1), .int .u64 p6, .int .u64 ((pMove p0 (uPush l1 10 p6 g_7) g_5 g_0 p4 p5 p6 p7 p8 p9 g_0 g_6 false false false).2.2.2.2.2.2.2.1), .int .u64 ((pMove p0 (uPush l1 10 p6 g_7) g_5 g_0 p4 p5 p6 p7 p8 p9 g_0 g_6 false false false).2.2.2.2.2.2.2.2.1), .int .u64 p9] (.agg #[.int .i64 ((pMove p0 (uPush l1 10 p6 g_7) g_5 g_0 p4 p5 p6 p7 p8 p9 g_0 g_6 false false false).1), .slice qA (uPush l1 10 p6 g_7).length qk, .int .u64 g_5, .int .u64 g_0, .int .u64 ((pMove p0 (uPush l1 10 p6 g_7) g_5 g_0 p4 p5 p6 p7 p8 p9 g_0 g_6 false false false).2.2.2.2.1), .int .u64 ((pMove p0 (uPush l1 10 p6 g_7) g_5 g_0 p4 p5 p6 p7 p8 p9 g_0 g_6 false false false).2.2.2.2.2.1), .int .u64 p6, .int .u64 ((pMove p0 (uPush l1 10 p6 g_7) g_5 g_0 p4 p5 p6 p7 p8 p9 g_0 g_6 false false false).2.2.2.2.2.2.2.1), .int .u64 ((pMove p0 (uPush l1 10 p6 g_7) g_5 g_0 p4 p5 p6 p7 p8 p9 g_0 g_6 false false false).2.2.2.2.2.2.2.2.1), .int .u64 p9]) rfl rfl rfl Bg2 (by kernel_rfl) (nle rfl) rfl rfl ?_; intro w11 hn hw; replace Bg0 := Bg0.grown hw Ng2_g0.symm; replace Bg1 := Bg1.grown hw Ng2_g1.symm; replace RB_qA := RB_qA.grown hw NRB_qA_g2; replace HS := HS.grown hw GEg2; replace Bg2 := hn; clear hw; clear hn))
 all_goals exact bodyPost_ret (results_cell1 rfl _ _ g2 26 [.int .i64 ((pMove p0 (uPush l1 10 p6 g_7) g_5 g_0 p4 p5 p6 p7 p8 p9 g_0 g_6 false false false).1), .slice qA (uPush l1 10 p6 g_7).length qk, .int .u64 g_5, .int .u64 g_0, .int .u64 ((pMove p0 (uPush l1 10 p6 g_7) g_5 g_0 p4 p5 p6 p7 p8 p9 g_0 g_6 false false false).2.2.2.2.1), .int .u64 ((pMove p0 (uPush l1 10 p6 g_7) g_5 g_0 p4 p5 p6 p7 p8 p9 g_0 g_6 false false false).2.2.2.2.2.1), .int .u64 p6, .int .u64 ((pMove p0 (uPush l1 10 p6 g_7) g_5 g_0 p4 p5 p6 p7 p8 p9 g_0 g_6 false false false).2.2.2.2.2.2.2.1), .int .u64 ((pMove p0 (uPush l1 10 p6 g_7) g_5 g_0 p4 p5 p6 p7 p8 p9 g_0 g_6 false false false).2.2.2.2.2.2.2.2.1), .int .u64 p9] _ rfl Bg2 Try.underlying26 rfl (by kernel_rfl)) rfl ⟨qA, qk, rfl, hk_qA, RB_qA, HS.out⟩
theorem rack_17 (p0 p2 p3 p4 p5 p6 p7 p8 p9 g_0 g_1 g_2 g_3 g_4 g_5 g_6 g_7 : Int) (A1 : Option Addr) (k1 : Nat) (Wp2 : W64 p2) (Wp3 : W64 p3) (Wp4 : W64 p4) (Wp5 : W64 p5) (Wp6 : W64 p6) (Wp7 : W64 p7) (Wp8 : W64 p8) (Wp9 : W64 p9) (Wg_0 : W64 g_0) (Wg_1 : W64 g_1) (Wg_2 : W64 g_2) (Wg_3 : W64 g_3) (Wg_4 : W64 g_4) (Wg_5 : W64 g_5) (Wg_6 : W64 g_6) (Wg_7 : W64 g_7) (w : World) (l1 : List S52) (hr1 : Kd.C k52 w A1 l1.length l1) (hk1 : l1.length ≤ k1) (hw1 : SWf l1) (hL1 : l1.length < 1000000) (h0 : (decide (uAdd p3 10000 ≤ g_0)) = false) (h1 : (decide (g_5 < p2)) = false) :
  Calls Try.prog 12 #[.agg #[.int .i64 p0, .slice A1 l1.length k1, .int .u64 p2, .int .u64 p3, .int .u64 p4, .int .u64 p5, .int .u64 p6, .int .u64 p7, .int .u64 p8, .int .u64 p9], .agg #[.int .u64 g_0, .int .u64 g_1, .int .u64 g_2, .int .u64 g_3, .int .u64 g_4, .int .u64 g_5, .int .u64 g_6, .int .u64 g_7, .bool false, .bool false]] w fun e w' => ∃ (qA : Option Addr) (qk : Nat), e = .returned (.agg #[.int .i64 ((pMove p0 (uPush l1 10 p6 g_7) p2 p3 p4 p5 p6 p7 p8 p9 g_0 g_6 false false false).1), .slice qA (uPush l1 10 p6 g_7).length qk, .int .u64 p2, .int .u64 p3, .int .u64 ((pMove p0 (uPush l1 10 p6 g_7) p2 p3 p4 p5 p6 p7 p8 p9 g_0 g_6 false false false).2.2.2.2.1), .int .u64 ((pMove p0 (uPush l1 10 p6 g_7) p2 p3 p4 p5 p6 p7 p8 p9 g_0 g_6 false false false).2.2.2.2.2.1), .int .u64 p6, .int .u64 ((pMove p0 (uPush l1 10 p6 g_7) p2 p3 p4 p5 p6 p7 p8 p9 g_0 g_6 false false false).2.2.2.2.2.2.2.1), .int .u64 ((pMove p0 (uPush l1 10 p6 g_7) p2 p3 p4 p5 p6 p7 p8 p9 g_0 g_6 false false false).2.2.2.2.2.2.2.2.1), .int .u64 p9]) ∧ (uPush l1 10 p6 g_7).length ≤ qk ∧ RB w' qA (uPush l1 10 p6 g_7) ∧ Below w.heap.size w w' := by
 have hu26 := Try.underlying26
 have hu28 := Try.underlying28
 have hu52 := Try.underlying52
 have HS := Since.refl w
 go_enter Try.func12, Try.ntmps12
 go_wp2_with (first | (refine seg_new rfl (N := 2) rfl [.int .i64 p0, .slice A1 l1.length k1, .int .u64 p2, .int .u64 p3, .int .u64 p4, .int .u64 p5, .int .u64 p6, .int .u64 p7, .int .u64 p8, .int .u64 p9] 26 ?hr ?_; (case hr => rfl); intro g0 hg w1 hn hl; have GEg0 := ge_new HS hg; clear hg; replace HS := HS.below hl; have Bg0 := hn; clear hl hn) | (refine seg_new rfl (N := 3) rfl [.int .u64 g_0, .int .u64 g_1, .int .u64 g_2, .int .u64 g_3, .int .u64 g_4, .int .u64 g_5, .int .u64 g_6, .int .u64 g_7, .bool false, .bool false] 28 ?hr ?_; (case hr => rfl); intro g1 hg w2 hn hl; have Ng1_g0 := ne_new Bg0 hg; have GEg1 := ge_new HS hg; clear hg; replace Bg0 := Bg0.below hl; replace HS := HS.below hl; have Bg1 := hn; clear hl hn) | (refine seg_new rfl (N := 4) rfl [.int .i64 0, .slice none 0 0, .int .u64 0, .int .u64 0, .int .u64 0, .int .u64 0, .int .u64 0, .int .u64 0, .int .u64 0, .int .u64 0] 26 ?hr ?_; (case hr => rfl); intro g2 hg w3 hn hl; have Ng2_g0 := ne_new Bg0 hg; have Ng2_g1 := ne_new Bg1 hg; have GEg2 := ge_new HS hg; clear hg; replace Bg0 := Bg0.below hl; replace Bg1 := Bg1.below hl; replace HS := HS.below hl; have Bg2 := hn; clear hl hn; have kg1_8 := Bg1.at 8 rfl; have kg1_9 := Bg1.at 9 rfl))
 refine start_ (n := 10) (S := fun w' => w'.cell? ⟨g1, 8, none⟩ = some (.bool false)) (ds := []) (bs 10 0) (by kernel_rfl) rfl rfl ((Bg1.drew.cell 8).trans rfl) (fun hHeld => ?_)
 generalize hWd : World.drew w3 = w4 at hHeld ⊢
 have hl : Below w3.heap.size w3 w4 := (by rw [← hWd]; exact below_drew1 (Below.refl _ _))
 clear hWd
 replace Bg0 := Bg0.below hl; replace Bg1 := Bg1.below hl; replace Bg2 := Bg2.below hl; replace HS := HS.below hl; clear hl; replace kg1_8 := Bg1.at 8 rfl; replace kg1_9 := Bg1.at 9 rfl
 refine pu 0 20 (.pointer (some ⟨g1, 8, none⟩)) 1 rfl rfl (by kernel_rfl) (fun _ _ _ h => h) (by rfl) (fun _ => by kernel_rfl) rfl ?_
 refine norm_ (a' := ?_) ?_ ?_
 rotate_left
 ·simp only [Act.put, zA_, z0_, z1_, i64_w, i32_w]
  rfl
 refine take_ (i := 1) (N := some 21) (v := ?_) (a' := ?_) (bs 10 3) rfl rfl (by kernel_rfl) (fun _ _ _ h => h) (Or.inl ⟨by rfl, ?_⟩) hHeld ?_ ?_
 rotate_left
 ·intro w' s0
  go_simp
  with_reducible rfl
 rotate_left
 ·simp only [Act.put, zA_, z0_, z1_, i64_w, i32_w]
  rfl
 refine pure_ (i := 2) (N := some 22) (v := ?_) (a' := ?_) (bs 10 7) rfl rfl (by kernel_rfl) (fun _ _ _ h => h) (Or.inl ⟨by rfl, ?_⟩) ?_ ?_
 rotate_left
 ·intro w'
  go_simp
  with_reducible rfl
 rotate_left
 ·simp only [Act.put, zA_, z0_, z1_, i64_w, i32_w]
  rfl
 refine pure_ (i := 3) (N := some 23) (v := ?_) (a' := ?_) (bs 10 15) rfl rfl (by kernel_rfl) (fun _ _ _ h => h) (Or.inl ⟨by rfl, ?_⟩) ?_ ?_
 rotate_left
 ·intro w'
  go_simp
  with_reducible rfl
 rotate_left
 ·simp only [Act.put, zA_, z0_, z1_, i64_w, i32_w]
  rfl
 refine pure_ (i := 4) (N := some 24) (v := undef) (a' := ?_) (bs 10 31) rfl rfl (by kernel_rfl) (fun _ _ _ h => h) (Or.inr ⟨by rfl, rfl⟩) ?_ ?_
 rotate_left
 ·simp only [Act.put, zA_, z0_, z1_, i64_w, i32_w]
  rfl
 refine pure_ (i := 5) (N := some 25) (v := undef) (a' := ?_) (bs 10 63) rfl rfl (by kernel_rfl) (fun _ _ _ h => h) (Or.inr ⟨by rfl, rfl⟩) ?_ ?_
 rotate_left
 ·simp only [Act.put, zA_, z0_, z1_, i64_w, i32_w]
  rfl
 refine pure_ (i := 6) (N := some 26) (v := undef) (a' := ?_) (bs 10 127) rfl rfl (by kernel_rfl) (fun _ _ _ h => h) (Or.inr ⟨by rfl, rfl⟩) ?_ ?_
 rotate_left
 ·simp only [Act.put, zA_, z0_, z1_, i64_w, i32_w]
  rfl
 refine pure_ (i := 7) (N := some 27) (v := undef) (a' := ?_) (bs 10 255) rfl rfl (by kernel_rfl) (fun _ _ _ h => h) (Or.inr ⟨by rfl, rfl⟩) ?_ ?_
 rotate_left
 ·simp only [Act.put, zA_, z0_, z1_, i64_w, i32_w]
  rfl
 refine pure_ (i := 8) (N := some 28) (v := undef) (a' := ?_) (bs 10 511) rfl rfl (by kernel_rfl) (fun _ _ _ h => h) (Or.inr ⟨by rfl, rfl⟩) ?_ ?_
 rotate_left
 ·simp only [Act.put, zA_, z0_, z1_, i64_w, i32_w]
  rfl
 refine pure_ (i := 9) (N := some 29) (v := ?_) (a' := ?_) (bs 10 1023) rfl rfl (by kernel_rfl) (fun _ _ _ h => h) (Or.inl ⟨by rfl, ?_⟩) ?_ ?_
 rotate_left
 ·intro w'
  go_simp
  with_reducible rfl
 rotate_left
 ·simp only [Act.put, zA_, z0_, z1_, i64_w, i32_w]
  rfl
 refine done_ (by kernel_rfl) ?_
 clear kg1_8 kg1_9; have kg0_1 := Bg0.at 1 rfl; have kg0_6 := Bg0.at 6 rfl; have kg1_7 := Bg1.at 7 rfl
 go_wp2_with (first | ((go_at_call 33); (with_reducible refine (pushC 10 p6 g_7 A1 k1 l1 hw1 (by decide) Wp6 Wg_7 _ ⟨(Kd.C_below hr1 HS.out)⟩ hk1 hL1).mono ?_); rintro e w5 ⟨qA, qk, rfl, hk_qA, RB_qA, hF_qA, hl⟩; have NRB_qA_g0 := hF_qA.ne (NE_old ⟨hr1⟩ GEg0) Bg0; have NRB_qA_g1 := hF_qA.ne (NE_old ⟨hr1⟩ GEg1) Bg1; have NRB_qA_g2 := hF_qA.ne (NE_old ⟨hr1⟩ GEg2) Bg2; replace hF_qA := hF_qA.mono HS.le; replace Bg0 := Bg0.below hl; replace Bg1 := Bg1.below hl; replace Bg2 := Bg2.below hl; replace HS := HS.below hl; clear hl; clear kg0_1 kg0_6 kg1_7) | (refine seg_store rfl rfl 23 (.tmp 38) (.tmp 37) rfl g0 1 [.slice qA (uPush l1 10 p6 g_7).length qk] [.int .i64 p0, .slice qA (uPush l1 10 p6 g_7).length qk, .int .u64 p2, .int .u64 p3, .int .u64 p4, .int .u64 p5, .int .u64 p6, .int .u64 p7, .int .u64 p8, .int .u64 p9] (.slice qA (uPush l1 10 p6 g_7).length qk) rfl rfl rfl Bg0 (by kernel_rfl) (nle rfl) rfl rfl ?_; intro w6 hn hw; replace Bg1 := Bg1.grown hw Ng1_g0; replace Bg2 := Bg2.grown hw Ng2_g0; replace RB_qA := RB_qA.grown hw NRB_qA_g0; replace HS := HS.grown hw GEg0; replace Bg0 := hn; clear hw; have kg0_3 := Bg0.at 3 rfl; have kg1_0 := Bg1.at 0 rfl; clear hn))
 all_goals go_quiet (first | (go_at_call 30; with_reducible exact wigwagref01_AddT.Q p3 10000 Wp3 (by decide) _ _))
 all_goals (generalize hW : World.drewN w6 _ = w7; have hl : Below w6.heap.size w6 w7 := (by rw [← hW]; exact pw_below_drewN (Below.refl _ _) _); clear hW; replace Bg0 := Bg0.below hl; replace Bg1 := Bg1.below hl; replace Bg2 := Bg2.below hl; replace RB_qA := RB_qA.below hl; replace HS := HS.below hl; clear hl; clear kg0_3 kg1_0; have kg0_2 := Bg0.at 2 rfl; have kg1_5 := Bg1.at 5 rfl)
 go_wp2_with (first | (refine seg_load rfl (N := 64) rfl 26 (.tmp 2) rfl g0 0 [.int .i64 p0, .slice qA (uPush l1 10 p6 g_7).length qk, .int .u64 p2, .int .u64 p3, .int .u64 p4, .int .u64 p5, .int .u64 p6, .int .u64 p7, .int .u64 p8, .int .u64 p9] rfl Bg0 rfl Try.underlying26 rfl (by kernel_rfl) ?_) | (refine seg_load rfl (N := 65) rfl 28 (.tmp 3) rfl g1 0 [.int .u64 g_0, .int .u64 g_1, .int .u64 g_2, .int .u64 g_3, .int .u64 g_4, .int .u64 g_5, .int .u64 g_6, .int .u64 g_7, .bool false, .bool false] rfl Bg1 rfl Try.underlying28 rfl (by kernel_rfl) ?_) | ((go_at_call 34); (with_reducible refine (moveC p0 p2 p3 p4 p5 p6 p7 p8 p9 g_0 g_1 g_2 g_3 g_4 g_5 g_6 g_7 false false false qA qk (uPush l1 10 p6 g_7) (wf_push hw1 Wp6 Wg_7) Wp2 Wp3 Wp4 Wp5 Wp6 Wp7 Wp8 Wp9 _ RB_qA.out hk_qA).mono ?_); rintro e w8 ⟨rfl, hl⟩; replace Bg0 := Bg0.below hl; replace Bg1 := Bg1.below hl; replace Bg2 := Bg2.below hl; replace RB_qA := RB_qA.below hl; replace HS := HS.below hl; clear hl; clear kg0_2 kg1_5) | (refine seg_store rfl rfl 26 (.tmp 4) (.tmp 67) rfl g2 0 [.int .i64 ((pMove p0 (uPush l1 10 p6 g_7) p2 p3 p4 p5 p6 p7 p8 p9 g_0 g_6 false false false).1), .slice qA (uPush l1 10 p6 g_7).length qk, .int .u64 p2, .int .u64 p3, .int .u64 ((pMove p0 (uPush l1 10 p6 g_7) p2 p3 p4 p5 p6 p7 p8 p9 g_0 g_6 false false false).2.2.2.2.1), .int .u64 ((pMove p0 (uPush l1 10 p6 g_7) p2 p3 p4 p5 p6 p7 p8 p9 g_0 g_6 false false false).2.2.2.2.2.1), .int .u64 p6, .int .u64 ((pMove p0 (uPush l1 10 p6 g_7) p2 p3 p4 p5 p6 p7 p8 p9 g_0 g_6 false false false).2.2.2.2.2.2.2.1), .int .u64 ((pMove p0 (uPush l1 10 p6 g_7) p2 p3 p4 p5 p6 p7 p8 p9 g_0 g_6 false false false).2.2.2.2.2.2.2.2.1), .int .u64 p9] [.int .i64 ((pMove p0 (uPush l1 10 p6 g_7) p2 p3 p4 p5 p6 p7 p8 p9 g_0 g_6 false false false).1), .slice qA (uPush l1 10 p6 g_7).length qk, .int .u64 p2, .int .u64 p3, .int .u64 ((pMove p0 (uPush l1 10 p6 g_7) p2 p3 p4 p5 p6 p7 p8 p9 g_0 g_6 false false false).2.2.2.2.1), .int .u64 ((pMove p0 (uPush l1 10 p6 g_7) p2 p3 p4 p5 p6 p7 p8 p9 g_0 g_6 false false false).2.2.2.2.2.1), .int .u64 p6, .int .u64 ((pMove p0 (uPush l1 10 p6 g_7) p2 p3 p4 p5 p6 p7 p8 p9 g_0 g_6 false false false).2.2.2.2.2.2.2.1), .int .u64 ((pMove p0 (uPush l1 10 p6 g_7) p2 p3 p4 p5 p6 p7 p8 p9 g_0 g_6 false false false).2.2.2.2.2.2.2.2.1), .int .u64 p9] (.agg #[.int .i64 ((pMove p0 (uPush l1 10 p6 g_7) p2 p3 p4 p5 p6 p7 p8 p9 g_0 g_6 false false false).1), .slice qA (uPush l1 10 p6 g_7).length qk, .int .u64 p2, .int .u64 p3, .int .u64 ((pMove p0 (uPush l1 10 p6 g_7) p2 p3 p4 p5 p6 p7 p8 p9 g_0 g_6 false false false).2.2.2.2.1), .int .u64 ((pMove p0 (uPush l1 10 p6 g_7) p2 p3 p4 p5 p6 p7 p8 p9 g_0 g_6 false false false).2.2.2.2.2.1), .int .u64 p6, .int .u64 ((pMove p0 (uPush l1 10 p6 g_7) p2 p3 p4 p5 p6 p7 p8 p9 g_0 g_6 false false false).2.2.2.2.2.2.2.1), .int .u64 ((pMove p0 (uPush l1 10 p6 g_7) p2 p3 p4 p5 p6 p7 p8 p9 g_0 g_6 false false false).2.2.2.2.2.2.2.2.1), .int .u64 p9]) rfl rfl rfl Bg2 (by kernel_rfl) (nle rfl) rfl rfl ?_; intro w9 hn hw; replace Bg0 := Bg0.grown hw Ng2_g0.symm; replace Bg1 := Bg1.grown hw Ng2_g1.symm; replace RB_qA := RB_qA.grown hw NRB_qA_g2; replace HS := HS.grown hw GEg2; replace Bg2 := hn; clear hw; clear hn))
 all_goals exact bodyPost_ret (results_cell1 rfl _ _ g2 26 [.int .i64 ((pMove p0 (uPush l1 10 p6 g_7) p2 p3 p4 p5 p6 p7 p8 p9 g_0 g_6 false false false).1), .slice qA (uPush l1 10 p6 g_7).length qk, .int .u64 p2, .int .u64 p3, .int .u64 ((pMove p0 (uPush l1 10 p6 g_7) p2 p3 p4 p5 p6 p7 p8 p9 g_0 g_6 false false false).2.2.2.2.1), .int .u64 ((pMove p0 (uPush l1 10 p6 g_7) p2 p3 p4 p5 p6 p7 p8 p9 g_0 g_6 false false false).2.2.2.2.2.1), .int .u64 p6, .int .u64 ((pMove p0 (uPush l1 10 p6 g_7) p2 p3 p4 p5 p6 p7 p8 p9 g_0 g_6 false false false).2.2.2.2.2.2.2.1), .int .u64 ((pMove p0 (uPush l1 10 p6 g_7) p2 p3 p4 p5 p6 p7 p8 p9 g_0 g_6 false false false).2.2.2.2.2.2.2.2.1), .int .u64 p9] _ rfl Bg2 Try.underlying26 rfl (by kernel_rfl)) rfl ⟨qA, qk, rfl, hk_qA, RB_qA, HS.out⟩
end Go.Proofs.Ytoanhimhomgjmaa.PPrN
