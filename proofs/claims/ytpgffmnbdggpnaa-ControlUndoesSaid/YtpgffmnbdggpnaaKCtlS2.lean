/- The bytes that a window may grow by, in its slow start. -/
import Derived.Deep.DeepMust
import Derived.Test.YtpgffmnbdggpnaaKCtlS
import Derived.Test.YtpgffmnbdggpnaaKCtlG2
import Derived.Test.YtpgffmnbdggpnaaKCtlA
import Derived.Test.YtpgffmnbdggpnaaKW
namespace Go.Proofs.Ytpgffmnbdggpnaa.PCv
open Go.RowKit Go.Proofs.YtpgffmnbdggpnaaW.PrintWords Go.Proofs.YtpgffmnbdggpnaaW.PrintLast Go.Proofs.YtpgffmnbdggpnaaW.PrintMore
set_option linter.unusedVariables false
set_option linter.unusedSimpArgs false
set_option maxRecDepth 100000 in
set_option maxHeartbeats 4000000 in
theorem slowC1_0 (g_0 : Int) (g_1 : Int) (g_2 : Int) (g_3 : Int) (g_4 : Int) (g_5 : Int) (g_6 : Int) (g_7 : Int) (g_8 : Bool) (g_9 : Bool) (c1 : Int) (c2 : Int) (c3 : Int) (c4 : Int) (c6 : Int) (c7 : Int) (c8 : Int) (c9 : Int) (c10 : Int) (c11 : Int) (c12 : Int) (c13 : Int) (c14 : Int) (c15 : Bool) (c16 : Int) (c17 : Int) (c18 : Int) (c19 : Int) (c20 : Int) (c22 : Int) (c23 : Int) (c24 : Int) (c25 : Int) (c26 : Int) (c27 : Int) (c28 : Int) (c29 : Int) (c30 : Int) (c31 : Int) (c32 : Int) (c33 : Int) (c34 : Int) (c35 : Int) (c36 : Int) (c37 : Int) (c38 : Bool) (c39 : Int) (c40 : Int) (Wg_0 : W64 g_0) (Wg_1 : W64 g_1) (Wg_2 : W64 g_2) (Wg_3 : W64 g_3) (Wg_4 : W64 g_4) (Wg_5 : W64 g_5) (Wg_6 : W64 g_6) (Wg_7 : W64 g_7) (Wc1 : W64 c1) (Wc2 : W64 c2) (Wc3 : W64 c3) (Wc4 : W64 c4) (Wc6 : W64 c6) (Wc7 : W64 c7) (Wc8 : W64 c8) (Wc9 : W64 c9) (Wc10 : W64 c10) (Wc11 : W64 c11) (Wc12 : W64 c12) (Wc13 : W64 c13) (Wc14 : W64 c14) (Wc16 : W64 c16) (Wc17 : W64 c17) (Wc18 : W64 c18) (Wc19 : W64 c19) (Wc22 : W64 c22) (Wc23 : W64 c23) (Wc24 : W64 c24) (Wc25 : W64 c25) (Wc26 : W64 c26) (Wc27 : W64 c27) (Wc28 : W64 c28) (Wc29 : W64 c29) (Wc30 : W64 c30) (Wc31 : W64 c31) (Wc32 : W64 c32) (Wc33 : W64 c33) (Wc34 : W64 c34) (Wc35 : W64 c35) (Wc36 : W64 c36) (Wc37 : W64 c37) (Wc39 : W64 c39) (Wc40 : W64 c40) (g : Nat) (A21 : Option Addr) (n21 : Nat) (k21 : Nat) (h0 : (decide (c2 ≤ c1)) = false) (w : World) (Bg : Blk w g 36 (K36 1 c1 c2 c3 c4 0 c6 c7 c8 c9 c10 c11 c12 c13 c14 c15 c16 c17 c18 c19 c20 (.slice A21 n21 k21) c22 c23 c24 c25 c26 c27 c28 c29 c30 c31 c32 c33 c34 c35 c36 c37 c38 c39 c40)) :
    Calls Try.prog 21 #[.pointer (some ⟨g, 0, none⟩), .agg #[.int .u64 g_0, .int .u64 g_1, .int .u64 g_2, .int .u64 g_3, .int .u64 g_4, .int .u64 g_5, .int .u64 g_6, .int .u64 g_7, .bool g_8, .bool g_9]] w fun e w' => ∃ (q th p0 p1 p2 p3 p4 p5 p6 : Int), e = .returned (.int .u64 q) ∧ W64 q ∧ W64 th ∧ (p0 = 0 ∨ p0 = 1 ∨ p0 = 2) ∧ W64 p1 ∧ W64 p2 ∧ W64 p3 ∧ W64 p4 ∧ W64 p5 ∧ W64 p6 ∧ Blk w' g 36 (K36 1 c1 th c3 c4 p0 p1 p2 p3 p4 p5 p6 c12 c13 c14 c15 c16 c17 c18 c19 c20 (.slice A21 n21 k21) c22 c23 c24 c25 c26 c27 c28 c29 c30 c31 c32 c33 c34 c35 c36 c37 c38 c39 c40) ∧ w.grownBy w' (some g) := by
  have hu27 := Try.underlying27
  have hu36 := Try.underlying36
  have hu40 := Try.underlying40
  have HS := Turned.refl g w
  go_enter Try.func21, Try.ntmps21
  go_wp2_with (first | ((with_reducible refine gate_dst (N := 3) rfl ?_); refine seg_new rfl (N := 3) rfl [.int .u64 g_0, .int .u64 g_1, .int .u64 g_2, .int .u64 g_3, .int .u64 g_4, .int .u64 g_5, .int .u64 g_6, .int .u64 g_7, .bool g_8, .bool g_9] 40 ?hr ?_; (case hr => first | (go_simp; done) | (go_simp; rfl) | kernel_rfl); intro g0 hg w1 hn hl; have Ng0_g := ne_new Bg hg; have GEg0 := HS.ge hg; clear hg; replace Bg := Bg.below hl; replace HS := HS.below hl; have Bg0 := hn; clear hl hn) | ((go_at_call 36); (with_reducible refine (parts_reno g _ ((Bg.cell 0).trans rfl)).mono ?_); rintro e w2 ⟨rfl, hd⟩; have hl := hd.below; clear hd; replace Bg := Bg.below hl; replace Bg0 := Bg0.below hl; replace HS := HS.below hl; clear hl; have kg_1 := Bg.at 1 rfl; have kg_2 := Bg.at 2 rfl))
  all_goals go_quiet (fail)
  all_goals (generalize hW : World.drewN w2 _ = w3; have hl : Below w2.heap.size w2 w3 := (by rw [← hW]; exact pw_below_drewN (Below.refl _ _) _); clear hW; replace Bg := Bg.below hl; replace Bg0 := Bg0.below hl; replace HS := HS.below hl; clear hl; clear kg_1 kg_2; have kg_5 := Bg.at 5 rfl; have zg_5 := Bg.frozen 5; have kg_6 := Bg.at 6 rfl; have zg_6 := Bg.frozen 6; have kg_7 := Bg.at 7 rfl; have zg_7 := Bg.frozen 7; have kg_8 := Bg.at 8 rfl; have zg_8 := Bg.frozen 8; have kg_9 := Bg.at 9 rfl; have zg_9 := Bg.frozen 9; have kg_10 := Bg.at 10 rfl; have zg_10 := Bg.frozen 10; have kg_11 := Bg.at 11 rfl; have zg_11 := Bg.frozen 11; have kg0_3 := Bg0.at 3 rfl; have kg0_4 := Bg0.at 4 rfl; have kg0_5 := Bg0.at 5 rfl)
  go_wp2
  refine start_ (n := 15) (S := fun w' => Blk w' g 36 (K36 1 c1 c2 c3 c4 0 c6 c7 c8 c9 c10 c11 c12 c13 c14 c15 c16 c17 c18 c19 c20 (.slice A21 n21 k21) c22 c23 c24 c25 c26 c27 c28 c29 c30 c31 c32 c33 c34 c35 c36 c37 c38 c39 c40) ∧ w'.cell? ⟨g0, 3, none⟩ = some (.int .u64 g_3) ∧ w'.cell? ⟨g0, 4, none⟩ = some (.int .u64 g_4) ∧ w'.cell? ⟨g0, 5, none⟩ = some (.int .u64 g_5)) (ds := [14]) (bs 15 0) (by kernel_rfl) rfl rfl ⟨Bg.drew, ((Bg0.drew.cell 3).trans rfl), ((Bg0.drew.cell 4).trans rfl), ((Bg0.drew.cell 5).trans rfl)⟩ (fun hHeld => ?_)
  generalize hWd : World.drew w3 = w4 at hHeld ⊢
  have hl : Below w3.heap.size w3 w4 := (by rw [← hWd]; exact below_drew1 (Below.refl _ _))
  clear hWd
  replace Bg := Bg.below hl; replace Bg0 := Bg0.below hl; replace HS := HS.below hl; clear hl; replace kg_5 := Bg.at 5 rfl; replace zg_5 := Bg.frozen 5; replace kg_6 := Bg.at 6 rfl; replace zg_6 := Bg.frozen 6; replace kg_7 := Bg.at 7 rfl; replace zg_7 := Bg.frozen 7; replace kg_8 := Bg.at 8 rfl; replace zg_8 := Bg.frozen 8; replace kg_9 := Bg.at 9 rfl; replace zg_9 := Bg.frozen 9; replace kg_10 := Bg.at 10 rfl; replace zg_10 := Bg.frozen 10; replace kg_11 := Bg.at 11 rfl; replace zg_11 := Bg.frozen 11; replace kg0_3 := Bg0.at 3 rfl; replace kg0_4 := Bg0.at 4 rfl; replace kg0_5 := Bg0.at 5 rfl
  refine pu 0 23 (.pointer (some ⟨g, 0, none⟩)) 1 rfl rfl (by kernel_rfl) (fun _ _ _ h => h) (by rfl) (fun _ => by kernel_rfl) rfl ?_
  refine pu 1 24 (.pointer (some ⟨g, 0, none⟩)) 3 rfl rfl (by kernel_rfl) (fun _ _ _ h => h) (by rfl) (fun _ => by kernel_rfl) rfl ?_
  refine pu 2 25 (.pointer (some ⟨g, 0, none⟩)) 7 rfl rfl (by kernel_rfl) (fun _ _ _ h => h) (by rfl) (fun _ => by kernel_rfl) rfl ?_
  refine pu 3 26 (.pointer (some ⟨g, 5, none⟩)) 15 rfl rfl (by kernel_rfl) (fun _ _ _ h => h) (by rfl) (fun _ => by kernel_rfl) rfl ?_
  refine pu 5 28 (.pointer (some ⟨g0, 3, none⟩)) 47 rfl rfl (by kernel_rfl) (fun _ _ _ h => h) (by rfl) (fun _ => by kernel_rfl) rfl ?_
  refine pu 7 30 (.pointer (some ⟨g0, 4, none⟩)) 175 rfl rfl (by kernel_rfl) (fun _ _ _ h => h) (by rfl) (fun _ => by kernel_rfl) rfl ?_
  refine pu 9 32 (.pointer (some ⟨g0, 5, none⟩)) 687 rfl rfl (by kernel_rfl) (fun _ _ _ h => h) (by rfl) (fun _ => by kernel_rfl) rfl ?_
  refine norm_ (a' := ?_) ?_ ?_
  rotate_left
  · simp only [Act.put, List.setIfInBounds_toArray, List.set_cons_zero, List.set_cons_succ, i64_w, i32_w]
    rfl
  refine take_ (i := 4) (N := some 27) (v := .agg #[.int .i64 0, .int .u64 c6, .int .u64 c7, .int .u64 c8, .int .u64 c9, .int .u64 c10, .int .u64 c11]) (a' := ?_) (bs 15 703) rfl rfl (by kernel_rfl) (fun _ _ _ h => h) (Or.inl ⟨by rfl, ?_⟩) hHeld ?_ ?_
  · rintro w' ⟨s0, s1, s2, s3⟩
    exact exec_seg_load 27 (.tmp 26) (by rfl) g 5 [.int .i64 0, .int .u64 c6, .int .u64 c7, .int .u64 c8, .int .u64 c9, .int .u64 c10, .int .u64 c11] (by rfl) s0 (by rfl) Try.underlying27 (by rfl) (by kernel_rfl)
  rotate_left
  · simp only [Act.put, List.setIfInBounds_toArray, List.set_cons_zero, List.set_cons_succ, i64_w, i32_w]
    rfl
  refine take_ (i := 6) (N := some 29) (v := ?_) (a' := ?_) (bs 15 767) rfl rfl (by kernel_rfl) (fun _ _ _ h => h) (Or.inl ⟨by rfl, ?_⟩) hHeld ?_ ?_
  rotate_left
  · rintro w' ⟨s0, s1, s2, s3⟩
    go_simp
    with_reducible rfl
  rotate_left
  · simp only [Act.put, List.setIfInBounds_toArray, List.set_cons_zero, List.set_cons_succ, i64_w, i32_w]
    rfl
  refine take_ (i := 8) (N := some 31) (v := ?_) (a' := ?_) (bs 15 1023) rfl rfl (by kernel_rfl) (fun _ _ _ h => h) (Or.inl ⟨by rfl, ?_⟩) hHeld ?_ ?_
  rotate_left
  · rintro w' ⟨s0, s1, s2, s3⟩
    go_simp
    with_reducible rfl
  rotate_left
  · simp only [Act.put, List.setIfInBounds_toArray, List.set_cons_zero, List.set_cons_succ, i64_w, i32_w]
    rfl
  refine take_ (i := 10) (N := some 33) (v := ?_) (a' := ?_) (bs 15 2047) rfl rfl (by kernel_rfl) (fun _ _ _ h => h) (Or.inl ⟨by rfl, ?_⟩) hHeld ?_ ?_
  rotate_left
  · rintro w' ⟨s0, s1, s2, s3⟩
    go_simp
    with_reducible rfl
  rotate_left
  · simp only [Act.put, List.setIfInBounds_toArray, List.set_cons_zero, List.set_cons_succ, i64_w, i32_w]
    rfl
  refine one_ (i := 11) (N := some 34) (bs 15 4095) rfl rfl (by kernel_rfl) (by decide) (fun K hK => ?_)
  refine goes_ Try.func49 (by kernel_rfl) rfl #[.agg #[.int .i64 0, .int .u64 c6, .int .u64 c7, .int .u64 c8, .int .u64 c9, .int .u64 c10, .int .u64 c11], .int .u64 g_3, .int .u64 g_4, .int .u64 g_5] (by rfl) rfl rfl (by simp only [List.map_toArray, List.map_cons, List.map_nil]; rfl) ?_
  with_reducible refine (sampleC0 c6 c7 c8 c9 c10 c11 g_3 g_4 g_5 Wc6 Wc7 Wc8 Wc9 Wc10 Wc11 Wg_3 Wg_4 Wg_5 _).mono ?_
  rintro e w5 ⟨q0, q1, q2, q3, q4, q5, q6, rfl, hq0, Wq1, Wq2, Wq3, Wq4, Wq5, Wq6, hl⟩
  refine ⟨_, rfl, ?_⟩
  replace Bg := Bg.below hl; replace Bg0 := Bg0.below hl; replace HS := HS.below hl; clear hl; replace kg_5 := Bg.at 5 rfl; replace zg_5 := Bg.frozen 5; replace kg_6 := Bg.at 6 rfl; replace zg_6 := Bg.frozen 6; replace kg_7 := Bg.at 7 rfl; replace zg_7 := Bg.frozen 7; replace kg_8 := Bg.at 8 rfl; replace zg_8 := Bg.frozen 8; replace kg_9 := Bg.at 9 rfl; replace zg_9 := Bg.frozen 9; replace kg_10 := Bg.at 10 rfl; replace zg_10 := Bg.frozen 10; replace kg_11 := Bg.at 11 rfl; replace zg_11 := Bg.frozen 11; replace kg0_3 := Bg0.at 3 rfl; replace kg0_4 := Bg0.at 4 rfl; replace kg0_5 := Bg0.at 5 rfl
  refine hK.out _ _ ⟨Bg, ((Bg0.cell 3).trans rfl), ((Bg0.cell 4).trans rfl), ((Bg0.cell 5).trans rfl)⟩ (fun hHeld => ?_)
  clear hK K
  refine norm_ (a' := ?_) ?_ ?_
  rotate_left
  · show Act.put _ (some 34) _ = _
    simp only [Act.put, List.setIfInBounds_toArray, List.set_cons_zero, List.set_cons_succ, i64_w, i32_w]
    rfl
  refine pu 12 35 (.pointer (some ⟨g, 0, none⟩)) 8191 rfl rfl (by kernel_rfl) (fun _ _ _ h => h) (by rfl) (fun _ => by kernel_rfl) rfl ?_
  refine pu 13 36 (.pointer (some ⟨g, 5, none⟩)) 16383 rfl rfl (by kernel_rfl) (fun _ _ _ h => h) (by rfl) (fun _ => by kernel_rfl) rfl ?_
  refine norm_ (a' := ?_) ?_ ?_
  rotate_left
  · simp only [Act.put, List.setIfInBounds_toArray, List.set_cons_zero, List.set_cons_succ, i64_w, i32_w]
    rfl
  refine last_ (i := 14) (N := none) (bs 15 32767) rfl rfl (by kernel_rfl) (by decide) (fun K hK => ?_)
  refine skip_ (w1 := ?_) (by rfl) rfl ?_ ?_
  rotate_left
  · go_simp
    rfl
  refine hK.out _ _ ?_
  clear hK K
  refine done_ (by kernel_rfl) ?_
  refine letter ?_
  intro w6 hW
  have Bn_ : Blk w6 g 36 (K36 1 c1 c2 c3 c4 q0 q1 q2 q3 q4 q5 q6 c12 c13 c14 c15 c16 c17 c18 c19 c20 (.slice A21 n21 k21) c22 c23 c24 c25 c26 c27 c28 c29 c30 c31 c32 c33 c34 c35 c36 c37 c38 c39 c40) := (by rw [hW]; (repeat (first | (with_reducible refine Blk.drewN ?_ _) | (with_reducible refine Blk.drew ?_))); refine Blk.set (l := (K36 1 c1 c2 c3 c4 q0 q1 q2 q3 q4 q5 c11 c12 c13 c14 c15 c16 c17 c18 c19 c20 (.slice A21 n21 k21) c22 c23 c24 c25 c26 c27 c28 c29 c30 c31 c32 c33 c34 c35 c36 c37 c38 c39 c40)) ?_ 11 _ rfl; (repeat (first | (with_reducible refine Blk.drewN ?_ _) | (with_reducible refine Blk.drew ?_))); refine Blk.set (l := (K36 1 c1 c2 c3 c4 q0 q1 q2 q3 q4 c10 c11 c12 c13 c14 c15 c16 c17 c18 c19 c20 (.slice A21 n21 k21) c22 c23 c24 c25 c26 c27 c28 c29 c30 c31 c32 c33 c34 c35 c36 c37 c38 c39 c40)) ?_ 10 _ rfl; (repeat (first | (with_reducible refine Blk.drewN ?_ _) | (with_reducible refine Blk.drew ?_))); refine Blk.set (l := (K36 1 c1 c2 c3 c4 q0 q1 q2 q3 c9 c10 c11 c12 c13 c14 c15 c16 c17 c18 c19 c20 (.slice A21 n21 k21) c22 c23 c24 c25 c26 c27 c28 c29 c30 c31 c32 c33 c34 c35 c36 c37 c38 c39 c40)) ?_ 9 _ rfl; (repeat (first | (with_reducible refine Blk.drewN ?_ _) | (with_reducible refine Blk.drew ?_))); refine Blk.set (l := (K36 1 c1 c2 c3 c4 q0 q1 q2 c8 c9 c10 c11 c12 c13 c14 c15 c16 c17 c18 c19 c20 (.slice A21 n21 k21) c22 c23 c24 c25 c26 c27 c28 c29 c30 c31 c32 c33 c34 c35 c36 c37 c38 c39 c40)) ?_ 8 _ rfl; (repeat (first | (with_reducible refine Blk.drewN ?_ _) | (with_reducible refine Blk.drew ?_))); refine Blk.set (l := (K36 1 c1 c2 c3 c4 q0 q1 c7 c8 c9 c10 c11 c12 c13 c14 c15 c16 c17 c18 c19 c20 (.slice A21 n21 k21) c22 c23 c24 c25 c26 c27 c28 c29 c30 c31 c32 c33 c34 c35 c36 c37 c38 c39 c40)) ?_ 7 _ rfl; (repeat (first | (with_reducible refine Blk.drewN ?_ _) | (with_reducible refine Blk.drew ?_))); refine Blk.set (l := (K36 1 c1 c2 c3 c4 q0 c6 c7 c8 c9 c10 c11 c12 c13 c14 c15 c16 c17 c18 c19 c20 (.slice A21 n21 k21) c22 c23 c24 c25 c26 c27 c28 c29 c30 c31 c32 c33 c34 c35 c36 c37 c38 c39 c40)) ?_ 6 _ rfl; (repeat (first | (with_reducible refine Blk.drewN ?_ _) | (with_reducible refine Blk.drew ?_))); refine Blk.set (l := (K36 1 c1 c2 c3 c4 0 c6 c7 c8 c9 c10 c11 c12 c13 c14 c15 c16 c17 c18 c19 c20 (.slice A21 n21 k21) c22 c23 c24 c25 c26 c27 c28 c29 c30 c31 c32 c33 c34 c35 c36 c37 c38 c39 c40)) ?_ 5 _ rfl; (repeat (first | (with_reducible refine Blk.drewN ?_ _) | (with_reducible refine Blk.drew ?_))); exact Bg)
  replace Bg := Bn_
  clear Bn_
  have Bn_ : Blk w6 g0 40 [.int .u64 g_0, .int .u64 g_1, .int .u64 g_2, .int .u64 g_3, .int .u64 g_4, .int .u64 g_5, .int .u64 g_6, .int .u64 g_7, .bool g_8, .bool g_9] := (by rw [hW]; (repeat (first | (with_reducible refine Blk.drewN ?_ _) | (with_reducible refine Blk.drew ?_))); refine Blk.setFar ?_ Ng0_g; (repeat (first | (with_reducible refine Blk.drewN ?_ _) | (with_reducible refine Blk.drew ?_))); refine Blk.setFar ?_ Ng0_g; (repeat (first | (with_reducible refine Blk.drewN ?_ _) | (with_reducible refine Blk.drew ?_))); refine Blk.setFar ?_ Ng0_g; (repeat (first | (with_reducible refine Blk.drewN ?_ _) | (with_reducible refine Blk.drew ?_))); refine Blk.setFar ?_ Ng0_g; (repeat (first | (with_reducible refine Blk.drewN ?_ _) | (with_reducible refine Blk.drew ?_))); refine Blk.setFar ?_ Ng0_g; (repeat (first | (with_reducible refine Blk.drewN ?_ _) | (with_reducible refine Blk.drew ?_))); refine Blk.setFar ?_ Ng0_g; (repeat (first | (with_reducible refine Blk.drewN ?_ _) | (with_reducible refine Blk.drew ?_))); refine Blk.setFar ?_ Ng0_g; (repeat (first | (with_reducible refine Blk.drewN ?_ _) | (with_reducible refine Blk.drew ?_))); exact Bg0)
  replace Bg0 := Bn_
  clear Bn_
  have HS_ : Turned g w w6 := (by rw [hW]; repeat (first | (with_reducible exact HS) | (with_reducible refine Turned.drewN ?_ _) | (with_reducible refine Turned.drew ?_) | (with_reducible refine Turned.set ?_)))
  replace HS := HS_
  clear HS_ hW
  clear zg_5 kg_6 zg_6 kg_7 zg_7 kg_8 zg_8 kg_9 zg_9 kg_10 zg_10 kg_11 zg_11 kg0_3 kg0_4 kg0_5; replace kg_5 := Bg.at 5 rfl
  go_upto_if 42 with (fail)
  (try simp only [Act.put, List.setIfInBounds_toArray, List.set_cons_zero, List.set_cons_succ])
  go_cut [] (fun wc => Blk wc g 36 (K36 1 c1 c2 c3 c4 q0 q1 q2 q3 q4 q5 q6 c12 c13 c14 c15 c16 c17 c18 c19 c20 (.slice A21 n21 k21) c22 c23 c24 c25 c26 c27 c28 c29 c30 c31 c32 c33 c34 c35 c36 c37 c38 c39 c40) ∧ Blk wc g0 40 [.int .u64 g_0, .int .u64 g_1, .int .u64 g_2, .int .u64 g_3, .int .u64 g_4, .int .u64 g_5, .int .u64 g_6, .int .u64 g_7, .bool g_8, .bool g_9] ∧ Turned g w wc)
  case first =>
    rcases Bool.eq_false_or_eq_true (q0 == 2) with h1 | h1
    · (try rw [h1])
      clear kg_5; have kg_1 := Bg.at 1 rfl
      go_wp2_with (first | ((with_reducible refine gate_ (.store 23 (.tmp 47) (.tmp 46)) rfl ?_); refine seg_store rfl rfl 23 (.tmp 47) (.tmp 46) rfl g 2 [.int .u64 c1] (K36 1 c1 c1 c3 c4 q0 q1 q2 q3 q4 q5 q6 c12 c13 c14 c15 c16 c17 c18 c19 c20 (.slice A21 n21 k21) c22 c23 c24 c25 c26 c27 c28 c29 c30 c31 c32 c33 c34 c35 c36 c37 c38 c39 c40) (.int .u64 c1) ?hx ?hy rfl Bg (by kernel_rfl) (Nat.le_of_ble_eq_true rfl) rfl rfl ?_; (case hx => first | rfl | (go_simp; done) | (go_simp; rfl)); (case hy => first | rfl | (go_simp; done) | (go_simp; rfl)); intro w7 hn hw; replace Bg0 := Bg0.grown hw Ng0_g; replace HS := HS.same hw; replace Bg := hn; clear hw; clear kg_1; have kg0_1 := Bg0.at 1 rfl; clear hn))
      all_goals (go_ret; exact ⟨_, _, _, _, _, _, _, _, _, rfl, Wg_1, Wc1, hq0, Wq1, Wq2, Wq3, Wq4, Wq5, Wq6, Bg, HS.out⟩)
    · (try rw [h1])
      clear kg_5
      go_wp2
      all_goals go_meet
      case rel => exact ⟨Bg, Bg0, HS⟩
  case rest =>
    clear kg_5 Bg Bg0 HS
    obtain ⟨Bg, Bg0, HS⟩ := hcut
    have kg0_1 := Bg0.at 1 rfl
    go_wp2
    refine start_ (n := 8) (S := fun w' => Blk w' g 36 (K36 1 c1 c2 c3 c4 q0 q1 q2 q3 q4 q5 q6 c12 c13 c14 c15 c16 c17 c18 c19 c20 (.slice A21 n21 k21) c22 c23 c24 c25 c26 c27 c28 c29 c30 c31 c32 c33 c34 c35 c36 c37 c38 c39 c40) ∧ w'.cell? ⟨g0, 1, none⟩ = some (.int .u64 g_1)) (ds := []) (bs 8 0) (by kernel_rfl) rfl rfl ⟨Bg.drew, ((Bg0.drew.cell 1).trans rfl)⟩ (fun hHeld => ?_)
    generalize hWd : World.drew wc = w61 at hHeld ⊢
    have hl : Below wc.heap.size wc w61 := (by rw [← hWd]; exact below_drew1 (Below.refl _ _))
    clear hWd
    replace Bg := Bg.below hl; replace Bg0 := Bg0.below hl; replace HS := HS.below hl; clear hl; replace kg0_1 := Bg0.at 1 rfl
    refine pu 0 50 (.pointer (some ⟨g, 0, none⟩)) 1 rfl rfl (by kernel_rfl) (fun _ _ _ h => h) (by rfl) (fun _ => by kernel_rfl) rfl ?_
    refine pu 1 51 (.pointer (some ⟨g, 0, none⟩)) 3 rfl rfl (by kernel_rfl) (fun _ _ _ h => h) (by rfl) (fun _ => by kernel_rfl) rfl ?_
    refine pu 2 52 (.pointer (some ⟨g, 5, none⟩)) 7 rfl rfl (by kernel_rfl) (fun _ _ _ h => h) (by rfl) (fun _ => by kernel_rfl) rfl ?_
    refine pu 4 54 (.pointer (some ⟨g0, 1, none⟩)) 23 rfl rfl (by kernel_rfl) (fun _ _ _ h => h) (by rfl) (fun _ => by kernel_rfl) rfl ?_
    refine norm_ (a' := ?_) ?_ ?_
    rotate_left
    · simp only [Act.put, List.setIfInBounds_toArray, List.set_cons_zero, List.set_cons_succ, i64_w, i32_w]
      rfl
    refine take_ (i := 3) (N := some 53) (v := .agg #[.int .i64 q0, .int .u64 q1, .int .u64 q2, .int .u64 q3, .int .u64 q4, .int .u64 q5, .int .u64 q6]) (a' := ?_) (bs 8 31) rfl rfl (by kernel_rfl) (fun _ _ _ h => h) (Or.inl ⟨by rfl, ?_⟩) hHeld ?_ ?_
    · rintro w' ⟨s0, s1⟩
      exact exec_seg_load 27 (.tmp 52) (by rfl) g 5 [.int .i64 q0, .int .u64 q1, .int .u64 q2, .int .u64 q3, .int .u64 q4, .int .u64 q5, .int .u64 q6] (by rfl) s0 (by rfl) Try.underlying27 (by rfl) (by kernel_rfl)
    rotate_left
    · simp only [Act.put, List.setIfInBounds_toArray, List.set_cons_zero, List.set_cons_succ, i64_w, i32_w]
      rfl
    refine take_ (i := 5) (N := some 55) (v := ?_) (a' := ?_) (bs 8 63) rfl rfl (by kernel_rfl) (fun _ _ _ h => h) (Or.inl ⟨by rfl, ?_⟩) hHeld ?_ ?_
    rotate_left
    · rintro w' ⟨s0, s1⟩
      go_simp
      with_reducible rfl
    rotate_left
    · simp only [Act.put, List.setIfInBounds_toArray, List.set_cons_zero, List.set_cons_succ, i64_w, i32_w]
      rfl
    refine one_ (i := 6) (N := some 56) (bs 8 127) rfl rfl (by kernel_rfl) (by decide) (fun K hK => ?_)
    refine goes_ Try.func50 (by kernel_rfl) rfl #[.agg #[.int .i64 q0, .int .u64 q1, .int .u64 q2, .int .u64 q3, .int .u64 q4, .int .u64 q5, .int .u64 q6], .int .u64 g_1] (by rfl) rfl rfl (by simp only [List.map_toArray, List.map_cons, List.map_nil]; rfl) ?_
    with_reducible refine (growC q0 q1 q2 q3 q4 q5 q6 g_1 Wg_1 _).mono ?_
    rintro e w62 ⟨rfl, hl⟩
    refine ⟨_, rfl, ?_⟩
    replace Bg := Bg.below hl; replace Bg0 := Bg0.below hl; replace HS := HS.below hl; clear hl; replace kg0_1 := Bg0.at 1 rfl
    refine hK.out _ _ ⟨Bg, ((Bg0.cell 1).trans rfl)⟩ (fun hHeld => ?_)
    clear hK K
    refine norm_ (a' := ?_) ?_ ?_
    rotate_left
    · show Act.put _ (some 56) _ = _
      simp only [Act.put, List.setIfInBounds_toArray, List.set_cons_zero, List.set_cons_succ, i64_w, i32_w]
      rfl
    refine pure_ (i := 7) (N := some 4) (v := ?_) (a' := ?_) (bs 8 255) rfl rfl (by kernel_rfl) (fun _ _ _ h => h) (Or.inl ⟨by rfl, ?_⟩) ?_ ?_
    rotate_left
    · intro w'
      go_simp
      with_reducible rfl
    rotate_left
    · simp only [Act.put, List.setIfInBounds_toArray, List.set_cons_zero, List.set_cons_succ, i64_w, i32_w]
      rfl
    refine done_ (by kernel_rfl) ?_
    refine letter ?_
    intro w63 hW
    have Bn_ : Blk w63 g 36 (K36 1 c1 c2 c3 c4 q0 q1 q2 q3 q4 q5 q6 c12 c13 c14 c15 c16 c17 c18 c19 c20 (.slice A21 n21 k21) c22 c23 c24 c25 c26 c27 c28 c29 c30 c31 c32 c33 c34 c35 c36 c37 c38 c39 c40) := (by rw [hW]; (repeat (first | (with_reducible refine Blk.drewN ?_ _) | (with_reducible refine Blk.drew ?_))); exact Bg)
    replace Bg := Bn_
    clear Bn_
    have Bn_ : Blk w63 g0 40 [.int .u64 g_0, .int .u64 g_1, .int .u64 g_2, .int .u64 g_3, .int .u64 g_4, .int .u64 g_5, .int .u64 g_6, .int .u64 g_7, .bool g_8, .bool g_9] := (by rw [hW]; (repeat (first | (with_reducible refine Blk.drewN ?_ _) | (with_reducible refine Blk.drew ?_))); exact Bg0)
    replace Bg0 := Bn_
    clear Bn_
    have HS_ : Turned g w w63 := (by rw [hW]; repeat (first | (with_reducible exact HS) | (with_reducible refine Turned.drewN ?_ _) | (with_reducible refine Turned.drew ?_)))
    replace HS := HS_
    clear HS_ hW
    clear kg0_1
    go_wp2
    all_goals (go_ret; exact ⟨_, _, _, _, _, _, _, _, _, rfl, (uGrow_w Wg_1), Wc2, hq0, Wq1, Wq2, Wq3, Wq4, Wq5, Wq6, Bg, HS.out⟩)
set_option maxRecDepth 100000 in
set_option maxHeartbeats 4000000 in
theorem slowC1_1 (g_0 : Int) (g_1 : Int) (g_2 : Int) (g_3 : Int) (g_4 : Int) (g_5 : Int) (g_6 : Int) (g_7 : Int) (g_8 : Bool) (g_9 : Bool) (c1 : Int) (c2 : Int) (c3 : Int) (c4 : Int) (c6 : Int) (c7 : Int) (c8 : Int) (c9 : Int) (c10 : Int) (c11 : Int) (c12 : Int) (c13 : Int) (c14 : Int) (c15 : Bool) (c16 : Int) (c17 : Int) (c18 : Int) (c19 : Int) (c20 : Int) (c22 : Int) (c23 : Int) (c24 : Int) (c25 : Int) (c26 : Int) (c27 : Int) (c28 : Int) (c29 : Int) (c30 : Int) (c31 : Int) (c32 : Int) (c33 : Int) (c34 : Int) (c35 : Int) (c36 : Int) (c37 : Int) (c38 : Bool) (c39 : Int) (c40 : Int) (Wg_0 : W64 g_0) (Wg_1 : W64 g_1) (Wg_2 : W64 g_2) (Wg_3 : W64 g_3) (Wg_4 : W64 g_4) (Wg_5 : W64 g_5) (Wg_6 : W64 g_6) (Wg_7 : W64 g_7) (Wc1 : W64 c1) (Wc2 : W64 c2) (Wc3 : W64 c3) (Wc4 : W64 c4) (Wc6 : W64 c6) (Wc7 : W64 c7) (Wc8 : W64 c8) (Wc9 : W64 c9) (Wc10 : W64 c10) (Wc11 : W64 c11) (Wc12 : W64 c12) (Wc13 : W64 c13) (Wc14 : W64 c14) (Wc16 : W64 c16) (Wc17 : W64 c17) (Wc18 : W64 c18) (Wc19 : W64 c19) (Wc22 : W64 c22) (Wc23 : W64 c23) (Wc24 : W64 c24) (Wc25 : W64 c25) (Wc26 : W64 c26) (Wc27 : W64 c27) (Wc28 : W64 c28) (Wc29 : W64 c29) (Wc30 : W64 c30) (Wc31 : W64 c31) (Wc32 : W64 c32) (Wc33 : W64 c33) (Wc34 : W64 c34) (Wc35 : W64 c35) (Wc36 : W64 c36) (Wc37 : W64 c37) (Wc39 : W64 c39) (Wc40 : W64 c40) (g : Nat) (A21 : Option Addr) (n21 : Nat) (k21 : Nat) (h0 : (decide (c2 ≤ c1)) = false) (w : World) (Bg : Blk w g 36 (K36 1 c1 c2 c3 c4 1 c6 c7 c8 c9 c10 c11 c12 c13 c14 c15 c16 c17 c18 c19 c20 (.slice A21 n21 k21) c22 c23 c24 c25 c26 c27 c28 c29 c30 c31 c32 c33 c34 c35 c36 c37 c38 c39 c40)) :
    Calls Try.prog 21 #[.pointer (some ⟨g, 0, none⟩), .agg #[.int .u64 g_0, .int .u64 g_1, .int .u64 g_2, .int .u64 g_3, .int .u64 g_4, .int .u64 g_5, .int .u64 g_6, .int .u64 g_7, .bool g_8, .bool g_9]] w fun e w' => ∃ (q th p0 p1 p2 p3 p4 p5 p6 : Int), e = .returned (.int .u64 q) ∧ W64 q ∧ W64 th ∧ (p0 = 0 ∨ p0 = 1 ∨ p0 = 2) ∧ W64 p1 ∧ W64 p2 ∧ W64 p3 ∧ W64 p4 ∧ W64 p5 ∧ W64 p6 ∧ Blk w' g 36 (K36 1 c1 th c3 c4 p0 p1 p2 p3 p4 p5 p6 c12 c13 c14 c15 c16 c17 c18 c19 c20 (.slice A21 n21 k21) c22 c23 c24 c25 c26 c27 c28 c29 c30 c31 c32 c33 c34 c35 c36 c37 c38 c39 c40) ∧ w.grownBy w' (some g) := by
  have hu27 := Try.underlying27
  have hu36 := Try.underlying36
  have hu40 := Try.underlying40
  have HS := Turned.refl g w
  go_enter Try.func21, Try.ntmps21
  go_wp2_with (first | ((with_reducible refine gate_dst (N := 3) rfl ?_); refine seg_new rfl (N := 3) rfl [.int .u64 g_0, .int .u64 g_1, .int .u64 g_2, .int .u64 g_3, .int .u64 g_4, .int .u64 g_5, .int .u64 g_6, .int .u64 g_7, .bool g_8, .bool g_9] 40 ?hr ?_; (case hr => first | (go_simp; done) | (go_simp; rfl) | kernel_rfl); intro g0 hg w1 hn hl; have Ng0_g := ne_new Bg hg; have GEg0 := HS.ge hg; clear hg; replace Bg := Bg.below hl; replace HS := HS.below hl; have Bg0 := hn; clear hl hn) | ((go_at_call 36); (with_reducible refine (parts_reno g _ ((Bg.cell 0).trans rfl)).mono ?_); rintro e w2 ⟨rfl, hd⟩; have hl := hd.below; clear hd; replace Bg := Bg.below hl; replace Bg0 := Bg0.below hl; replace HS := HS.below hl; clear hl; have kg_1 := Bg.at 1 rfl; have kg_2 := Bg.at 2 rfl))
  all_goals go_quiet (fail)
  all_goals (generalize hW : World.drewN w2 _ = w3; have hl : Below w2.heap.size w2 w3 := (by rw [← hW]; exact pw_below_drewN (Below.refl _ _) _); clear hW; replace Bg := Bg.below hl; replace Bg0 := Bg0.below hl; replace HS := HS.below hl; clear hl; clear kg_1 kg_2; have kg_5 := Bg.at 5 rfl; have zg_5 := Bg.frozen 5; have kg_6 := Bg.at 6 rfl; have zg_6 := Bg.frozen 6; have kg_7 := Bg.at 7 rfl; have zg_7 := Bg.frozen 7; have kg_8 := Bg.at 8 rfl; have zg_8 := Bg.frozen 8; have kg_9 := Bg.at 9 rfl; have zg_9 := Bg.frozen 9; have kg_10 := Bg.at 10 rfl; have zg_10 := Bg.frozen 10; have kg_11 := Bg.at 11 rfl; have zg_11 := Bg.frozen 11; have kg0_3 := Bg0.at 3 rfl; have kg0_4 := Bg0.at 4 rfl; have kg0_5 := Bg0.at 5 rfl)
  go_wp2
  refine start_ (n := 15) (S := fun w' => Blk w' g 36 (K36 1 c1 c2 c3 c4 1 c6 c7 c8 c9 c10 c11 c12 c13 c14 c15 c16 c17 c18 c19 c20 (.slice A21 n21 k21) c22 c23 c24 c25 c26 c27 c28 c29 c30 c31 c32 c33 c34 c35 c36 c37 c38 c39 c40) ∧ w'.cell? ⟨g0, 3, none⟩ = some (.int .u64 g_3) ∧ w'.cell? ⟨g0, 4, none⟩ = some (.int .u64 g_4) ∧ w'.cell? ⟨g0, 5, none⟩ = some (.int .u64 g_5)) (ds := [14]) (bs 15 0) (by kernel_rfl) rfl rfl ⟨Bg.drew, ((Bg0.drew.cell 3).trans rfl), ((Bg0.drew.cell 4).trans rfl), ((Bg0.drew.cell 5).trans rfl)⟩ (fun hHeld => ?_)
  generalize hWd : World.drew w3 = w4 at hHeld ⊢
  have hl : Below w3.heap.size w3 w4 := (by rw [← hWd]; exact below_drew1 (Below.refl _ _))
  clear hWd
  replace Bg := Bg.below hl; replace Bg0 := Bg0.below hl; replace HS := HS.below hl; clear hl; replace kg_5 := Bg.at 5 rfl; replace zg_5 := Bg.frozen 5; replace kg_6 := Bg.at 6 rfl; replace zg_6 := Bg.frozen 6; replace kg_7 := Bg.at 7 rfl; replace zg_7 := Bg.frozen 7; replace kg_8 := Bg.at 8 rfl; replace zg_8 := Bg.frozen 8; replace kg_9 := Bg.at 9 rfl; replace zg_9 := Bg.frozen 9; replace kg_10 := Bg.at 10 rfl; replace zg_10 := Bg.frozen 10; replace kg_11 := Bg.at 11 rfl; replace zg_11 := Bg.frozen 11; replace kg0_3 := Bg0.at 3 rfl; replace kg0_4 := Bg0.at 4 rfl; replace kg0_5 := Bg0.at 5 rfl
  refine pu 0 23 (.pointer (some ⟨g, 0, none⟩)) 1 rfl rfl (by kernel_rfl) (fun _ _ _ h => h) (by rfl) (fun _ => by kernel_rfl) rfl ?_
  refine pu 1 24 (.pointer (some ⟨g, 0, none⟩)) 3 rfl rfl (by kernel_rfl) (fun _ _ _ h => h) (by rfl) (fun _ => by kernel_rfl) rfl ?_
  refine pu 2 25 (.pointer (some ⟨g, 0, none⟩)) 7 rfl rfl (by kernel_rfl) (fun _ _ _ h => h) (by rfl) (fun _ => by kernel_rfl) rfl ?_
  refine pu 3 26 (.pointer (some ⟨g, 5, none⟩)) 15 rfl rfl (by kernel_rfl) (fun _ _ _ h => h) (by rfl) (fun _ => by kernel_rfl) rfl ?_
  refine pu 5 28 (.pointer (some ⟨g0, 3, none⟩)) 47 rfl rfl (by kernel_rfl) (fun _ _ _ h => h) (by rfl) (fun _ => by kernel_rfl) rfl ?_
  refine pu 7 30 (.pointer (some ⟨g0, 4, none⟩)) 175 rfl rfl (by kernel_rfl) (fun _ _ _ h => h) (by rfl) (fun _ => by kernel_rfl) rfl ?_
  refine pu 9 32 (.pointer (some ⟨g0, 5, none⟩)) 687 rfl rfl (by kernel_rfl) (fun _ _ _ h => h) (by rfl) (fun _ => by kernel_rfl) rfl ?_
  refine norm_ (a' := ?_) ?_ ?_
  rotate_left
  · simp only [Act.put, List.setIfInBounds_toArray, List.set_cons_zero, List.set_cons_succ, i64_w, i32_w]
    rfl
  refine take_ (i := 4) (N := some 27) (v := .agg #[.int .i64 1, .int .u64 c6, .int .u64 c7, .int .u64 c8, .int .u64 c9, .int .u64 c10, .int .u64 c11]) (a' := ?_) (bs 15 703) rfl rfl (by kernel_rfl) (fun _ _ _ h => h) (Or.inl ⟨by rfl, ?_⟩) hHeld ?_ ?_
  · rintro w' ⟨s0, s1, s2, s3⟩
    exact exec_seg_load 27 (.tmp 26) (by rfl) g 5 [.int .i64 1, .int .u64 c6, .int .u64 c7, .int .u64 c8, .int .u64 c9, .int .u64 c10, .int .u64 c11] (by rfl) s0 (by rfl) Try.underlying27 (by rfl) (by kernel_rfl)
  rotate_left
  · simp only [Act.put, List.setIfInBounds_toArray, List.set_cons_zero, List.set_cons_succ, i64_w, i32_w]
    rfl
  refine take_ (i := 6) (N := some 29) (v := ?_) (a' := ?_) (bs 15 767) rfl rfl (by kernel_rfl) (fun _ _ _ h => h) (Or.inl ⟨by rfl, ?_⟩) hHeld ?_ ?_
  rotate_left
  · rintro w' ⟨s0, s1, s2, s3⟩
    go_simp
    with_reducible rfl
  rotate_left
  · simp only [Act.put, List.setIfInBounds_toArray, List.set_cons_zero, List.set_cons_succ, i64_w, i32_w]
    rfl
  refine take_ (i := 8) (N := some 31) (v := ?_) (a' := ?_) (bs 15 1023) rfl rfl (by kernel_rfl) (fun _ _ _ h => h) (Or.inl ⟨by rfl, ?_⟩) hHeld ?_ ?_
  rotate_left
  · rintro w' ⟨s0, s1, s2, s3⟩
    go_simp
    with_reducible rfl
  rotate_left
  · simp only [Act.put, List.setIfInBounds_toArray, List.set_cons_zero, List.set_cons_succ, i64_w, i32_w]
    rfl
  refine take_ (i := 10) (N := some 33) (v := ?_) (a' := ?_) (bs 15 2047) rfl rfl (by kernel_rfl) (fun _ _ _ h => h) (Or.inl ⟨by rfl, ?_⟩) hHeld ?_ ?_
  rotate_left
  · rintro w' ⟨s0, s1, s2, s3⟩
    go_simp
    with_reducible rfl
  rotate_left
  · simp only [Act.put, List.setIfInBounds_toArray, List.set_cons_zero, List.set_cons_succ, i64_w, i32_w]
    rfl
  refine one_ (i := 11) (N := some 34) (bs 15 4095) rfl rfl (by kernel_rfl) (by decide) (fun K hK => ?_)
  refine goes_ Try.func49 (by kernel_rfl) rfl #[.agg #[.int .i64 1, .int .u64 c6, .int .u64 c7, .int .u64 c8, .int .u64 c9, .int .u64 c10, .int .u64 c11], .int .u64 g_3, .int .u64 g_4, .int .u64 g_5] (by rfl) rfl rfl (by simp only [List.map_toArray, List.map_cons, List.map_nil]; rfl) ?_
  with_reducible refine (sampleC1 c6 c7 c8 c9 c10 c11 g_3 g_4 g_5 Wc6 Wc7 Wc8 Wc9 Wc10 Wc11 Wg_3 Wg_4 Wg_5 _).mono ?_
  rintro e w5 ⟨q0, q1, q2, q3, q4, q5, q6, rfl, hq0, Wq1, Wq2, Wq3, Wq4, Wq5, Wq6, hl⟩
  refine ⟨_, rfl, ?_⟩
  replace Bg := Bg.below hl; replace Bg0 := Bg0.below hl; replace HS := HS.below hl; clear hl; replace kg_5 := Bg.at 5 rfl; replace zg_5 := Bg.frozen 5; replace kg_6 := Bg.at 6 rfl; replace zg_6 := Bg.frozen 6; replace kg_7 := Bg.at 7 rfl; replace zg_7 := Bg.frozen 7; replace kg_8 := Bg.at 8 rfl; replace zg_8 := Bg.frozen 8; replace kg_9 := Bg.at 9 rfl; replace zg_9 := Bg.frozen 9; replace kg_10 := Bg.at 10 rfl; replace zg_10 := Bg.frozen 10; replace kg_11 := Bg.at 11 rfl; replace zg_11 := Bg.frozen 11; replace kg0_3 := Bg0.at 3 rfl; replace kg0_4 := Bg0.at 4 rfl; replace kg0_5 := Bg0.at 5 rfl
  refine hK.out _ _ ⟨Bg, ((Bg0.cell 3).trans rfl), ((Bg0.cell 4).trans rfl), ((Bg0.cell 5).trans rfl)⟩ (fun hHeld => ?_)
  clear hK K
  refine norm_ (a' := ?_) ?_ ?_
  rotate_left
  · show Act.put _ (some 34) _ = _
    simp only [Act.put, List.setIfInBounds_toArray, List.set_cons_zero, List.set_cons_succ, i64_w, i32_w]
    rfl
  refine pu 12 35 (.pointer (some ⟨g, 0, none⟩)) 8191 rfl rfl (by kernel_rfl) (fun _ _ _ h => h) (by rfl) (fun _ => by kernel_rfl) rfl ?_
  refine pu 13 36 (.pointer (some ⟨g, 5, none⟩)) 16383 rfl rfl (by kernel_rfl) (fun _ _ _ h => h) (by rfl) (fun _ => by kernel_rfl) rfl ?_
  refine norm_ (a' := ?_) ?_ ?_
  rotate_left
  · simp only [Act.put, List.setIfInBounds_toArray, List.set_cons_zero, List.set_cons_succ, i64_w, i32_w]
    rfl
  refine last_ (i := 14) (N := none) (bs 15 32767) rfl rfl (by kernel_rfl) (by decide) (fun K hK => ?_)
  refine skip_ (w1 := ?_) (by rfl) rfl ?_ ?_
  rotate_left
  · go_simp
    rfl
  refine hK.out _ _ ?_
  clear hK K
  refine done_ (by kernel_rfl) ?_
  refine letter ?_
  intro w6 hW
  have Bn_ : Blk w6 g 36 (K36 1 c1 c2 c3 c4 q0 q1 q2 q3 q4 q5 q6 c12 c13 c14 c15 c16 c17 c18 c19 c20 (.slice A21 n21 k21) c22 c23 c24 c25 c26 c27 c28 c29 c30 c31 c32 c33 c34 c35 c36 c37 c38 c39 c40) := (by rw [hW]; (repeat (first | (with_reducible refine Blk.drewN ?_ _) | (with_reducible refine Blk.drew ?_))); refine Blk.set (l := (K36 1 c1 c2 c3 c4 q0 q1 q2 q3 q4 q5 c11 c12 c13 c14 c15 c16 c17 c18 c19 c20 (.slice A21 n21 k21) c22 c23 c24 c25 c26 c27 c28 c29 c30 c31 c32 c33 c34 c35 c36 c37 c38 c39 c40)) ?_ 11 _ rfl; (repeat (first | (with_reducible refine Blk.drewN ?_ _) | (with_reducible refine Blk.drew ?_))); refine Blk.set (l := (K36 1 c1 c2 c3 c4 q0 q1 q2 q3 q4 c10 c11 c12 c13 c14 c15 c16 c17 c18 c19 c20 (.slice A21 n21 k21) c22 c23 c24 c25 c26 c27 c28 c29 c30 c31 c32 c33 c34 c35 c36 c37 c38 c39 c40)) ?_ 10 _ rfl; (repeat (first | (with_reducible refine Blk.drewN ?_ _) | (with_reducible refine Blk.drew ?_))); refine Blk.set (l := (K36 1 c1 c2 c3 c4 q0 q1 q2 q3 c9 c10 c11 c12 c13 c14 c15 c16 c17 c18 c19 c20 (.slice A21 n21 k21) c22 c23 c24 c25 c26 c27 c28 c29 c30 c31 c32 c33 c34 c35 c36 c37 c38 c39 c40)) ?_ 9 _ rfl; (repeat (first | (with_reducible refine Blk.drewN ?_ _) | (with_reducible refine Blk.drew ?_))); refine Blk.set (l := (K36 1 c1 c2 c3 c4 q0 q1 q2 c8 c9 c10 c11 c12 c13 c14 c15 c16 c17 c18 c19 c20 (.slice A21 n21 k21) c22 c23 c24 c25 c26 c27 c28 c29 c30 c31 c32 c33 c34 c35 c36 c37 c38 c39 c40)) ?_ 8 _ rfl; (repeat (first | (with_reducible refine Blk.drewN ?_ _) | (with_reducible refine Blk.drew ?_))); refine Blk.set (l := (K36 1 c1 c2 c3 c4 q0 q1 c7 c8 c9 c10 c11 c12 c13 c14 c15 c16 c17 c18 c19 c20 (.slice A21 n21 k21) c22 c23 c24 c25 c26 c27 c28 c29 c30 c31 c32 c33 c34 c35 c36 c37 c38 c39 c40)) ?_ 7 _ rfl; (repeat (first | (with_reducible refine Blk.drewN ?_ _) | (with_reducible refine Blk.drew ?_))); refine Blk.set (l := (K36 1 c1 c2 c3 c4 q0 c6 c7 c8 c9 c10 c11 c12 c13 c14 c15 c16 c17 c18 c19 c20 (.slice A21 n21 k21) c22 c23 c24 c25 c26 c27 c28 c29 c30 c31 c32 c33 c34 c35 c36 c37 c38 c39 c40)) ?_ 6 _ rfl; (repeat (first | (with_reducible refine Blk.drewN ?_ _) | (with_reducible refine Blk.drew ?_))); refine Blk.set (l := (K36 1 c1 c2 c3 c4 1 c6 c7 c8 c9 c10 c11 c12 c13 c14 c15 c16 c17 c18 c19 c20 (.slice A21 n21 k21) c22 c23 c24 c25 c26 c27 c28 c29 c30 c31 c32 c33 c34 c35 c36 c37 c38 c39 c40)) ?_ 5 _ rfl; (repeat (first | (with_reducible refine Blk.drewN ?_ _) | (with_reducible refine Blk.drew ?_))); exact Bg)
  replace Bg := Bn_
  clear Bn_
  have Bn_ : Blk w6 g0 40 [.int .u64 g_0, .int .u64 g_1, .int .u64 g_2, .int .u64 g_3, .int .u64 g_4, .int .u64 g_5, .int .u64 g_6, .int .u64 g_7, .bool g_8, .bool g_9] := (by rw [hW]; (repeat (first | (with_reducible refine Blk.drewN ?_ _) | (with_reducible refine Blk.drew ?_))); refine Blk.setFar ?_ Ng0_g; (repeat (first | (with_reducible refine Blk.drewN ?_ _) | (with_reducible refine Blk.drew ?_))); refine Blk.setFar ?_ Ng0_g; (repeat (first | (with_reducible refine Blk.drewN ?_ _) | (with_reducible refine Blk.drew ?_))); refine Blk.setFar ?_ Ng0_g; (repeat (first | (with_reducible refine Blk.drewN ?_ _) | (with_reducible refine Blk.drew ?_))); refine Blk.setFar ?_ Ng0_g; (repeat (first | (with_reducible refine Blk.drewN ?_ _) | (with_reducible refine Blk.drew ?_))); refine Blk.setFar ?_ Ng0_g; (repeat (first | (with_reducible refine Blk.drewN ?_ _) | (with_reducible refine Blk.drew ?_))); refine Blk.setFar ?_ Ng0_g; (repeat (first | (with_reducible refine Blk.drewN ?_ _) | (with_reducible refine Blk.drew ?_))); refine Blk.setFar ?_ Ng0_g; (repeat (first | (with_reducible refine Blk.drewN ?_ _) | (with_reducible refine Blk.drew ?_))); exact Bg0)
  replace Bg0 := Bn_
  clear Bn_
  have HS_ : Turned g w w6 := (by rw [hW]; repeat (first | (with_reducible exact HS) | (with_reducible refine Turned.drewN ?_ _) | (with_reducible refine Turned.drew ?_) | (with_reducible refine Turned.set ?_)))
  replace HS := HS_
  clear HS_ hW
  clear zg_5 kg_6 zg_6 kg_7 zg_7 kg_8 zg_8 kg_9 zg_9 kg_10 zg_10 kg_11 zg_11 kg0_3 kg0_4 kg0_5; replace kg_5 := Bg.at 5 rfl
  go_upto_if 42 with (fail)
  (try simp only [Act.put, List.setIfInBounds_toArray, List.set_cons_zero, List.set_cons_succ])
  go_cut [] (fun wc => Blk wc g 36 (K36 1 c1 c2 c3 c4 q0 q1 q2 q3 q4 q5 q6 c12 c13 c14 c15 c16 c17 c18 c19 c20 (.slice A21 n21 k21) c22 c23 c24 c25 c26 c27 c28 c29 c30 c31 c32 c33 c34 c35 c36 c37 c38 c39 c40) ∧ Blk wc g0 40 [.int .u64 g_0, .int .u64 g_1, .int .u64 g_2, .int .u64 g_3, .int .u64 g_4, .int .u64 g_5, .int .u64 g_6, .int .u64 g_7, .bool g_8, .bool g_9] ∧ Turned g w wc)
  case first =>
    rcases Bool.eq_false_or_eq_true (q0 == 2) with h1 | h1
    · (try rw [h1])
      clear kg_5; have kg_1 := Bg.at 1 rfl
      go_wp2_with (first | ((with_reducible refine gate_ (.store 23 (.tmp 47) (.tmp 46)) rfl ?_); refine seg_store rfl rfl 23 (.tmp 47) (.tmp 46) rfl g 2 [.int .u64 c1] (K36 1 c1 c1 c3 c4 q0 q1 q2 q3 q4 q5 q6 c12 c13 c14 c15 c16 c17 c18 c19 c20 (.slice A21 n21 k21) c22 c23 c24 c25 c26 c27 c28 c29 c30 c31 c32 c33 c34 c35 c36 c37 c38 c39 c40) (.int .u64 c1) ?hx ?hy rfl Bg (by kernel_rfl) (Nat.le_of_ble_eq_true rfl) rfl rfl ?_; (case hx => first | rfl | (go_simp; done) | (go_simp; rfl)); (case hy => first | rfl | (go_simp; done) | (go_simp; rfl)); intro w7 hn hw; replace Bg0 := Bg0.grown hw Ng0_g; replace HS := HS.same hw; replace Bg := hn; clear hw; clear kg_1; have kg0_1 := Bg0.at 1 rfl; clear hn))
      all_goals (go_ret; exact ⟨_, _, _, _, _, _, _, _, _, rfl, Wg_1, Wc1, hq0, Wq1, Wq2, Wq3, Wq4, Wq5, Wq6, Bg, HS.out⟩)
    · (try rw [h1])
      clear kg_5
      go_wp2
      all_goals go_meet
      case rel => exact ⟨Bg, Bg0, HS⟩
  case rest =>
    clear kg_5 Bg Bg0 HS
    obtain ⟨Bg, Bg0, HS⟩ := hcut
    have kg0_1 := Bg0.at 1 rfl
    go_wp2
    refine start_ (n := 8) (S := fun w' => Blk w' g 36 (K36 1 c1 c2 c3 c4 q0 q1 q2 q3 q4 q5 q6 c12 c13 c14 c15 c16 c17 c18 c19 c20 (.slice A21 n21 k21) c22 c23 c24 c25 c26 c27 c28 c29 c30 c31 c32 c33 c34 c35 c36 c37 c38 c39 c40) ∧ w'.cell? ⟨g0, 1, none⟩ = some (.int .u64 g_1)) (ds := []) (bs 8 0) (by kernel_rfl) rfl rfl ⟨Bg.drew, ((Bg0.drew.cell 1).trans rfl)⟩ (fun hHeld => ?_)
    generalize hWd : World.drew wc = w61 at hHeld ⊢
    have hl : Below wc.heap.size wc w61 := (by rw [← hWd]; exact below_drew1 (Below.refl _ _))
    clear hWd
    replace Bg := Bg.below hl; replace Bg0 := Bg0.below hl; replace HS := HS.below hl; clear hl; replace kg0_1 := Bg0.at 1 rfl
    refine pu 0 50 (.pointer (some ⟨g, 0, none⟩)) 1 rfl rfl (by kernel_rfl) (fun _ _ _ h => h) (by rfl) (fun _ => by kernel_rfl) rfl ?_
    refine pu 1 51 (.pointer (some ⟨g, 0, none⟩)) 3 rfl rfl (by kernel_rfl) (fun _ _ _ h => h) (by rfl) (fun _ => by kernel_rfl) rfl ?_
    refine pu 2 52 (.pointer (some ⟨g, 5, none⟩)) 7 rfl rfl (by kernel_rfl) (fun _ _ _ h => h) (by rfl) (fun _ => by kernel_rfl) rfl ?_
    refine pu 4 54 (.pointer (some ⟨g0, 1, none⟩)) 23 rfl rfl (by kernel_rfl) (fun _ _ _ h => h) (by rfl) (fun _ => by kernel_rfl) rfl ?_
    refine norm_ (a' := ?_) ?_ ?_
    rotate_left
    · simp only [Act.put, List.setIfInBounds_toArray, List.set_cons_zero, List.set_cons_succ, i64_w, i32_w]
      rfl
    refine take_ (i := 3) (N := some 53) (v := .agg #[.int .i64 q0, .int .u64 q1, .int .u64 q2, .int .u64 q3, .int .u64 q4, .int .u64 q5, .int .u64 q6]) (a' := ?_) (bs 8 31) rfl rfl (by kernel_rfl) (fun _ _ _ h => h) (Or.inl ⟨by rfl, ?_⟩) hHeld ?_ ?_
    · rintro w' ⟨s0, s1⟩
      exact exec_seg_load 27 (.tmp 52) (by rfl) g 5 [.int .i64 q0, .int .u64 q1, .int .u64 q2, .int .u64 q3, .int .u64 q4, .int .u64 q5, .int .u64 q6] (by rfl) s0 (by rfl) Try.underlying27 (by rfl) (by kernel_rfl)
    rotate_left
    · simp only [Act.put, List.setIfInBounds_toArray, List.set_cons_zero, List.set_cons_succ, i64_w, i32_w]
      rfl
    refine take_ (i := 5) (N := some 55) (v := ?_) (a' := ?_) (bs 8 63) rfl rfl (by kernel_rfl) (fun _ _ _ h => h) (Or.inl ⟨by rfl, ?_⟩) hHeld ?_ ?_
    rotate_left
    · rintro w' ⟨s0, s1⟩
      go_simp
      with_reducible rfl
    rotate_left
    · simp only [Act.put, List.setIfInBounds_toArray, List.set_cons_zero, List.set_cons_succ, i64_w, i32_w]
      rfl
    refine one_ (i := 6) (N := some 56) (bs 8 127) rfl rfl (by kernel_rfl) (by decide) (fun K hK => ?_)
    refine goes_ Try.func50 (by kernel_rfl) rfl #[.agg #[.int .i64 q0, .int .u64 q1, .int .u64 q2, .int .u64 q3, .int .u64 q4, .int .u64 q5, .int .u64 q6], .int .u64 g_1] (by rfl) rfl rfl (by simp only [List.map_toArray, List.map_cons, List.map_nil]; rfl) ?_
    with_reducible refine (growC q0 q1 q2 q3 q4 q5 q6 g_1 Wg_1 _).mono ?_
    rintro e w62 ⟨rfl, hl⟩
    refine ⟨_, rfl, ?_⟩
    replace Bg := Bg.below hl; replace Bg0 := Bg0.below hl; replace HS := HS.below hl; clear hl; replace kg0_1 := Bg0.at 1 rfl
    refine hK.out _ _ ⟨Bg, ((Bg0.cell 1).trans rfl)⟩ (fun hHeld => ?_)
    clear hK K
    refine norm_ (a' := ?_) ?_ ?_
    rotate_left
    · show Act.put _ (some 56) _ = _
      simp only [Act.put, List.setIfInBounds_toArray, List.set_cons_zero, List.set_cons_succ, i64_w, i32_w]
      rfl
    refine pure_ (i := 7) (N := some 4) (v := ?_) (a' := ?_) (bs 8 255) rfl rfl (by kernel_rfl) (fun _ _ _ h => h) (Or.inl ⟨by rfl, ?_⟩) ?_ ?_
    rotate_left
    · intro w'
      go_simp
      with_reducible rfl
    rotate_left
    · simp only [Act.put, List.setIfInBounds_toArray, List.set_cons_zero, List.set_cons_succ, i64_w, i32_w]
      rfl
    refine done_ (by kernel_rfl) ?_
    refine letter ?_
    intro w63 hW
    have Bn_ : Blk w63 g 36 (K36 1 c1 c2 c3 c4 q0 q1 q2 q3 q4 q5 q6 c12 c13 c14 c15 c16 c17 c18 c19 c20 (.slice A21 n21 k21) c22 c23 c24 c25 c26 c27 c28 c29 c30 c31 c32 c33 c34 c35 c36 c37 c38 c39 c40) := (by rw [hW]; (repeat (first | (with_reducible refine Blk.drewN ?_ _) | (with_reducible refine Blk.drew ?_))); exact Bg)
    replace Bg := Bn_
    clear Bn_
    have Bn_ : Blk w63 g0 40 [.int .u64 g_0, .int .u64 g_1, .int .u64 g_2, .int .u64 g_3, .int .u64 g_4, .int .u64 g_5, .int .u64 g_6, .int .u64 g_7, .bool g_8, .bool g_9] := (by rw [hW]; (repeat (first | (with_reducible refine Blk.drewN ?_ _) | (with_reducible refine Blk.drew ?_))); exact Bg0)
    replace Bg0 := Bn_
    clear Bn_
    have HS_ : Turned g w w63 := (by rw [hW]; repeat (first | (with_reducible exact HS) | (with_reducible refine Turned.drewN ?_ _) | (with_reducible refine Turned.drew ?_)))
    replace HS := HS_
    clear HS_ hW
    clear kg0_1
    go_wp2
    all_goals (go_ret; exact ⟨_, _, _, _, _, _, _, _, _, rfl, (uGrow_w Wg_1), Wc2, hq0, Wq1, Wq2, Wq3, Wq4, Wq5, Wq6, Bg, HS.out⟩)
set_option maxRecDepth 100000 in
set_option maxHeartbeats 4000000 in
theorem slowC2_0 (g_0 : Int) (g_1 : Int) (g_2 : Int) (g_3 : Int) (g_4 : Int) (g_5 : Int) (g_6 : Int) (g_7 : Int) (g_8 : Bool) (g_9 : Bool) (c1 : Int) (c2 : Int) (c3 : Int) (c4 : Int) (c6 : Int) (c7 : Int) (c8 : Int) (c9 : Int) (c10 : Int) (c11 : Int) (c12 : Int) (c13 : Int) (c14 : Int) (c15 : Bool) (c16 : Int) (c17 : Int) (c18 : Int) (c19 : Int) (c20 : Int) (c22 : Int) (c23 : Int) (c24 : Int) (c25 : Int) (c26 : Int) (c27 : Int) (c28 : Int) (c29 : Int) (c30 : Int) (c31 : Int) (c32 : Int) (c33 : Int) (c34 : Int) (c35 : Int) (c36 : Int) (c37 : Int) (c38 : Bool) (c39 : Int) (c40 : Int) (Wg_0 : W64 g_0) (Wg_1 : W64 g_1) (Wg_2 : W64 g_2) (Wg_3 : W64 g_3) (Wg_4 : W64 g_4) (Wg_5 : W64 g_5) (Wg_6 : W64 g_6) (Wg_7 : W64 g_7) (Wc1 : W64 c1) (Wc2 : W64 c2) (Wc3 : W64 c3) (Wc4 : W64 c4) (Wc6 : W64 c6) (Wc7 : W64 c7) (Wc8 : W64 c8) (Wc9 : W64 c9) (Wc10 : W64 c10) (Wc11 : W64 c11) (Wc12 : W64 c12) (Wc13 : W64 c13) (Wc14 : W64 c14) (Wc16 : W64 c16) (Wc17 : W64 c17) (Wc18 : W64 c18) (Wc19 : W64 c19) (Wc22 : W64 c22) (Wc23 : W64 c23) (Wc24 : W64 c24) (Wc25 : W64 c25) (Wc26 : W64 c26) (Wc27 : W64 c27) (Wc28 : W64 c28) (Wc29 : W64 c29) (Wc30 : W64 c30) (Wc31 : W64 c31) (Wc32 : W64 c32) (Wc33 : W64 c33) (Wc34 : W64 c34) (Wc35 : W64 c35) (Wc36 : W64 c36) (Wc37 : W64 c37) (Wc39 : W64 c39) (Wc40 : W64 c40) (g : Nat) (A21 : Option Addr) (n21 : Nat) (k21 : Nat) (h0 : (decide (c13 ≤ c12)) = false) (w : World) (Bg : Blk w g 36 (K36 2 c1 c2 c3 c4 0 c6 c7 c8 c9 c10 c11 c12 c13 c14 c15 c16 c17 c18 c19 c20 (.slice A21 n21 k21) c22 c23 c24 c25 c26 c27 c28 c29 c30 c31 c32 c33 c34 c35 c36 c37 c38 c39 c40)) :
    Calls Try.prog 21 #[.pointer (some ⟨g, 0, none⟩), .agg #[.int .u64 g_0, .int .u64 g_1, .int .u64 g_2, .int .u64 g_3, .int .u64 g_4, .int .u64 g_5, .int .u64 g_6, .int .u64 g_7, .bool g_8, .bool g_9]] w fun e w' => ∃ (q th p0 p1 p2 p3 p4 p5 p6 : Int), e = .returned (.int .u64 q) ∧ W64 q ∧ W64 th ∧ (p0 = 0 ∨ p0 = 1 ∨ p0 = 2) ∧ W64 p1 ∧ W64 p2 ∧ W64 p3 ∧ W64 p4 ∧ W64 p5 ∧ W64 p6 ∧ Blk w' g 36 (K36 2 c1 c2 c3 c4 p0 p1 p2 p3 p4 p5 p6 c12 th c14 c15 c16 c17 c18 c19 c20 (.slice A21 n21 k21) c22 c23 c24 c25 c26 c27 c28 c29 c30 c31 c32 c33 c34 c35 c36 c37 c38 c39 c40) ∧ w.grownBy w' (some g) := by
  have hu27 := Try.underlying27
  have hu36 := Try.underlying36
  have hu40 := Try.underlying40
  have HS := Turned.refl g w
  go_enter Try.func21, Try.ntmps21
  go_wp2_with (first | ((with_reducible refine gate_dst (N := 3) rfl ?_); refine seg_new rfl (N := 3) rfl [.int .u64 g_0, .int .u64 g_1, .int .u64 g_2, .int .u64 g_3, .int .u64 g_4, .int .u64 g_5, .int .u64 g_6, .int .u64 g_7, .bool g_8, .bool g_9] 40 ?hr ?_; (case hr => first | (go_simp; done) | (go_simp; rfl) | kernel_rfl); intro g0 hg w1 hn hl; have Ng0_g := ne_new Bg hg; have GEg0 := HS.ge hg; clear hg; replace Bg := Bg.below hl; replace HS := HS.below hl; have Bg0 := hn; clear hl hn) | ((go_at_call 36); (with_reducible refine (parts_cubic g _ ((Bg.cell 0).trans rfl)).mono ?_); rintro e w2 ⟨rfl, hd⟩; have hl := hd.below; clear hd; replace Bg := Bg.below hl; replace Bg0 := Bg0.below hl; replace HS := HS.below hl; clear hl; have kg_12 := Bg.at 12 rfl; have kg_13 := Bg.at 13 rfl))
  all_goals go_quiet (fail)
  all_goals (generalize hW : World.drewN w2 _ = w3; have hl : Below w2.heap.size w2 w3 := (by rw [← hW]; exact pw_below_drewN (Below.refl _ _) _); clear hW; replace Bg := Bg.below hl; replace Bg0 := Bg0.below hl; replace HS := HS.below hl; clear hl; clear kg_12 kg_13; have kg_5 := Bg.at 5 rfl; have zg_5 := Bg.frozen 5; have kg_6 := Bg.at 6 rfl; have zg_6 := Bg.frozen 6; have kg_7 := Bg.at 7 rfl; have zg_7 := Bg.frozen 7; have kg_8 := Bg.at 8 rfl; have zg_8 := Bg.frozen 8; have kg_9 := Bg.at 9 rfl; have zg_9 := Bg.frozen 9; have kg_10 := Bg.at 10 rfl; have zg_10 := Bg.frozen 10; have kg_11 := Bg.at 11 rfl; have zg_11 := Bg.frozen 11; have kg0_3 := Bg0.at 3 rfl; have kg0_4 := Bg0.at 4 rfl; have kg0_5 := Bg0.at 5 rfl)
  go_wp2
  refine start_ (n := 15) (S := fun w' => Blk w' g 36 (K36 2 c1 c2 c3 c4 0 c6 c7 c8 c9 c10 c11 c12 c13 c14 c15 c16 c17 c18 c19 c20 (.slice A21 n21 k21) c22 c23 c24 c25 c26 c27 c28 c29 c30 c31 c32 c33 c34 c35 c36 c37 c38 c39 c40) ∧ w'.cell? ⟨g0, 3, none⟩ = some (.int .u64 g_3) ∧ w'.cell? ⟨g0, 4, none⟩ = some (.int .u64 g_4) ∧ w'.cell? ⟨g0, 5, none⟩ = some (.int .u64 g_5)) (ds := [14]) (bs 15 0) (by kernel_rfl) rfl rfl ⟨Bg.drew, ((Bg0.drew.cell 3).trans rfl), ((Bg0.drew.cell 4).trans rfl), ((Bg0.drew.cell 5).trans rfl)⟩ (fun hHeld => ?_)
  generalize hWd : World.drew w3 = w4 at hHeld ⊢
  have hl : Below w3.heap.size w3 w4 := (by rw [← hWd]; exact below_drew1 (Below.refl _ _))
  clear hWd
  replace Bg := Bg.below hl; replace Bg0 := Bg0.below hl; replace HS := HS.below hl; clear hl; replace kg_5 := Bg.at 5 rfl; replace zg_5 := Bg.frozen 5; replace kg_6 := Bg.at 6 rfl; replace zg_6 := Bg.frozen 6; replace kg_7 := Bg.at 7 rfl; replace zg_7 := Bg.frozen 7; replace kg_8 := Bg.at 8 rfl; replace zg_8 := Bg.frozen 8; replace kg_9 := Bg.at 9 rfl; replace zg_9 := Bg.frozen 9; replace kg_10 := Bg.at 10 rfl; replace zg_10 := Bg.frozen 10; replace kg_11 := Bg.at 11 rfl; replace zg_11 := Bg.frozen 11; replace kg0_3 := Bg0.at 3 rfl; replace kg0_4 := Bg0.at 4 rfl; replace kg0_5 := Bg0.at 5 rfl
  refine pu 0 23 (.pointer (some ⟨g, 0, none⟩)) 1 rfl rfl (by kernel_rfl) (fun _ _ _ h => h) (by rfl) (fun _ => by kernel_rfl) rfl ?_
  refine pu 1 24 (.pointer (some ⟨g, 0, none⟩)) 3 rfl rfl (by kernel_rfl) (fun _ _ _ h => h) (by rfl) (fun _ => by kernel_rfl) rfl ?_
  refine pu 2 25 (.pointer (some ⟨g, 0, none⟩)) 7 rfl rfl (by kernel_rfl) (fun _ _ _ h => h) (by rfl) (fun _ => by kernel_rfl) rfl ?_
  refine pu 3 26 (.pointer (some ⟨g, 5, none⟩)) 15 rfl rfl (by kernel_rfl) (fun _ _ _ h => h) (by rfl) (fun _ => by kernel_rfl) rfl ?_
  refine pu 5 28 (.pointer (some ⟨g0, 3, none⟩)) 47 rfl rfl (by kernel_rfl) (fun _ _ _ h => h) (by rfl) (fun _ => by kernel_rfl) rfl ?_
  refine pu 7 30 (.pointer (some ⟨g0, 4, none⟩)) 175 rfl rfl (by kernel_rfl) (fun _ _ _ h => h) (by rfl) (fun _ => by kernel_rfl) rfl ?_
  refine pu 9 32 (.pointer (some ⟨g0, 5, none⟩)) 687 rfl rfl (by kernel_rfl) (fun _ _ _ h => h) (by rfl) (fun _ => by kernel_rfl) rfl ?_
  refine norm_ (a' := ?_) ?_ ?_
  rotate_left
  · simp only [Act.put, List.setIfInBounds_toArray, List.set_cons_zero, List.set_cons_succ, i64_w, i32_w]
    rfl
  refine take_ (i := 4) (N := some 27) (v := .agg #[.int .i64 0, .int .u64 c6, .int .u64 c7, .int .u64 c8, .int .u64 c9, .int .u64 c10, .int .u64 c11]) (a' := ?_) (bs 15 703) rfl rfl (by kernel_rfl) (fun _ _ _ h => h) (Or.inl ⟨by rfl, ?_⟩) hHeld ?_ ?_
  · rintro w' ⟨s0, s1, s2, s3⟩
    exact exec_seg_load 27 (.tmp 26) (by rfl) g 5 [.int .i64 0, .int .u64 c6, .int .u64 c7, .int .u64 c8, .int .u64 c9, .int .u64 c10, .int .u64 c11] (by rfl) s0 (by rfl) Try.underlying27 (by rfl) (by kernel_rfl)
  rotate_left
  · simp only [Act.put, List.setIfInBounds_toArray, List.set_cons_zero, List.set_cons_succ, i64_w, i32_w]
    rfl
  refine take_ (i := 6) (N := some 29) (v := ?_) (a' := ?_) (bs 15 767) rfl rfl (by kernel_rfl) (fun _ _ _ h => h) (Or.inl ⟨by rfl, ?_⟩) hHeld ?_ ?_
  rotate_left
  · rintro w' ⟨s0, s1, s2, s3⟩
    go_simp
    with_reducible rfl
  rotate_left
  · simp only [Act.put, List.setIfInBounds_toArray, List.set_cons_zero, List.set_cons_succ, i64_w, i32_w]
    rfl
  refine take_ (i := 8) (N := some 31) (v := ?_) (a' := ?_) (bs 15 1023) rfl rfl (by kernel_rfl) (fun _ _ _ h => h) (Or.inl ⟨by rfl, ?_⟩) hHeld ?_ ?_
  rotate_left
  · rintro w' ⟨s0, s1, s2, s3⟩
    go_simp
    with_reducible rfl
  rotate_left
  · simp only [Act.put, List.setIfInBounds_toArray, List.set_cons_zero, List.set_cons_succ, i64_w, i32_w]
    rfl
  refine take_ (i := 10) (N := some 33) (v := ?_) (a' := ?_) (bs 15 2047) rfl rfl (by kernel_rfl) (fun _ _ _ h => h) (Or.inl ⟨by rfl, ?_⟩) hHeld ?_ ?_
  rotate_left
  · rintro w' ⟨s0, s1, s2, s3⟩
    go_simp
    with_reducible rfl
  rotate_left
  · simp only [Act.put, List.setIfInBounds_toArray, List.set_cons_zero, List.set_cons_succ, i64_w, i32_w]
    rfl
  refine one_ (i := 11) (N := some 34) (bs 15 4095) rfl rfl (by kernel_rfl) (by decide) (fun K hK => ?_)
  refine goes_ Try.func49 (by kernel_rfl) rfl #[.agg #[.int .i64 0, .int .u64 c6, .int .u64 c7, .int .u64 c8, .int .u64 c9, .int .u64 c10, .int .u64 c11], .int .u64 g_3, .int .u64 g_4, .int .u64 g_5] (by rfl) rfl rfl (by simp only [List.map_toArray, List.map_cons, List.map_nil]; rfl) ?_
  with_reducible refine (sampleC0 c6 c7 c8 c9 c10 c11 g_3 g_4 g_5 Wc6 Wc7 Wc8 Wc9 Wc10 Wc11 Wg_3 Wg_4 Wg_5 _).mono ?_
  rintro e w5 ⟨q0, q1, q2, q3, q4, q5, q6, rfl, hq0, Wq1, Wq2, Wq3, Wq4, Wq5, Wq6, hl⟩
  refine ⟨_, rfl, ?_⟩
  replace Bg := Bg.below hl; replace Bg0 := Bg0.below hl; replace HS := HS.below hl; clear hl; replace kg_5 := Bg.at 5 rfl; replace zg_5 := Bg.frozen 5; replace kg_6 := Bg.at 6 rfl; replace zg_6 := Bg.frozen 6; replace kg_7 := Bg.at 7 rfl; replace zg_7 := Bg.frozen 7; replace kg_8 := Bg.at 8 rfl; replace zg_8 := Bg.frozen 8; replace kg_9 := Bg.at 9 rfl; replace zg_9 := Bg.frozen 9; replace kg_10 := Bg.at 10 rfl; replace zg_10 := Bg.frozen 10; replace kg_11 := Bg.at 11 rfl; replace zg_11 := Bg.frozen 11; replace kg0_3 := Bg0.at 3 rfl; replace kg0_4 := Bg0.at 4 rfl; replace kg0_5 := Bg0.at 5 rfl
  refine hK.out _ _ ⟨Bg, ((Bg0.cell 3).trans rfl), ((Bg0.cell 4).trans rfl), ((Bg0.cell 5).trans rfl)⟩ (fun hHeld => ?_)
  clear hK K
  refine norm_ (a' := ?_) ?_ ?_
  rotate_left
  · show Act.put _ (some 34) _ = _
    simp only [Act.put, List.setIfInBounds_toArray, List.set_cons_zero, List.set_cons_succ, i64_w, i32_w]
    rfl
  refine pu 12 35 (.pointer (some ⟨g, 0, none⟩)) 8191 rfl rfl (by kernel_rfl) (fun _ _ _ h => h) (by rfl) (fun _ => by kernel_rfl) rfl ?_
  refine pu 13 36 (.pointer (some ⟨g, 5, none⟩)) 16383 rfl rfl (by kernel_rfl) (fun _ _ _ h => h) (by rfl) (fun _ => by kernel_rfl) rfl ?_
  refine norm_ (a' := ?_) ?_ ?_
  rotate_left
  · simp only [Act.put, List.setIfInBounds_toArray, List.set_cons_zero, List.set_cons_succ, i64_w, i32_w]
    rfl
  refine last_ (i := 14) (N := none) (bs 15 32767) rfl rfl (by kernel_rfl) (by decide) (fun K hK => ?_)
  refine skip_ (w1 := ?_) (by rfl) rfl ?_ ?_
  rotate_left
  · go_simp
    rfl
  refine hK.out _ _ ?_
  clear hK K
  refine done_ (by kernel_rfl) ?_
  refine letter ?_
  intro w6 hW
  have Bn_ : Blk w6 g 36 (K36 2 c1 c2 c3 c4 q0 q1 q2 q3 q4 q5 q6 c12 c13 c14 c15 c16 c17 c18 c19 c20 (.slice A21 n21 k21) c22 c23 c24 c25 c26 c27 c28 c29 c30 c31 c32 c33 c34 c35 c36 c37 c38 c39 c40) := (by rw [hW]; (repeat (first | (with_reducible refine Blk.drewN ?_ _) | (with_reducible refine Blk.drew ?_))); refine Blk.set (l := (K36 2 c1 c2 c3 c4 q0 q1 q2 q3 q4 q5 c11 c12 c13 c14 c15 c16 c17 c18 c19 c20 (.slice A21 n21 k21) c22 c23 c24 c25 c26 c27 c28 c29 c30 c31 c32 c33 c34 c35 c36 c37 c38 c39 c40)) ?_ 11 _ rfl; (repeat (first | (with_reducible refine Blk.drewN ?_ _) | (with_reducible refine Blk.drew ?_))); refine Blk.set (l := (K36 2 c1 c2 c3 c4 q0 q1 q2 q3 q4 c10 c11 c12 c13 c14 c15 c16 c17 c18 c19 c20 (.slice A21 n21 k21) c22 c23 c24 c25 c26 c27 c28 c29 c30 c31 c32 c33 c34 c35 c36 c37 c38 c39 c40)) ?_ 10 _ rfl; (repeat (first | (with_reducible refine Blk.drewN ?_ _) | (with_reducible refine Blk.drew ?_))); refine Blk.set (l := (K36 2 c1 c2 c3 c4 q0 q1 q2 q3 c9 c10 c11 c12 c13 c14 c15 c16 c17 c18 c19 c20 (.slice A21 n21 k21) c22 c23 c24 c25 c26 c27 c28 c29 c30 c31 c32 c33 c34 c35 c36 c37 c38 c39 c40)) ?_ 9 _ rfl; (repeat (first | (with_reducible refine Blk.drewN ?_ _) | (with_reducible refine Blk.drew ?_))); refine Blk.set (l := (K36 2 c1 c2 c3 c4 q0 q1 q2 c8 c9 c10 c11 c12 c13 c14 c15 c16 c17 c18 c19 c20 (.slice A21 n21 k21) c22 c23 c24 c25 c26 c27 c28 c29 c30 c31 c32 c33 c34 c35 c36 c37 c38 c39 c40)) ?_ 8 _ rfl; (repeat (first | (with_reducible refine Blk.drewN ?_ _) | (with_reducible refine Blk.drew ?_))); refine Blk.set (l := (K36 2 c1 c2 c3 c4 q0 q1 c7 c8 c9 c10 c11 c12 c13 c14 c15 c16 c17 c18 c19 c20 (.slice A21 n21 k21) c22 c23 c24 c25 c26 c27 c28 c29 c30 c31 c32 c33 c34 c35 c36 c37 c38 c39 c40)) ?_ 7 _ rfl; (repeat (first | (with_reducible refine Blk.drewN ?_ _) | (with_reducible refine Blk.drew ?_))); refine Blk.set (l := (K36 2 c1 c2 c3 c4 q0 c6 c7 c8 c9 c10 c11 c12 c13 c14 c15 c16 c17 c18 c19 c20 (.slice A21 n21 k21) c22 c23 c24 c25 c26 c27 c28 c29 c30 c31 c32 c33 c34 c35 c36 c37 c38 c39 c40)) ?_ 6 _ rfl; (repeat (first | (with_reducible refine Blk.drewN ?_ _) | (with_reducible refine Blk.drew ?_))); refine Blk.set (l := (K36 2 c1 c2 c3 c4 0 c6 c7 c8 c9 c10 c11 c12 c13 c14 c15 c16 c17 c18 c19 c20 (.slice A21 n21 k21) c22 c23 c24 c25 c26 c27 c28 c29 c30 c31 c32 c33 c34 c35 c36 c37 c38 c39 c40)) ?_ 5 _ rfl; (repeat (first | (with_reducible refine Blk.drewN ?_ _) | (with_reducible refine Blk.drew ?_))); exact Bg)
  replace Bg := Bn_
  clear Bn_
  have Bn_ : Blk w6 g0 40 [.int .u64 g_0, .int .u64 g_1, .int .u64 g_2, .int .u64 g_3, .int .u64 g_4, .int .u64 g_5, .int .u64 g_6, .int .u64 g_7, .bool g_8, .bool g_9] := (by rw [hW]; (repeat (first | (with_reducible refine Blk.drewN ?_ _) | (with_reducible refine Blk.drew ?_))); refine Blk.setFar ?_ Ng0_g; (repeat (first | (with_reducible refine Blk.drewN ?_ _) | (with_reducible refine Blk.drew ?_))); refine Blk.setFar ?_ Ng0_g; (repeat (first | (with_reducible refine Blk.drewN ?_ _) | (with_reducible refine Blk.drew ?_))); refine Blk.setFar ?_ Ng0_g; (repeat (first | (with_reducible refine Blk.drewN ?_ _) | (with_reducible refine Blk.drew ?_))); refine Blk.setFar ?_ Ng0_g; (repeat (first | (with_reducible refine Blk.drewN ?_ _) | (with_reducible refine Blk.drew ?_))); refine Blk.setFar ?_ Ng0_g; (repeat (first | (with_reducible refine Blk.drewN ?_ _) | (with_reducible refine Blk.drew ?_))); refine Blk.setFar ?_ Ng0_g; (repeat (first | (with_reducible refine Blk.drewN ?_ _) | (with_reducible refine Blk.drew ?_))); refine Blk.setFar ?_ Ng0_g; (repeat (first | (with_reducible refine Blk.drewN ?_ _) | (with_reducible refine Blk.drew ?_))); exact Bg0)
  replace Bg0 := Bn_
  clear Bn_
  have HS_ : Turned g w w6 := (by rw [hW]; repeat (first | (with_reducible exact HS) | (with_reducible refine Turned.drewN ?_ _) | (with_reducible refine Turned.drew ?_) | (with_reducible refine Turned.set ?_)))
  replace HS := HS_
  clear HS_ hW
  clear zg_5 kg_6 zg_6 kg_7 zg_7 kg_8 zg_8 kg_9 zg_9 kg_10 zg_10 kg_11 zg_11 kg0_3 kg0_4 kg0_5; replace kg_5 := Bg.at 5 rfl
  go_upto_if 42 with (fail)
  (try simp only [Act.put, List.setIfInBounds_toArray, List.set_cons_zero, List.set_cons_succ])
  go_cut [] (fun wc => Blk wc g 36 (K36 2 c1 c2 c3 c4 q0 q1 q2 q3 q4 q5 q6 c12 c13 c14 c15 c16 c17 c18 c19 c20 (.slice A21 n21 k21) c22 c23 c24 c25 c26 c27 c28 c29 c30 c31 c32 c33 c34 c35 c36 c37 c38 c39 c40) ∧ Blk wc g0 40 [.int .u64 g_0, .int .u64 g_1, .int .u64 g_2, .int .u64 g_3, .int .u64 g_4, .int .u64 g_5, .int .u64 g_6, .int .u64 g_7, .bool g_8, .bool g_9] ∧ Turned g w wc)
  case first =>
    rcases Bool.eq_false_or_eq_true (q0 == 2) with h1 | h1
    · (try rw [h1])
      clear kg_5; have kg_12 := Bg.at 12 rfl
      go_wp2_with (first | ((with_reducible refine gate_ (.store 23 (.tmp 47) (.tmp 46)) rfl ?_); refine seg_store rfl rfl 23 (.tmp 47) (.tmp 46) rfl g 13 [.int .u64 c12] (K36 2 c1 c2 c3 c4 q0 q1 q2 q3 q4 q5 q6 c12 c12 c14 c15 c16 c17 c18 c19 c20 (.slice A21 n21 k21) c22 c23 c24 c25 c26 c27 c28 c29 c30 c31 c32 c33 c34 c35 c36 c37 c38 c39 c40) (.int .u64 c12) ?hx ?hy rfl Bg (by kernel_rfl) (Nat.le_of_ble_eq_true rfl) rfl rfl ?_; (case hx => first | rfl | (go_simp; done) | (go_simp; rfl)); (case hy => first | rfl | (go_simp; done) | (go_simp; rfl)); intro w7 hn hw; replace Bg0 := Bg0.grown hw Ng0_g; replace HS := HS.same hw; replace Bg := hn; clear hw; clear kg_12; have kg0_1 := Bg0.at 1 rfl; clear hn))
      all_goals (go_ret; exact ⟨_, _, _, _, _, _, _, _, _, rfl, Wg_1, Wc12, hq0, Wq1, Wq2, Wq3, Wq4, Wq5, Wq6, Bg, HS.out⟩)
    · (try rw [h1])
      clear kg_5
      go_wp2
      all_goals go_meet
      case rel => exact ⟨Bg, Bg0, HS⟩
  case rest =>
    clear kg_5 Bg Bg0 HS
    obtain ⟨Bg, Bg0, HS⟩ := hcut
    have kg0_1 := Bg0.at 1 rfl
    go_wp2
    refine start_ (n := 8) (S := fun w' => Blk w' g 36 (K36 2 c1 c2 c3 c4 q0 q1 q2 q3 q4 q5 q6 c12 c13 c14 c15 c16 c17 c18 c19 c20 (.slice A21 n21 k21) c22 c23 c24 c25 c26 c27 c28 c29 c30 c31 c32 c33 c34 c35 c36 c37 c38 c39 c40) ∧ w'.cell? ⟨g0, 1, none⟩ = some (.int .u64 g_1)) (ds := []) (bs 8 0) (by kernel_rfl) rfl rfl ⟨Bg.drew, ((Bg0.drew.cell 1).trans rfl)⟩ (fun hHeld => ?_)
    generalize hWd : World.drew wc = w61 at hHeld ⊢
    have hl : Below wc.heap.size wc w61 := (by rw [← hWd]; exact below_drew1 (Below.refl _ _))
    clear hWd
    replace Bg := Bg.below hl; replace Bg0 := Bg0.below hl; replace HS := HS.below hl; clear hl; replace kg0_1 := Bg0.at 1 rfl
    refine pu 0 50 (.pointer (some ⟨g, 0, none⟩)) 1 rfl rfl (by kernel_rfl) (fun _ _ _ h => h) (by rfl) (fun _ => by kernel_rfl) rfl ?_
    refine pu 1 51 (.pointer (some ⟨g, 0, none⟩)) 3 rfl rfl (by kernel_rfl) (fun _ _ _ h => h) (by rfl) (fun _ => by kernel_rfl) rfl ?_
    refine pu 2 52 (.pointer (some ⟨g, 5, none⟩)) 7 rfl rfl (by kernel_rfl) (fun _ _ _ h => h) (by rfl) (fun _ => by kernel_rfl) rfl ?_
    refine pu 4 54 (.pointer (some ⟨g0, 1, none⟩)) 23 rfl rfl (by kernel_rfl) (fun _ _ _ h => h) (by rfl) (fun _ => by kernel_rfl) rfl ?_
    refine norm_ (a' := ?_) ?_ ?_
    rotate_left
    · simp only [Act.put, List.setIfInBounds_toArray, List.set_cons_zero, List.set_cons_succ, i64_w, i32_w]
      rfl
    refine take_ (i := 3) (N := some 53) (v := .agg #[.int .i64 q0, .int .u64 q1, .int .u64 q2, .int .u64 q3, .int .u64 q4, .int .u64 q5, .int .u64 q6]) (a' := ?_) (bs 8 31) rfl rfl (by kernel_rfl) (fun _ _ _ h => h) (Or.inl ⟨by rfl, ?_⟩) hHeld ?_ ?_
    · rintro w' ⟨s0, s1⟩
      exact exec_seg_load 27 (.tmp 52) (by rfl) g 5 [.int .i64 q0, .int .u64 q1, .int .u64 q2, .int .u64 q3, .int .u64 q4, .int .u64 q5, .int .u64 q6] (by rfl) s0 (by rfl) Try.underlying27 (by rfl) (by kernel_rfl)
    rotate_left
    · simp only [Act.put, List.setIfInBounds_toArray, List.set_cons_zero, List.set_cons_succ, i64_w, i32_w]
      rfl
    refine take_ (i := 5) (N := some 55) (v := ?_) (a' := ?_) (bs 8 63) rfl rfl (by kernel_rfl) (fun _ _ _ h => h) (Or.inl ⟨by rfl, ?_⟩) hHeld ?_ ?_
    rotate_left
    · rintro w' ⟨s0, s1⟩
      go_simp
      with_reducible rfl
    rotate_left
    · simp only [Act.put, List.setIfInBounds_toArray, List.set_cons_zero, List.set_cons_succ, i64_w, i32_w]
      rfl
    refine one_ (i := 6) (N := some 56) (bs 8 127) rfl rfl (by kernel_rfl) (by decide) (fun K hK => ?_)
    refine goes_ Try.func50 (by kernel_rfl) rfl #[.agg #[.int .i64 q0, .int .u64 q1, .int .u64 q2, .int .u64 q3, .int .u64 q4, .int .u64 q5, .int .u64 q6], .int .u64 g_1] (by rfl) rfl rfl (by simp only [List.map_toArray, List.map_cons, List.map_nil]; rfl) ?_
    with_reducible refine (growC q0 q1 q2 q3 q4 q5 q6 g_1 Wg_1 _).mono ?_
    rintro e w62 ⟨rfl, hl⟩
    refine ⟨_, rfl, ?_⟩
    replace Bg := Bg.below hl; replace Bg0 := Bg0.below hl; replace HS := HS.below hl; clear hl; replace kg0_1 := Bg0.at 1 rfl
    refine hK.out _ _ ⟨Bg, ((Bg0.cell 1).trans rfl)⟩ (fun hHeld => ?_)
    clear hK K
    refine norm_ (a' := ?_) ?_ ?_
    rotate_left
    · show Act.put _ (some 56) _ = _
      simp only [Act.put, List.setIfInBounds_toArray, List.set_cons_zero, List.set_cons_succ, i64_w, i32_w]
      rfl
    refine pure_ (i := 7) (N := some 4) (v := ?_) (a' := ?_) (bs 8 255) rfl rfl (by kernel_rfl) (fun _ _ _ h => h) (Or.inl ⟨by rfl, ?_⟩) ?_ ?_
    rotate_left
    · intro w'
      go_simp
      with_reducible rfl
    rotate_left
    · simp only [Act.put, List.setIfInBounds_toArray, List.set_cons_zero, List.set_cons_succ, i64_w, i32_w]
      rfl
    refine done_ (by kernel_rfl) ?_
    refine letter ?_
    intro w63 hW
    have Bn_ : Blk w63 g 36 (K36 2 c1 c2 c3 c4 q0 q1 q2 q3 q4 q5 q6 c12 c13 c14 c15 c16 c17 c18 c19 c20 (.slice A21 n21 k21) c22 c23 c24 c25 c26 c27 c28 c29 c30 c31 c32 c33 c34 c35 c36 c37 c38 c39 c40) := (by rw [hW]; (repeat (first | (with_reducible refine Blk.drewN ?_ _) | (with_reducible refine Blk.drew ?_))); exact Bg)
    replace Bg := Bn_
    clear Bn_
    have Bn_ : Blk w63 g0 40 [.int .u64 g_0, .int .u64 g_1, .int .u64 g_2, .int .u64 g_3, .int .u64 g_4, .int .u64 g_5, .int .u64 g_6, .int .u64 g_7, .bool g_8, .bool g_9] := (by rw [hW]; (repeat (first | (with_reducible refine Blk.drewN ?_ _) | (with_reducible refine Blk.drew ?_))); exact Bg0)
    replace Bg0 := Bn_
    clear Bn_
    have HS_ : Turned g w w63 := (by rw [hW]; repeat (first | (with_reducible exact HS) | (with_reducible refine Turned.drewN ?_ _) | (with_reducible refine Turned.drew ?_)))
    replace HS := HS_
    clear HS_ hW
    clear kg0_1
    go_wp2
    all_goals (go_ret; exact ⟨_, _, _, _, _, _, _, _, _, rfl, (uGrow_w Wg_1), Wc13, hq0, Wq1, Wq2, Wq3, Wq4, Wq5, Wq6, Bg, HS.out⟩)
set_option maxRecDepth 100000 in
set_option maxHeartbeats 4000000 in
theorem slowC2_1 (g_0 : Int) (g_1 : Int) (g_2 : Int) (g_3 : Int) (g_4 : Int) (g_5 : Int) (g_6 : Int) (g_7 : Int) (g_8 : Bool) (g_9 : Bool) (c1 : Int) (c2 : Int) (c3 : Int) (c4 : Int) (c6 : Int) (c7 : Int) (c8 : Int) (c9 : Int) (c10 : Int) (c11 : Int) (c12 : Int) (c13 : Int) (c14 : Int) (c15 : Bool) (c16 : Int) (c17 : Int) (c18 : Int) (c19 : Int) (c20 : Int) (c22 : Int) (c23 : Int) (c24 : Int) (c25 : Int) (c26 : Int) (c27 : Int) (c28 : Int) (c29 : Int) (c30 : Int) (c31 : Int) (c32 : Int) (c33 : Int) (c34 : Int) (c35 : Int) (c36 : Int) (c37 : Int) (c38 : Bool) (c39 : Int) (c40 : Int) (Wg_0 : W64 g_0) (Wg_1 : W64 g_1) (Wg_2 : W64 g_2) (Wg_3 : W64 g_3) (Wg_4 : W64 g_4) (Wg_5 : W64 g_5) (Wg_6 : W64 g_6) (Wg_7 : W64 g_7) (Wc1 : W64 c1) (Wc2 : W64 c2) (Wc3 : W64 c3) (Wc4 : W64 c4) (Wc6 : W64 c6) (Wc7 : W64 c7) (Wc8 : W64 c8) (Wc9 : W64 c9) (Wc10 : W64 c10) (Wc11 : W64 c11) (Wc12 : W64 c12) (Wc13 : W64 c13) (Wc14 : W64 c14) (Wc16 : W64 c16) (Wc17 : W64 c17) (Wc18 : W64 c18) (Wc19 : W64 c19) (Wc22 : W64 c22) (Wc23 : W64 c23) (Wc24 : W64 c24) (Wc25 : W64 c25) (Wc26 : W64 c26) (Wc27 : W64 c27) (Wc28 : W64 c28) (Wc29 : W64 c29) (Wc30 : W64 c30) (Wc31 : W64 c31) (Wc32 : W64 c32) (Wc33 : W64 c33) (Wc34 : W64 c34) (Wc35 : W64 c35) (Wc36 : W64 c36) (Wc37 : W64 c37) (Wc39 : W64 c39) (Wc40 : W64 c40) (g : Nat) (A21 : Option Addr) (n21 : Nat) (k21 : Nat) (h0 : (decide (c13 ≤ c12)) = false) (w : World) (Bg : Blk w g 36 (K36 2 c1 c2 c3 c4 1 c6 c7 c8 c9 c10 c11 c12 c13 c14 c15 c16 c17 c18 c19 c20 (.slice A21 n21 k21) c22 c23 c24 c25 c26 c27 c28 c29 c30 c31 c32 c33 c34 c35 c36 c37 c38 c39 c40)) :
    Calls Try.prog 21 #[.pointer (some ⟨g, 0, none⟩), .agg #[.int .u64 g_0, .int .u64 g_1, .int .u64 g_2, .int .u64 g_3, .int .u64 g_4, .int .u64 g_5, .int .u64 g_6, .int .u64 g_7, .bool g_8, .bool g_9]] w fun e w' => ∃ (q th p0 p1 p2 p3 p4 p5 p6 : Int), e = .returned (.int .u64 q) ∧ W64 q ∧ W64 th ∧ (p0 = 0 ∨ p0 = 1 ∨ p0 = 2) ∧ W64 p1 ∧ W64 p2 ∧ W64 p3 ∧ W64 p4 ∧ W64 p5 ∧ W64 p6 ∧ Blk w' g 36 (K36 2 c1 c2 c3 c4 p0 p1 p2 p3 p4 p5 p6 c12 th c14 c15 c16 c17 c18 c19 c20 (.slice A21 n21 k21) c22 c23 c24 c25 c26 c27 c28 c29 c30 c31 c32 c33 c34 c35 c36 c37 c38 c39 c40) ∧ w.grownBy w' (some g) := by
  have hu27 := Try.underlying27
  have hu36 := Try.underlying36
  have hu40 := Try.underlying40
  have HS := Turned.refl g w
  go_enter Try.func21, Try.ntmps21
  go_wp2_with (first | ((with_reducible refine gate_dst (N := 3) rfl ?_); refine seg_new rfl (N := 3) rfl [.int .u64 g_0, .int .u64 g_1, .int .u64 g_2, .int .u64 g_3, .int .u64 g_4, .int .u64 g_5, .int .u64 g_6, .int .u64 g_7, .bool g_8, .bool g_9] 40 ?hr ?_; (case hr => first | (go_simp; done) | (go_simp; rfl) | kernel_rfl); intro g0 hg w1 hn hl; have Ng0_g := ne_new Bg hg; have GEg0 := HS.ge hg; clear hg; replace Bg := Bg.below hl; replace HS := HS.below hl; have Bg0 := hn; clear hl hn) | ((go_at_call 36); (with_reducible refine (parts_cubic g _ ((Bg.cell 0).trans rfl)).mono ?_); rintro e w2 ⟨rfl, hd⟩; have hl := hd.below; clear hd; replace Bg := Bg.below hl; replace Bg0 := Bg0.below hl; replace HS := HS.below hl; clear hl; have kg_12 := Bg.at 12 rfl; have kg_13 := Bg.at 13 rfl))
  all_goals go_quiet (fail)
  all_goals (generalize hW : World.drewN w2 _ = w3; have hl : Below w2.heap.size w2 w3 := (by rw [← hW]; exact pw_below_drewN (Below.refl _ _) _); clear hW; replace Bg := Bg.below hl; replace Bg0 := Bg0.below hl; replace HS := HS.below hl; clear hl; clear kg_12 kg_13; have kg_5 := Bg.at 5 rfl; have zg_5 := Bg.frozen 5; have kg_6 := Bg.at 6 rfl; have zg_6 := Bg.frozen 6; have kg_7 := Bg.at 7 rfl; have zg_7 := Bg.frozen 7; have kg_8 := Bg.at 8 rfl; have zg_8 := Bg.frozen 8; have kg_9 := Bg.at 9 rfl; have zg_9 := Bg.frozen 9; have kg_10 := Bg.at 10 rfl; have zg_10 := Bg.frozen 10; have kg_11 := Bg.at 11 rfl; have zg_11 := Bg.frozen 11; have kg0_3 := Bg0.at 3 rfl; have kg0_4 := Bg0.at 4 rfl; have kg0_5 := Bg0.at 5 rfl)
  go_wp2
  refine start_ (n := 15) (S := fun w' => Blk w' g 36 (K36 2 c1 c2 c3 c4 1 c6 c7 c8 c9 c10 c11 c12 c13 c14 c15 c16 c17 c18 c19 c20 (.slice A21 n21 k21) c22 c23 c24 c25 c26 c27 c28 c29 c30 c31 c32 c33 c34 c35 c36 c37 c38 c39 c40) ∧ w'.cell? ⟨g0, 3, none⟩ = some (.int .u64 g_3) ∧ w'.cell? ⟨g0, 4, none⟩ = some (.int .u64 g_4) ∧ w'.cell? ⟨g0, 5, none⟩ = some (.int .u64 g_5)) (ds := [14]) (bs 15 0) (by kernel_rfl) rfl rfl ⟨Bg.drew, ((Bg0.drew.cell 3).trans rfl), ((Bg0.drew.cell 4).trans rfl), ((Bg0.drew.cell 5).trans rfl)⟩ (fun hHeld => ?_)
  generalize hWd : World.drew w3 = w4 at hHeld ⊢
  have hl : Below w3.heap.size w3 w4 := (by rw [← hWd]; exact below_drew1 (Below.refl _ _))
  clear hWd
  replace Bg := Bg.below hl; replace Bg0 := Bg0.below hl; replace HS := HS.below hl; clear hl; replace kg_5 := Bg.at 5 rfl; replace zg_5 := Bg.frozen 5; replace kg_6 := Bg.at 6 rfl; replace zg_6 := Bg.frozen 6; replace kg_7 := Bg.at 7 rfl; replace zg_7 := Bg.frozen 7; replace kg_8 := Bg.at 8 rfl; replace zg_8 := Bg.frozen 8; replace kg_9 := Bg.at 9 rfl; replace zg_9 := Bg.frozen 9; replace kg_10 := Bg.at 10 rfl; replace zg_10 := Bg.frozen 10; replace kg_11 := Bg.at 11 rfl; replace zg_11 := Bg.frozen 11; replace kg0_3 := Bg0.at 3 rfl; replace kg0_4 := Bg0.at 4 rfl; replace kg0_5 := Bg0.at 5 rfl
  refine pu 0 23 (.pointer (some ⟨g, 0, none⟩)) 1 rfl rfl (by kernel_rfl) (fun _ _ _ h => h) (by rfl) (fun _ => by kernel_rfl) rfl ?_
  refine pu 1 24 (.pointer (some ⟨g, 0, none⟩)) 3 rfl rfl (by kernel_rfl) (fun _ _ _ h => h) (by rfl) (fun _ => by kernel_rfl) rfl ?_
  refine pu 2 25 (.pointer (some ⟨g, 0, none⟩)) 7 rfl rfl (by kernel_rfl) (fun _ _ _ h => h) (by rfl) (fun _ => by kernel_rfl) rfl ?_
  refine pu 3 26 (.pointer (some ⟨g, 5, none⟩)) 15 rfl rfl (by kernel_rfl) (fun _ _ _ h => h) (by rfl) (fun _ => by kernel_rfl) rfl ?_
  refine pu 5 28 (.pointer (some ⟨g0, 3, none⟩)) 47 rfl rfl (by kernel_rfl) (fun _ _ _ h => h) (by rfl) (fun _ => by kernel_rfl) rfl ?_
  refine pu 7 30 (.pointer (some ⟨g0, 4, none⟩)) 175 rfl rfl (by kernel_rfl) (fun _ _ _ h => h) (by rfl) (fun _ => by kernel_rfl) rfl ?_
  refine pu 9 32 (.pointer (some ⟨g0, 5, none⟩)) 687 rfl rfl (by kernel_rfl) (fun _ _ _ h => h) (by rfl) (fun _ => by kernel_rfl) rfl ?_
  refine norm_ (a' := ?_) ?_ ?_
  rotate_left
  · simp only [Act.put, List.setIfInBounds_toArray, List.set_cons_zero, List.set_cons_succ, i64_w, i32_w]
    rfl
  refine take_ (i := 4) (N := some 27) (v := .agg #[.int .i64 1, .int .u64 c6, .int .u64 c7, .int .u64 c8, .int .u64 c9, .int .u64 c10, .int .u64 c11]) (a' := ?_) (bs 15 703) rfl rfl (by kernel_rfl) (fun _ _ _ h => h) (Or.inl ⟨by rfl, ?_⟩) hHeld ?_ ?_
  · rintro w' ⟨s0, s1, s2, s3⟩
    exact exec_seg_load 27 (.tmp 26) (by rfl) g 5 [.int .i64 1, .int .u64 c6, .int .u64 c7, .int .u64 c8, .int .u64 c9, .int .u64 c10, .int .u64 c11] (by rfl) s0 (by rfl) Try.underlying27 (by rfl) (by kernel_rfl)
  rotate_left
  · simp only [Act.put, List.setIfInBounds_toArray, List.set_cons_zero, List.set_cons_succ, i64_w, i32_w]
    rfl
  refine take_ (i := 6) (N := some 29) (v := ?_) (a' := ?_) (bs 15 767) rfl rfl (by kernel_rfl) (fun _ _ _ h => h) (Or.inl ⟨by rfl, ?_⟩) hHeld ?_ ?_
  rotate_left
  · rintro w' ⟨s0, s1, s2, s3⟩
    go_simp
    with_reducible rfl
  rotate_left
  · simp only [Act.put, List.setIfInBounds_toArray, List.set_cons_zero, List.set_cons_succ, i64_w, i32_w]
    rfl
  refine take_ (i := 8) (N := some 31) (v := ?_) (a' := ?_) (bs 15 1023) rfl rfl (by kernel_rfl) (fun _ _ _ h => h) (Or.inl ⟨by rfl, ?_⟩) hHeld ?_ ?_
  rotate_left
  · rintro w' ⟨s0, s1, s2, s3⟩
    go_simp
    with_reducible rfl
  rotate_left
  · simp only [Act.put, List.setIfInBounds_toArray, List.set_cons_zero, List.set_cons_succ, i64_w, i32_w]
    rfl
  refine take_ (i := 10) (N := some 33) (v := ?_) (a' := ?_) (bs 15 2047) rfl rfl (by kernel_rfl) (fun _ _ _ h => h) (Or.inl ⟨by rfl, ?_⟩) hHeld ?_ ?_
  rotate_left
  · rintro w' ⟨s0, s1, s2, s3⟩
    go_simp
    with_reducible rfl
  rotate_left
  · simp only [Act.put, List.setIfInBounds_toArray, List.set_cons_zero, List.set_cons_succ, i64_w, i32_w]
    rfl
  refine one_ (i := 11) (N := some 34) (bs 15 4095) rfl rfl (by kernel_rfl) (by decide) (fun K hK => ?_)
  refine goes_ Try.func49 (by kernel_rfl) rfl #[.agg #[.int .i64 1, .int .u64 c6, .int .u64 c7, .int .u64 c8, .int .u64 c9, .int .u64 c10, .int .u64 c11], .int .u64 g_3, .int .u64 g_4, .int .u64 g_5] (by rfl) rfl rfl (by simp only [List.map_toArray, List.map_cons, List.map_nil]; rfl) ?_
  with_reducible refine (sampleC1 c6 c7 c8 c9 c10 c11 g_3 g_4 g_5 Wc6 Wc7 Wc8 Wc9 Wc10 Wc11 Wg_3 Wg_4 Wg_5 _).mono ?_
  rintro e w5 ⟨q0, q1, q2, q3, q4, q5, q6, rfl, hq0, Wq1, Wq2, Wq3, Wq4, Wq5, Wq6, hl⟩
  refine ⟨_, rfl, ?_⟩
  replace Bg := Bg.below hl; replace Bg0 := Bg0.below hl; replace HS := HS.below hl; clear hl; replace kg_5 := Bg.at 5 rfl; replace zg_5 := Bg.frozen 5; replace kg_6 := Bg.at 6 rfl; replace zg_6 := Bg.frozen 6; replace kg_7 := Bg.at 7 rfl; replace zg_7 := Bg.frozen 7; replace kg_8 := Bg.at 8 rfl; replace zg_8 := Bg.frozen 8; replace kg_9 := Bg.at 9 rfl; replace zg_9 := Bg.frozen 9; replace kg_10 := Bg.at 10 rfl; replace zg_10 := Bg.frozen 10; replace kg_11 := Bg.at 11 rfl; replace zg_11 := Bg.frozen 11; replace kg0_3 := Bg0.at 3 rfl; replace kg0_4 := Bg0.at 4 rfl; replace kg0_5 := Bg0.at 5 rfl
  refine hK.out _ _ ⟨Bg, ((Bg0.cell 3).trans rfl), ((Bg0.cell 4).trans rfl), ((Bg0.cell 5).trans rfl)⟩ (fun hHeld => ?_)
  clear hK K
  refine norm_ (a' := ?_) ?_ ?_
  rotate_left
  · show Act.put _ (some 34) _ = _
    simp only [Act.put, List.setIfInBounds_toArray, List.set_cons_zero, List.set_cons_succ, i64_w, i32_w]
    rfl
  refine pu 12 35 (.pointer (some ⟨g, 0, none⟩)) 8191 rfl rfl (by kernel_rfl) (fun _ _ _ h => h) (by rfl) (fun _ => by kernel_rfl) rfl ?_
  refine pu 13 36 (.pointer (some ⟨g, 5, none⟩)) 16383 rfl rfl (by kernel_rfl) (fun _ _ _ h => h) (by rfl) (fun _ => by kernel_rfl) rfl ?_
  refine norm_ (a' := ?_) ?_ ?_
  rotate_left
  · simp only [Act.put, List.setIfInBounds_toArray, List.set_cons_zero, List.set_cons_succ, i64_w, i32_w]
    rfl
  refine last_ (i := 14) (N := none) (bs 15 32767) rfl rfl (by kernel_rfl) (by decide) (fun K hK => ?_)
  refine skip_ (w1 := ?_) (by rfl) rfl ?_ ?_
  rotate_left
  · go_simp
    rfl
  refine hK.out _ _ ?_
  clear hK K
  refine done_ (by kernel_rfl) ?_
  refine letter ?_
  intro w6 hW
  have Bn_ : Blk w6 g 36 (K36 2 c1 c2 c3 c4 q0 q1 q2 q3 q4 q5 q6 c12 c13 c14 c15 c16 c17 c18 c19 c20 (.slice A21 n21 k21) c22 c23 c24 c25 c26 c27 c28 c29 c30 c31 c32 c33 c34 c35 c36 c37 c38 c39 c40) := (by rw [hW]; (repeat (first | (with_reducible refine Blk.drewN ?_ _) | (with_reducible refine Blk.drew ?_))); refine Blk.set (l := (K36 2 c1 c2 c3 c4 q0 q1 q2 q3 q4 q5 c11 c12 c13 c14 c15 c16 c17 c18 c19 c20 (.slice A21 n21 k21) c22 c23 c24 c25 c26 c27 c28 c29 c30 c31 c32 c33 c34 c35 c36 c37 c38 c39 c40)) ?_ 11 _ rfl; (repeat (first | (with_reducible refine Blk.drewN ?_ _) | (with_reducible refine Blk.drew ?_))); refine Blk.set (l := (K36 2 c1 c2 c3 c4 q0 q1 q2 q3 q4 c10 c11 c12 c13 c14 c15 c16 c17 c18 c19 c20 (.slice A21 n21 k21) c22 c23 c24 c25 c26 c27 c28 c29 c30 c31 c32 c33 c34 c35 c36 c37 c38 c39 c40)) ?_ 10 _ rfl; (repeat (first | (with_reducible refine Blk.drewN ?_ _) | (with_reducible refine Blk.drew ?_))); refine Blk.set (l := (K36 2 c1 c2 c3 c4 q0 q1 q2 q3 c9 c10 c11 c12 c13 c14 c15 c16 c17 c18 c19 c20 (.slice A21 n21 k21) c22 c23 c24 c25 c26 c27 c28 c29 c30 c31 c32 c33 c34 c35 c36 c37 c38 c39 c40)) ?_ 9 _ rfl; (repeat (first | (with_reducible refine Blk.drewN ?_ _) | (with_reducible refine Blk.drew ?_))); refine Blk.set (l := (K36 2 c1 c2 c3 c4 q0 q1 q2 c8 c9 c10 c11 c12 c13 c14 c15 c16 c17 c18 c19 c20 (.slice A21 n21 k21) c22 c23 c24 c25 c26 c27 c28 c29 c30 c31 c32 c33 c34 c35 c36 c37 c38 c39 c40)) ?_ 8 _ rfl; (repeat (first | (with_reducible refine Blk.drewN ?_ _) | (with_reducible refine Blk.drew ?_))); refine Blk.set (l := (K36 2 c1 c2 c3 c4 q0 q1 c7 c8 c9 c10 c11 c12 c13 c14 c15 c16 c17 c18 c19 c20 (.slice A21 n21 k21) c22 c23 c24 c25 c26 c27 c28 c29 c30 c31 c32 c33 c34 c35 c36 c37 c38 c39 c40)) ?_ 7 _ rfl; (repeat (first | (with_reducible refine Blk.drewN ?_ _) | (with_reducible refine Blk.drew ?_))); refine Blk.set (l := (K36 2 c1 c2 c3 c4 q0 c6 c7 c8 c9 c10 c11 c12 c13 c14 c15 c16 c17 c18 c19 c20 (.slice A21 n21 k21) c22 c23 c24 c25 c26 c27 c28 c29 c30 c31 c32 c33 c34 c35 c36 c37 c38 c39 c40)) ?_ 6 _ rfl; (repeat (first | (with_reducible refine Blk.drewN ?_ _) | (with_reducible refine Blk.drew ?_))); refine Blk.set (l := (K36 2 c1 c2 c3 c4 1 c6 c7 c8 c9 c10 c11 c12 c13 c14 c15 c16 c17 c18 c19 c20 (.slice A21 n21 k21) c22 c23 c24 c25 c26 c27 c28 c29 c30 c31 c32 c33 c34 c35 c36 c37 c38 c39 c40)) ?_ 5 _ rfl; (repeat (first | (with_reducible refine Blk.drewN ?_ _) | (with_reducible refine Blk.drew ?_))); exact Bg)
  replace Bg := Bn_
  clear Bn_
  have Bn_ : Blk w6 g0 40 [.int .u64 g_0, .int .u64 g_1, .int .u64 g_2, .int .u64 g_3, .int .u64 g_4, .int .u64 g_5, .int .u64 g_6, .int .u64 g_7, .bool g_8, .bool g_9] := (by rw [hW]; (repeat (first | (with_reducible refine Blk.drewN ?_ _) | (with_reducible refine Blk.drew ?_))); refine Blk.setFar ?_ Ng0_g; (repeat (first | (with_reducible refine Blk.drewN ?_ _) | (with_reducible refine Blk.drew ?_))); refine Blk.setFar ?_ Ng0_g; (repeat (first | (with_reducible refine Blk.drewN ?_ _) | (with_reducible refine Blk.drew ?_))); refine Blk.setFar ?_ Ng0_g; (repeat (first | (with_reducible refine Blk.drewN ?_ _) | (with_reducible refine Blk.drew ?_))); refine Blk.setFar ?_ Ng0_g; (repeat (first | (with_reducible refine Blk.drewN ?_ _) | (with_reducible refine Blk.drew ?_))); refine Blk.setFar ?_ Ng0_g; (repeat (first | (with_reducible refine Blk.drewN ?_ _) | (with_reducible refine Blk.drew ?_))); refine Blk.setFar ?_ Ng0_g; (repeat (first | (with_reducible refine Blk.drewN ?_ _) | (with_reducible refine Blk.drew ?_))); refine Blk.setFar ?_ Ng0_g; (repeat (first | (with_reducible refine Blk.drewN ?_ _) | (with_reducible refine Blk.drew ?_))); exact Bg0)
  replace Bg0 := Bn_
  clear Bn_
  have HS_ : Turned g w w6 := (by rw [hW]; repeat (first | (with_reducible exact HS) | (with_reducible refine Turned.drewN ?_ _) | (with_reducible refine Turned.drew ?_) | (with_reducible refine Turned.set ?_)))
  replace HS := HS_
  clear HS_ hW
  clear zg_5 kg_6 zg_6 kg_7 zg_7 kg_8 zg_8 kg_9 zg_9 kg_10 zg_10 kg_11 zg_11 kg0_3 kg0_4 kg0_5; replace kg_5 := Bg.at 5 rfl
  go_upto_if 42 with (fail)
  (try simp only [Act.put, List.setIfInBounds_toArray, List.set_cons_zero, List.set_cons_succ])
  go_cut [] (fun wc => Blk wc g 36 (K36 2 c1 c2 c3 c4 q0 q1 q2 q3 q4 q5 q6 c12 c13 c14 c15 c16 c17 c18 c19 c20 (.slice A21 n21 k21) c22 c23 c24 c25 c26 c27 c28 c29 c30 c31 c32 c33 c34 c35 c36 c37 c38 c39 c40) ∧ Blk wc g0 40 [.int .u64 g_0, .int .u64 g_1, .int .u64 g_2, .int .u64 g_3, .int .u64 g_4, .int .u64 g_5, .int .u64 g_6, .int .u64 g_7, .bool g_8, .bool g_9] ∧ Turned g w wc)
  case first =>
    rcases Bool.eq_false_or_eq_true (q0 == 2) with h1 | h1
    · (try rw [h1])
      clear kg_5; have kg_12 := Bg.at 12 rfl
      go_wp2_with (first | ((with_reducible refine gate_ (.store 23 (.tmp 47) (.tmp 46)) rfl ?_); refine seg_store rfl rfl 23 (.tmp 47) (.tmp 46) rfl g 13 [.int .u64 c12] (K36 2 c1 c2 c3 c4 q0 q1 q2 q3 q4 q5 q6 c12 c12 c14 c15 c16 c17 c18 c19 c20 (.slice A21 n21 k21) c22 c23 c24 c25 c26 c27 c28 c29 c30 c31 c32 c33 c34 c35 c36 c37 c38 c39 c40) (.int .u64 c12) ?hx ?hy rfl Bg (by kernel_rfl) (Nat.le_of_ble_eq_true rfl) rfl rfl ?_; (case hx => first | rfl | (go_simp; done) | (go_simp; rfl)); (case hy => first | rfl | (go_simp; done) | (go_simp; rfl)); intro w7 hn hw; replace Bg0 := Bg0.grown hw Ng0_g; replace HS := HS.same hw; replace Bg := hn; clear hw; clear kg_12; have kg0_1 := Bg0.at 1 rfl; clear hn))
      all_goals (go_ret; exact ⟨_, _, _, _, _, _, _, _, _, rfl, Wg_1, Wc12, hq0, Wq1, Wq2, Wq3, Wq4, Wq5, Wq6, Bg, HS.out⟩)
    · (try rw [h1])
      clear kg_5
      go_wp2
      all_goals go_meet
      case rel => exact ⟨Bg, Bg0, HS⟩
  case rest =>
    clear kg_5 Bg Bg0 HS
    obtain ⟨Bg, Bg0, HS⟩ := hcut
    have kg0_1 := Bg0.at 1 rfl
    go_wp2
    refine start_ (n := 8) (S := fun w' => Blk w' g 36 (K36 2 c1 c2 c3 c4 q0 q1 q2 q3 q4 q5 q6 c12 c13 c14 c15 c16 c17 c18 c19 c20 (.slice A21 n21 k21) c22 c23 c24 c25 c26 c27 c28 c29 c30 c31 c32 c33 c34 c35 c36 c37 c38 c39 c40) ∧ w'.cell? ⟨g0, 1, none⟩ = some (.int .u64 g_1)) (ds := []) (bs 8 0) (by kernel_rfl) rfl rfl ⟨Bg.drew, ((Bg0.drew.cell 1).trans rfl)⟩ (fun hHeld => ?_)
    generalize hWd : World.drew wc = w61 at hHeld ⊢
    have hl : Below wc.heap.size wc w61 := (by rw [← hWd]; exact below_drew1 (Below.refl _ _))
    clear hWd
    replace Bg := Bg.below hl; replace Bg0 := Bg0.below hl; replace HS := HS.below hl; clear hl; replace kg0_1 := Bg0.at 1 rfl
    refine pu 0 50 (.pointer (some ⟨g, 0, none⟩)) 1 rfl rfl (by kernel_rfl) (fun _ _ _ h => h) (by rfl) (fun _ => by kernel_rfl) rfl ?_
    refine pu 1 51 (.pointer (some ⟨g, 0, none⟩)) 3 rfl rfl (by kernel_rfl) (fun _ _ _ h => h) (by rfl) (fun _ => by kernel_rfl) rfl ?_
    refine pu 2 52 (.pointer (some ⟨g, 5, none⟩)) 7 rfl rfl (by kernel_rfl) (fun _ _ _ h => h) (by rfl) (fun _ => by kernel_rfl) rfl ?_
    refine pu 4 54 (.pointer (some ⟨g0, 1, none⟩)) 23 rfl rfl (by kernel_rfl) (fun _ _ _ h => h) (by rfl) (fun _ => by kernel_rfl) rfl ?_
    refine norm_ (a' := ?_) ?_ ?_
    rotate_left
    · simp only [Act.put, List.setIfInBounds_toArray, List.set_cons_zero, List.set_cons_succ, i64_w, i32_w]
      rfl
    refine take_ (i := 3) (N := some 53) (v := .agg #[.int .i64 q0, .int .u64 q1, .int .u64 q2, .int .u64 q3, .int .u64 q4, .int .u64 q5, .int .u64 q6]) (a' := ?_) (bs 8 31) rfl rfl (by kernel_rfl) (fun _ _ _ h => h) (Or.inl ⟨by rfl, ?_⟩) hHeld ?_ ?_
    · rintro w' ⟨s0, s1⟩
      exact exec_seg_load 27 (.tmp 52) (by rfl) g 5 [.int .i64 q0, .int .u64 q1, .int .u64 q2, .int .u64 q3, .int .u64 q4, .int .u64 q5, .int .u64 q6] (by rfl) s0 (by rfl) Try.underlying27 (by rfl) (by kernel_rfl)
    rotate_left
    · simp only [Act.put, List.setIfInBounds_toArray, List.set_cons_zero, List.set_cons_succ, i64_w, i32_w]
      rfl
    refine take_ (i := 5) (N := some 55) (v := ?_) (a' := ?_) (bs 8 63) rfl rfl (by kernel_rfl) (fun _ _ _ h => h) (Or.inl ⟨by rfl, ?_⟩) hHeld ?_ ?_
    rotate_left
    · rintro w' ⟨s0, s1⟩
      go_simp
      with_reducible rfl
    rotate_left
    · simp only [Act.put, List.setIfInBounds_toArray, List.set_cons_zero, List.set_cons_succ, i64_w, i32_w]
      rfl
    refine one_ (i := 6) (N := some 56) (bs 8 127) rfl rfl (by kernel_rfl) (by decide) (fun K hK => ?_)
    refine goes_ Try.func50 (by kernel_rfl) rfl #[.agg #[.int .i64 q0, .int .u64 q1, .int .u64 q2, .int .u64 q3, .int .u64 q4, .int .u64 q5, .int .u64 q6], .int .u64 g_1] (by rfl) rfl rfl (by simp only [List.map_toArray, List.map_cons, List.map_nil]; rfl) ?_
    with_reducible refine (growC q0 q1 q2 q3 q4 q5 q6 g_1 Wg_1 _).mono ?_
    rintro e w62 ⟨rfl, hl⟩
    refine ⟨_, rfl, ?_⟩
    replace Bg := Bg.below hl; replace Bg0 := Bg0.below hl; replace HS := HS.below hl; clear hl; replace kg0_1 := Bg0.at 1 rfl
    refine hK.out _ _ ⟨Bg, ((Bg0.cell 1).trans rfl)⟩ (fun hHeld => ?_)
    clear hK K
    refine norm_ (a' := ?_) ?_ ?_
    rotate_left
    · show Act.put _ (some 56) _ = _
      simp only [Act.put, List.setIfInBounds_toArray, List.set_cons_zero, List.set_cons_succ, i64_w, i32_w]
      rfl
    refine pure_ (i := 7) (N := some 4) (v := ?_) (a' := ?_) (bs 8 255) rfl rfl (by kernel_rfl) (fun _ _ _ h => h) (Or.inl ⟨by rfl, ?_⟩) ?_ ?_
    rotate_left
    · intro w'
      go_simp
      with_reducible rfl
    rotate_left
    · simp only [Act.put, List.setIfInBounds_toArray, List.set_cons_zero, List.set_cons_succ, i64_w, i32_w]
      rfl
    refine done_ (by kernel_rfl) ?_
    refine letter ?_
    intro w63 hW
    have Bn_ : Blk w63 g 36 (K36 2 c1 c2 c3 c4 q0 q1 q2 q3 q4 q5 q6 c12 c13 c14 c15 c16 c17 c18 c19 c20 (.slice A21 n21 k21) c22 c23 c24 c25 c26 c27 c28 c29 c30 c31 c32 c33 c34 c35 c36 c37 c38 c39 c40) := (by rw [hW]; (repeat (first | (with_reducible refine Blk.drewN ?_ _) | (with_reducible refine Blk.drew ?_))); exact Bg)
    replace Bg := Bn_
    clear Bn_
    have Bn_ : Blk w63 g0 40 [.int .u64 g_0, .int .u64 g_1, .int .u64 g_2, .int .u64 g_3, .int .u64 g_4, .int .u64 g_5, .int .u64 g_6, .int .u64 g_7, .bool g_8, .bool g_9] := (by rw [hW]; (repeat (first | (with_reducible refine Blk.drewN ?_ _) | (with_reducible refine Blk.drew ?_))); exact Bg0)
    replace Bg0 := Bn_
    clear Bn_
    have HS_ : Turned g w w63 := (by rw [hW]; repeat (first | (with_reducible exact HS) | (with_reducible refine Turned.drewN ?_ _) | (with_reducible refine Turned.drew ?_)))
    replace HS := HS_
    clear HS_ hW
    clear kg0_1
    go_wp2
    all_goals (go_ret; exact ⟨_, _, _, _, _, _, _, _, _, rfl, (uGrow_w Wg_1), Wc13, hq0, Wq1, Wq2, Wq3, Wq4, Wq5, Wq6, Bg, HS.out⟩)
end Go.Proofs.Ytpgffmnbdggpnaa.PCv
