/- ControlUndoes, for a kind. -/
import Derived.Deep.DeepMust
import Derived.Test.YtpgffmnbdggpnaaKA
import Derived.Test.YtpgffmnbdggpnaaKCtlY64
import Derived.Test.YtpgffmnbdggpnaaKCtlW
import Derived.Test.YtpgffmnbdggpnaaKCtlX4
import Derived.Test.YtpgffmnbdggpnaaKCtlX2
namespace Go.Proofs.Ytpgffmnbdggpnaa.PCv
open Go.RowKit Go.Proofs.YtpgffmnbdggpnaaW.PrintWords Go.Proofs.YtpgffmnbdggpnaaW.PrintLast Go.Proofs.YtpgffmnbdggpnaaW.PrintMore
set_option linter.unusedVariables false
set_option linter.unusedSimpArgs false
set_option maxRecDepth 100000 in
set_option maxHeartbeats 8000000 in
theorem undoes4 (A1 : Option Addr) (k1 : Nat) (l1 : List S53) (at_ now : Int) (A4 : Option Addr) (k4 : Nat) (l4 : List S53) (x1 : ∀ x ∈ l1, WfS53 x) (Wat_ : W64 at_) (Wnow : W64 now) (x4 : ∀ x ∈ l4, WfS53 x) (w : World) (hC1 : Kd.C k53 w A1 l1.length l1) (hl1 : l1.length ≤ k1) (hC4 : Kd.C k53 w A4 l4.length l4) (hl4 : l4.length ≤ k4) :
    Calls Try.prog 7 #[.int .i64 4, .slice A1 l1.length k1, .int .u64 at_, .int .u64 now, .slice A4 l4.length k4] w fun e w' => e = .returned (.bool true) ∧ Below w.heap.size w w' := by
  have hu25 := Try.underlying25
  have hu29 := Try.underlying29
  have hu34 := Try.underlying34
  have hu36 := Try.underlying36
  have hu53 := Try.underlying53
  have HS := Since.refl w
  go_enter Try.func7, Try.ntmps7
  go_wp2_with (first | ((go_at_call 8); (with_reducible refine (awake_0 _ (by decide +kernel) (by decide +kernel) (by decide +kernel)).mono ?_); rintro e w1 ⟨rfl, hl⟩; replace HS := HS.below hl; clear hl) | ((go_at_call 14); (with_reducible refine (newK4_0 0 0 _).mono ?_); rintro e w2 ⟨rfl, hl⟩; replace HS := HS.below hl; clear hl) | ((with_reducible refine gate_dst (N := 12) rfl ?_); refine seg_new rfl (N := 12) rfl (K36 0 0 0 0 0 0 0 0 0 0 0 0 0 0 0 false 0 0 0 0 0 (.slice none 0 0) 0 0 0 0 0 0 0 0 0 0 0 0 0 0 0 0 false 0 0) 36 ?hr ?_; (case hr => first | (go_simp; done) | (go_simp; rfl) | kernel_rfl); intro g0 hg w3 hn hl; have GEg0 := ge_new HS hg; clear hg; replace HS := HS.below hl; have Bg0 := hn; clear hl hn) | ((with_reducible refine gate_ (.store 36 (.tmp 12) (.tmp 34)) rfl ?_); refine seg_store rfl rfl 36 (.tmp 12) (.tmp 34) rfl g0 0 (K36 4 0 0 0 0 0 0 18446744073709551615 18446744073709551615 0 18446744073709551615 0 0 0 0 false 0 0 0 0 0 (.slice none 0 0) 0 0 0 0 0 0 0 0 12000 16777216 0 0 1048576 0 0 0 false 0 0) (K36 4 0 0 0 0 0 0 18446744073709551615 18446744073709551615 0 18446744073709551615 0 0 0 0 false 0 0 0 0 0 (.slice none 0 0) 0 0 0 0 0 0 0 0 12000 16777216 0 0 1048576 0 0 0 false 0 0) (.agg (K36 4 0 0 0 0 0 0 18446744073709551615 18446744073709551615 0 18446744073709551615 0 0 0 0 false 0 0 0 0 0 (.slice none 0 0) 0 0 0 0 0 0 0 0 12000 16777216 0 0 1048576 0 0 0 false 0 0).toArray) ?hx ?hy rfl Bg0 (by kernel_rfl) (Nat.le_of_ble_eq_true rfl) rfl rfl ?_; (case hx => first | rfl | (go_simp; done) | (go_simp; rfl)); (case hy => first | rfl | (go_simp; done) | (go_simp; rfl)); intro w4 hn hw; replace HS := HS.grown hw GEg0; replace Bg0 := hn; clear hw; clear hn))
  go_loopg [14] 50 (fun kq v14 w' => ∃ (xi b5 b6 b7 b8 b9 b10 b11 b30 b31 b32 b33 b34 b35 b36 b37 b39 b40 : Int) (b38 : Bool), v14 = .int .i64 xi ∧ 0 ≤ xi ∧ (kq : Int) + xi = 50 ∧ Blk w' g0 36 (K36 4 0 0 0 0 b5 b6 b7 b8 b9 b10 b11 0 0 0 false 0 0 0 0 0 (.slice none 0 0) 0 0 0 0 0 0 0 0 b30 b31 b32 b33 b34 b35 b36 b37 b38 b39 b40) ∧ (2400 ≤ b30 ∧ b30 ≤ 16777216) ∧ (b5 = 0 ∨ b5 = 1 ∨ b5 = 2) ∧ W64 b6 ∧ W64 b7 ∧ W64 b8 ∧ W64 b9 ∧ W64 b10 ∧ W64 b11 ∧ W64 b30 ∧ W64 b31 ∧ W64 b32 ∧ W64 b33 ∧ W64 b34 ∧ W64 b35 ∧ W64 b36 ∧ W64 b37 ∧ W64 b39 ∧ W64 b40 ∧ Since w w')
  case atStart => exact ⟨0, _, _, _, _, _, _, _, _, _, _, _, _, _, _, _, _, _, _, rfl, by decide, by decide, Bg0, (by decide), (by decide), (by decide), (by decide), (by decide), (by decide), (by decide), (by decide), (by decide), (by decide), (by decide), (by decide), (by decide), (by decide), (by decide), (by decide), (by decide), (by decide), HS⟩
  case round =>
    clear Bg0 HS
    obtain ⟨xi, b5, b6, b7, b8, b9, b10, b11, b30, b31, b32, b33, b34, b35, b36, b37, b39, b40, b38, rfl, hx_xi, hk_xi, Bg0, hb_b30, hp_b5, Wb6, Wb7, Wb8, Wb9, Wb10, Wb11, Wb30, Wb31, Wb32, Wb33, Wb34, Wb35, Wb36, Wb37, Wb39, Wb40, HS⟩ := hrel
    rcases Bool.eq_false_or_eq_true (decide (xi < (l1.length : Int))) with h0 | h0
    · rcases Bool.eq_false_or_eq_true (decide (xi < 50)) with h1 | h1
      · have hlt0 := of_decide_eq_true h0
        obtain ⟨ad0, e0_0, e0_1, e0_2, e0_3, e0_4, e0_5, e0_6, e0_7, e0_8, e0_9, e0_10, e0_11, hA0, We0_1, We0_2, We0_3, We0_4, We0_5, We0_6, We0_7, We0_8, We0_11, hE0, kE0⟩ := elem53 hC1 x1 hx_xi hlt0
        subst hA0
        replace kE0 := cell_since kE0 HS
        go_wp2
        refine start_ (n := 7) (S := fun w' => Blk w' g0 36 (K36 4 0 0 0 0 b5 b6 b7 b8 b9 b10 b11 0 0 0 false 0 0 0 0 0 (.slice none 0 0) 0 0 0 0 0 0 0 0 b30 b31 b32 b33 b34 b35 b36 b37 b38 b39 b40) ∧ RowAt w' (ad0.add (xi.toNat * 12)) [.int .i64 e0_0, .int .u64 e0_1, .int .u64 e0_2, .int .u64 e0_3, .int .u64 e0_4, .int .u64 e0_5, .int .u64 e0_6, .int .u64 e0_7, .int .u64 e0_8, .bool e0_9, .bool e0_10, .int .u64 e0_11]) (ds := [6]) (bs 7 0) (by kernel_rfl) rfl rfl ⟨Bg0.drew, (hE0.since HS.drew)⟩ (fun hHeld => ?_)
        generalize hWd : World.drew wr = w5 at hHeld ⊢
        have hl : Below wr.heap.size wr w5 := (by rw [← hWd]; exact below_drew1 (Below.refl _ _))
        clear hWd
        replace Bg0 := Bg0.below hl; replace HS := HS.below hl; clear hl
        refine pu 1 47 (.slice (some ad0) l1.length k1) 2 rfl rfl (by kernel_rfl) (fun _ _ _ h => h) (by rfl) (fun _ => by kernel_rfl) rfl ?_
        refine pu 2 48 (.int .i64 xi) 6 rfl rfl (by kernel_rfl) (fun _ _ _ h => h) (by rfl) (fun _ => by kernel_rfl) rfl ?_
        refine norm_ (a' := ?_) ?_ ?_
        rotate_left
        · simp only [Act.put, List.setIfInBounds_toArray, List.set_cons_zero, List.set_cons_succ, i64_w, i32_w]
          rfl
        refine pure_ (i := 3) (N := some 49) (v := ?_) (a' := ?_) (bs 7 14) rfl rfl (by kernel_rfl) (fun _ _ _ h => h) (Or.inl ⟨by rfl, ?_⟩) ?_ ?_
        rotate_left
        · intro w'
          go_simp
          with_reducible rfl
        rotate_left
        · simp only [Act.put, List.setIfInBounds_toArray, List.set_cons_zero, List.set_cons_succ, i64_w, i32_w]
          rfl
        refine take_ (i := 0) (N := some 46) (v := .agg #[.int .i64 4, .int .u64 0, .int .u64 0, .int .u64 0, .int .u64 0, .int .i64 b5, .int .u64 b6, .int .u64 b7, .int .u64 b8, .int .u64 b9, .int .u64 b10, .int .u64 b11, .int .u64 0, .int .u64 0, .int .u64 0, .bool false, .int .u64 0, .int .u64 0, .int .u64 0, .int .u64 0, .int .i64 0, .slice none 0 0, .int .u64 0, .int .u64 0, .int .u64 0, .int .u64 0, .int .u64 0, .int .u64 0, .int .u64 0, .int .u64 0, .int .u64 b30, .int .u64 b31, .int .u64 b32, .int .u64 b33, .int .u64 b34, .int .u64 b35, .int .u64 b36, .int .u64 b37, .bool b38, .int .u64 b39, .int .u64 b40]) (a' := ?_) (bs 7 15) rfl rfl (by kernel_rfl) (fun _ _ _ h => h) (Or.inl ⟨by rfl, ?_⟩) hHeld ?_ ?_
        · rintro w' ⟨s0, s1⟩
          exact exec_seg_load 36 (.tmp 12) (by rfl) g0 0 (K36 4 0 0 0 0 b5 b6 b7 b8 b9 b10 b11 0 0 0 false 0 0 0 0 0 (.slice none 0 0) 0 0 0 0 0 0 0 0 b30 b31 b32 b33 b34 b35 b36 b37 b38 b39 b40) (by rfl) s0 (by rfl) Try.underlying36 (by rfl) (by kernel_rfl)
        rotate_left
        · simp only [Act.put, List.setIfInBounds_toArray, List.set_cons_zero, List.set_cons_succ, i64_w, i32_w]
          rfl
        refine take_ (i := 4) (N := some 50) (v := .agg #[.int .i64 e0_0, .int .u64 e0_1, .int .u64 e0_2, .int .u64 e0_3, .int .u64 e0_4, .int .u64 e0_5, .int .u64 e0_6, .int .u64 e0_7, .int .u64 e0_8, .bool e0_9, .bool e0_10, .int .u64 e0_11]) (a' := ?_) (bs 7 31) rfl rfl (by kernel_rfl) (fun _ _ _ h => h) (Or.inl ⟨by rfl, ?_⟩) hHeld ?_ ?_
        · rintro w' ⟨s0, s1⟩
          exact exec_row_load 53 (.tmp 49) (by rfl) (ad0.add (xi.toNat * 12)) [.int .i64 e0_0, .int .u64 e0_1, .int .u64 e0_2, .int .u64 e0_3, .int .u64 e0_4, .int .u64 e0_5, .int .u64 e0_6, .int .u64 e0_7, .int .u64 e0_8, .bool e0_9, .bool e0_10, .int .u64 e0_11] (by rfl) s1 Try.underlying53 (by rfl) (by kernel_rfl)
        rotate_left
        · simp only [Act.put, List.setIfInBounds_toArray, List.set_cons_zero, List.set_cons_succ, i64_w, i32_w]
          rfl
        refine one_ (i := 5) (N := some 51) (bs 7 63) rfl rfl (by kernel_rfl) (by decide) (fun K hK => ?_)
        refine goes_ Try.func16 (by kernel_rfl) rfl #[.agg (K36 4 0 0 0 0 b5 b6 b7 b8 b9 b10 b11 0 0 0 false 0 0 0 0 0 (.slice none 0 0) 0 0 0 0 0 0 0 0 b30 b31 b32 b33 b34 b35 b36 b37 b38 b39 b40).toArray, .agg #[.int .i64 e0_0, .int .u64 e0_1, .int .u64 e0_2, .int .u64 e0_3, .int .u64 e0_4, .int .u64 e0_5, .int .u64 e0_6, .int .u64 e0_7, .int .u64 e0_8, .bool e0_9, .bool e0_10, .int .u64 e0_11]] (by rfl) rfl rfl (by simp only [List.map_toArray, List.map_cons, List.map_nil]; rfl) ?_
        with_reducible refine (nextS4 b5 b6 b7 b8 b9 b10 b11 b30 b31 b32 b33 b34 b35 b36 b37 b38 b39 b40 e0_0 e0_1 e0_2 e0_3 e0_4 e0_5 e0_6 e0_7 e0_8 e0_9 e0_10 e0_11 Wb6 Wb7 Wb8 Wb9 Wb10 Wb11 Wb30 Wb31 Wb32 Wb33 Wb34 Wb35 Wb36 Wb37 Wb39 Wb40 We0_1 We0_2 We0_3 We0_4 We0_5 We0_6 We0_7 We0_8 We0_11 hb_b30 hp_b5 _).mono ?_
        rintro e w6 ⟨a7_5, a7_6, a7_7, a7_8, a7_9, a7_10, a7_11, a7_30, a7_31, a7_32, a7_33, a7_34, a7_35, a7_36, a7_37, a7_39, a7_40, a7_38, rfl, hb_a7_30, hp_a7_5, Wa7_6, Wa7_7, Wa7_8, Wa7_9, Wa7_10, Wa7_11, Wa7_30, Wa7_31, Wa7_32, Wa7_33, Wa7_34, Wa7_35, Wa7_36, Wa7_37, Wa7_39, Wa7_40, hR_a7_, hl⟩
        refine ⟨_, rfl, ?_⟩
        replace Bg0 := Bg0.below hl; replace HS := HS.below hl; clear hl
        refine hK.out _ _ ⟨Bg0, (hE0.since HS)⟩ (fun hHeld => ?_)
        clear hK K
        refine norm_ (a' := ?_) ?_ ?_
        rotate_left
        · show Act.put _ (some 51) _ = _
          simp only [Act.put, List.setIfInBounds_toArray, List.set_cons_zero, List.set_cons_succ, i64_w, i32_w]
          rfl
        refine last_ (i := 6) (N := none) (bs 7 127) rfl rfl (by kernel_rfl) (by decide) (fun K hK => ?_)
        refine skip_seg (by rfl) rfl 36 (.tmp 12) (.tmp 51) rfl g0 0 (K36 4 0 0 0 0 a7_5 a7_6 a7_7 a7_8 a7_9 a7_10 a7_11 0 0 0 false 0 0 0 0 0 (.slice none 0 0) 0 0 0 0 0 0 0 0 a7_30 a7_31 a7_32 a7_33 a7_34 a7_35 a7_36 a7_37 a7_38 a7_39 a7_40) (K36 4 0 0 0 0 a7_5 a7_6 a7_7 a7_8 a7_9 a7_10 a7_11 0 0 0 false 0 0 0 0 0 (.slice none 0 0) 0 0 0 0 0 0 0 0 a7_30 a7_31 a7_32 a7_33 a7_34 a7_35 a7_36 a7_37 a7_38 a7_39 a7_40) (.agg (K36 4 0 0 0 0 a7_5 a7_6 a7_7 a7_8 a7_9 a7_10 a7_11 0 0 0 false 0 0 0 0 0 (.slice none 0 0) 0 0 0 0 0 0 0 0 a7_30 a7_31 a7_32 a7_33 a7_34 a7_35 a7_36 a7_37 a7_38 a7_39 a7_40).toArray) (by rfl) (by rfl) rfl Bg0 (by kernel_rfl) (Nat.le_of_ble_eq_true rfl) rfl rfl ?_
        intro w7 hn hw
        replace HS := HS.grown hw GEg0; replace Bg0 := hn; clear hw; clear hn
        refine hK.out _ _ ?_
        clear hK K
        refine done_ (by kernel_rfl) ?_
        try go_wp2
        have hc_ := of_decide_eq_true h1
        go_roundg (gk - 1)
        case measure => omega
        case rel => exact ⟨xi + 1, _, _, _, _, _, _, _, _, _, _, _, _, _, _, _, _, _, _, (by first | rfl | (simp; done) | (simp [next_ hx_xi (show xi < 1000 by omega)]; done)), (by omega), (by omega), Bg0, hb_a7_30, hp_a7_5, Wa7_6, Wa7_7, Wa7_8, Wa7_9, Wa7_10, Wa7_11, Wa7_30, Wa7_31, Wa7_32, Wa7_33, Wa7_34, Wa7_35, Wa7_36, Wa7_37, Wa7_39, Wa7_40, HS⟩
      · have q1 : IntKind.u64.wrap (0 + b32) = b32 := w0add Wb32
        have q2 : IntKind.u64.wrap b32 = b32 := w64 Wb32
        rcases Bool.eq_false_or_eq_true (decide (at_ < b32)) with h2 | h2
        · go_wp2_with (first | ((with_reducible refine gate_dst (N := 52) rfl ?_); refine seg_load rfl (N := 52) rfl 36 (.tmp 12) rfl g0 0 (K36 4 0 0 0 0 b5 b6 b7 b8 b9 b10 b11 0 0 0 false 0 0 0 0 0 (.slice none 0 0) 0 0 0 0 0 0 0 0 b30 b31 b32 b33 b34 b35 b36 b37 b38 b39 b40) ?hx Bg0 rfl Try.underlying36 rfl (by kernel_rfl) ?_; (case hx => first | rfl | (go_simp; done) | (go_simp; rfl))) | ((go_at_call 15); (with_reducible refine (windowK4_0 b5 b6 b7 b8 b9 b10 b11 b30 b31 b32 b33 b34 b35 b36 b37 b39 b40 b38 _).mono ?_); rintro e w5 ⟨rfl, hl⟩; replace Bg0 := Bg0.below hl; replace HS := HS.below hl; clear hl; have kg0_3 := Bg0.at 3 rfl; have kg0_14 := Bg0.at 14 rfl; have kg0_32 := Bg0.at 32 rfl))
          all_goals (go_ret; exact ⟨by first | rfl | (simp; done), HS.out⟩)
        · go_wp2_with (first | ((with_reducible refine gate_dst (N := 52) rfl ?_); refine seg_load rfl (N := 52) rfl 36 (.tmp 12) rfl g0 0 (K36 4 0 0 0 0 b5 b6 b7 b8 b9 b10 b11 0 0 0 false 0 0 0 0 0 (.slice none 0 0) 0 0 0 0 0 0 0 0 b30 b31 b32 b33 b34 b35 b36 b37 b38 b39 b40) ?hx Bg0 rfl Try.underlying36 rfl (by kernel_rfl) ?_; (case hx => first | rfl | (go_simp; done) | (go_simp; rfl))) | ((go_at_call 15); (with_reducible refine (windowK4_0 b5 b6 b7 b8 b9 b10 b11 b30 b31 b32 b33 b34 b35 b36 b37 b39 b40 b38 _).mono ?_); rintro e w5 ⟨rfl, hl⟩; replace Bg0 := Bg0.below hl; replace HS := HS.below hl; clear hl; have kg0_3 := Bg0.at 3 rfl; have kg0_14 := Bg0.at 14 rfl; have kg0_32 := Bg0.at 32 rfl) | ((with_reducible refine gate_dst (N := 70) rfl ?_); refine seg_load rfl (N := 70) rfl 36 (.tmp 12) rfl g0 0 (K36 4 0 0 0 0 b5 b6 b7 b8 b9 b10 b11 0 0 0 false 0 0 0 0 0 (.slice none 0 0) 0 0 0 0 0 0 0 0 b30 b31 b32 b33 b34 b35 b36 b37 b38 b39 b40) ?hx Bg0 rfl Try.underlying36 rfl (by kernel_rfl) ?_; (case hx => first | rfl | (go_simp; done) | (go_simp; rfl))) | ((go_at_call 17); (with_reducible refine (lossS4 b5 b6 b7 b8 b9 b10 b11 b30 b31 b32 b33 b34 b35 b36 b37 b38 b39 b40 at_ now 0 Wb6 Wb7 Wb8 Wb9 Wb10 Wb11 Wb30 Wb31 Wb32 Wb33 Wb34 Wb35 Wb36 Wb37 Wb39 Wb40 Wat_ Wnow (by decide) hb_b30 hp_b5 _).mono ?_); rintro e w6 ⟨a9_5, a9_6, a9_7, a9_8, a9_9, a9_10, a9_11, a9_30, a9_31, a9_32, a9_33, a9_34, a9_35, a9_36, a9_37, a9_39, a9_40, a9_38, rfl, hb_a9_30, hp_a9_5, Wa9_6, Wa9_7, Wa9_8, Wa9_9, Wa9_10, Wa9_11, Wa9_30, Wa9_31, Wa9_32, Wa9_33, Wa9_34, Wa9_35, Wa9_36, Wa9_37, Wa9_39, Wa9_40, hR_a9_, hl⟩; have h39_ := (hR_a9_.2 (Int.not_lt.mp (of_decide_eq_false h2))).symm; subst h39_; replace Bg0 := Bg0.below hl; replace HS := HS.below hl; clear hl; clear kg0_3 kg0_14 kg0_32) | ((with_reducible refine gate_ (.store 36 (.tmp 12) (.tmp 73)) rfl ?_); refine seg_store rfl rfl 36 (.tmp 12) (.tmp 73) rfl g0 0 (K36 4 0 0 0 0 a9_5 a9_6 a9_7 a9_8 a9_9 a9_10 a9_11 0 0 0 false 0 0 0 0 0 (.slice none 0 0) 0 0 0 0 0 0 0 0 a9_30 a9_31 a9_32 a9_33 a9_34 a9_35 a9_36 a9_37 a9_38 b30 a9_40) (K36 4 0 0 0 0 a9_5 a9_6 a9_7 a9_8 a9_9 a9_10 a9_11 0 0 0 false 0 0 0 0 0 (.slice none 0 0) 0 0 0 0 0 0 0 0 a9_30 a9_31 a9_32 a9_33 a9_34 a9_35 a9_36 a9_37 a9_38 b30 a9_40) (.agg (K36 4 0 0 0 0 a9_5 a9_6 a9_7 a9_8 a9_9 a9_10 a9_11 0 0 0 false 0 0 0 0 0 (.slice none 0 0) 0 0 0 0 0 0 0 0 a9_30 a9_31 a9_32 a9_33 a9_34 a9_35 a9_36 a9_37 a9_38 b30 a9_40).toArray) ?hx ?hy rfl Bg0 (by kernel_rfl) (Nat.le_of_ble_eq_true rfl) rfl rfl ?_; (case hx => first | rfl | (go_simp; done) | (go_simp; rfl)); (case hy => first | rfl | (go_simp; done) | (go_simp; rfl)); intro w7 hn hw; replace HS := HS.grown hw GEg0; replace Bg0 := hn; clear hw; have kg0_39 := Bg0.at 39 rfl; clear hn))
          go_loopg [17] 50 (fun kq v17 w' => ∃ (xj d5 d6 d7 d8 d9 d10 d11 d30 d31 d32 d33 d34 d35 d36 d37 d40 : Int) (d38 : Bool), v17 = .int .i64 xj ∧ 0 ≤ xj ∧ (kq : Int) + xj = 50 ∧ Blk w' g0 36 (K36 4 0 0 0 0 d5 d6 d7 d8 d9 d10 d11 0 0 0 false 0 0 0 0 0 (.slice none 0 0) 0 0 0 0 0 0 0 0 d30 d31 d32 d33 d34 d35 d36 d37 d38 b30 d40) ∧ (2400 ≤ d30 ∧ d30 ≤ 16777216) ∧ (d5 = 0 ∨ d5 = 1 ∨ d5 = 2) ∧ W64 d6 ∧ W64 d7 ∧ W64 d8 ∧ W64 d9 ∧ W64 d10 ∧ W64 d11 ∧ W64 d30 ∧ W64 d31 ∧ W64 d32 ∧ W64 d33 ∧ W64 d34 ∧ W64 d35 ∧ W64 d36 ∧ W64 d37 ∧ W64 d40 ∧ Since w w')
          case atStart => exact ⟨0, _, _, _, _, _, _, _, _, _, _, _, _, _, _, _, _, _, rfl, by decide, by decide, Bg0, hb_a9_30, hp_a9_5, Wa9_6, Wa9_7, Wa9_8, Wa9_9, Wa9_10, Wa9_11, Wa9_30, Wa9_31, Wa9_32, Wa9_33, Wa9_34, Wa9_35, Wa9_36, Wa9_37, Wa9_40, HS⟩
          case round =>
            clear kg0_39 Bg0 HS
            obtain ⟨xj, d5, d6, d7, d8, d9, d10, d11, d30, d31, d32, d33, d34, d35, d36, d37, d40, d38, rfl, hx_xj, hk_xj, Bg0, hb_d30, hp_d5, Wd6, Wd7, Wd8, Wd9, Wd10, Wd11, Wd30, Wd31, Wd32, Wd33, Wd34, Wd35, Wd36, Wd37, Wd40, HS⟩ := hrel
            rcases Bool.eq_false_or_eq_true (decide (xj < (l4.length : Int))) with h3 | h3
            · rcases Bool.eq_false_or_eq_true (decide (xj < 50)) with h4 | h4
              · have hlt0 := of_decide_eq_true h3
                obtain ⟨ad0, e0_0, e0_1, e0_2, e0_3, e0_4, e0_5, e0_6, e0_7, e0_8, e0_9, e0_10, e0_11, hA0, We0_1, We0_2, We0_3, We0_4, We0_5, We0_6, We0_7, We0_8, We0_11, hE0, kE0⟩ := elem53 hC4 x4 hx_xj hlt0
                subst hA0
                replace kE0 := cell_since kE0 HS
                rcases Bool.eq_false_or_eq_true (e0_0 == 1) with h5 | h5
                · go_wp2
                  refine start_ (n := 7) (S := fun w' => Blk w' g0 36 (K36 4 0 0 0 0 d5 d6 d7 d8 d9 d10 d11 0 0 0 false 0 0 0 0 0 (.slice none 0 0) 0 0 0 0 0 0 0 0 d30 d31 d32 d33 d34 d35 d36 d37 d38 b30 d40) ∧ RowAt w' (ad0.add (xj.toNat * 12)) [.int .i64 e0_0, .int .u64 e0_1, .int .u64 e0_2, .int .u64 e0_3, .int .u64 e0_4, .int .u64 e0_5, .int .u64 e0_6, .int .u64 e0_7, .int .u64 e0_8, .bool e0_9, .bool e0_10, .int .u64 e0_11]) (ds := [6]) (bs 7 0) (by kernel_rfl) rfl rfl ⟨Bg0.drew, (hE0.since HS.drew)⟩ (fun hHeld => ?_)
                  generalize hWd : World.drew wr = w8 at hHeld ⊢
                  have hl : Below wr.heap.size wr w8 := (by rw [← hWd]; exact below_drew1 (Below.refl _ _))
                  clear hWd
                  replace Bg0 := Bg0.below hl; replace HS := HS.below hl; clear hl
                  refine pu 1 95 (.slice (some ad0) l4.length k4) 2 rfl rfl (by kernel_rfl) (fun _ _ _ h => h) (by rfl) (fun _ => by kernel_rfl) rfl ?_
                  refine pu 2 96 (.int .i64 xj) 6 rfl rfl (by kernel_rfl) (fun _ _ _ h => h) (by rfl) (fun _ => by kernel_rfl) rfl ?_
                  refine norm_ (a' := ?_) ?_ ?_
                  rotate_left
                  · simp only [Act.put, List.setIfInBounds_toArray, List.set_cons_zero, List.set_cons_succ, i64_w, i32_w]
                    rfl
                  refine pure_ (i := 3) (N := some 97) (v := ?_) (a' := ?_) (bs 7 14) rfl rfl (by kernel_rfl) (fun _ _ _ h => h) (Or.inl ⟨by rfl, ?_⟩) ?_ ?_
                  rotate_left
                  · intro w'
                    go_simp
                    with_reducible rfl
                  rotate_left
                  · simp only [Act.put, List.setIfInBounds_toArray, List.set_cons_zero, List.set_cons_succ, i64_w, i32_w]
                    rfl
                  refine take_ (i := 0) (N := some 94) (v := .agg #[.int .i64 4, .int .u64 0, .int .u64 0, .int .u64 0, .int .u64 0, .int .i64 d5, .int .u64 d6, .int .u64 d7, .int .u64 d8, .int .u64 d9, .int .u64 d10, .int .u64 d11, .int .u64 0, .int .u64 0, .int .u64 0, .bool false, .int .u64 0, .int .u64 0, .int .u64 0, .int .u64 0, .int .i64 0, .slice none 0 0, .int .u64 0, .int .u64 0, .int .u64 0, .int .u64 0, .int .u64 0, .int .u64 0, .int .u64 0, .int .u64 0, .int .u64 d30, .int .u64 d31, .int .u64 d32, .int .u64 d33, .int .u64 d34, .int .u64 d35, .int .u64 d36, .int .u64 d37, .bool d38, .int .u64 b30, .int .u64 d40]) (a' := ?_) (bs 7 15) rfl rfl (by kernel_rfl) (fun _ _ _ h => h) (Or.inl ⟨by rfl, ?_⟩) hHeld ?_ ?_
                  · rintro w' ⟨s0, s1⟩
                    exact exec_seg_load 36 (.tmp 12) (by rfl) g0 0 (K36 4 0 0 0 0 d5 d6 d7 d8 d9 d10 d11 0 0 0 false 0 0 0 0 0 (.slice none 0 0) 0 0 0 0 0 0 0 0 d30 d31 d32 d33 d34 d35 d36 d37 d38 b30 d40) (by rfl) s0 (by rfl) Try.underlying36 (by rfl) (by kernel_rfl)
                  rotate_left
                  · simp only [Act.put, List.setIfInBounds_toArray, List.set_cons_zero, List.set_cons_succ, i64_w, i32_w]
                    rfl
                  refine take_ (i := 4) (N := some 98) (v := .agg #[.int .i64 e0_0, .int .u64 e0_1, .int .u64 e0_2, .int .u64 e0_3, .int .u64 e0_4, .int .u64 e0_5, .int .u64 e0_6, .int .u64 e0_7, .int .u64 e0_8, .bool e0_9, .bool e0_10, .int .u64 e0_11]) (a' := ?_) (bs 7 31) rfl rfl (by kernel_rfl) (fun _ _ _ h => h) (Or.inl ⟨by rfl, ?_⟩) hHeld ?_ ?_
                  · rintro w' ⟨s0, s1⟩
                    exact exec_row_load 53 (.tmp 97) (by rfl) (ad0.add (xj.toNat * 12)) [.int .i64 e0_0, .int .u64 e0_1, .int .u64 e0_2, .int .u64 e0_3, .int .u64 e0_4, .int .u64 e0_5, .int .u64 e0_6, .int .u64 e0_7, .int .u64 e0_8, .bool e0_9, .bool e0_10, .int .u64 e0_11] (by rfl) s1 Try.underlying53 (by rfl) (by kernel_rfl)
                  rotate_left
                  · simp only [Act.put, List.setIfInBounds_toArray, List.set_cons_zero, List.set_cons_succ, i64_w, i32_w]
                    rfl
                  refine one_ (i := 5) (N := some 99) (bs 7 63) rfl rfl (by kernel_rfl) (by decide) (fun K hK => ?_)
                  refine goes_ Try.func16 (by kernel_rfl) rfl #[.agg (K36 4 0 0 0 0 d5 d6 d7 d8 d9 d10 d11 0 0 0 false 0 0 0 0 0 (.slice none 0 0) 0 0 0 0 0 0 0 0 d30 d31 d32 d33 d34 d35 d36 d37 d38 b30 d40).toArray, .agg #[.int .i64 e0_0, .int .u64 e0_1, .int .u64 e0_2, .int .u64 e0_3, .int .u64 e0_4, .int .u64 e0_5, .int .u64 e0_6, .int .u64 e0_7, .int .u64 e0_8, .bool e0_9, .bool e0_10, .int .u64 e0_11]] (by rfl) rfl rfl (by simp only [List.map_toArray, List.map_cons, List.map_nil]; rfl) ?_
                  with_reducible refine (nextS4 d5 d6 d7 d8 d9 d10 d11 d30 d31 d32 d33 d34 d35 d36 d37 d38 b30 d40 e0_0 e0_1 e0_2 e0_3 e0_4 e0_5 e0_6 e0_7 e0_8 e0_9 e0_10 e0_11 Wd6 Wd7 Wd8 Wd9 Wd10 Wd11 Wd30 Wd31 Wd32 Wd33 Wd34 Wd35 Wd36 Wd37 Wb30 Wd40 We0_1 We0_2 We0_3 We0_4 We0_5 We0_6 We0_7 We0_8 We0_11 hb_d30 hp_d5 _).mono ?_
                  rintro e w9 ⟨a15_5, a15_6, a15_7, a15_8, a15_9, a15_10, a15_11, a15_30, a15_31, a15_32, a15_33, a15_34, a15_35, a15_36, a15_37, a15_39, a15_40, a15_38, rfl, hb_a15_30, hp_a15_5, Wa15_6, Wa15_7, Wa15_8, Wa15_9, Wa15_10, Wa15_11, Wa15_30, Wa15_31, Wa15_32, Wa15_33, Wa15_34, Wa15_35, Wa15_36, Wa15_37, Wa15_39, Wa15_40, hR_a15_, hl⟩
                  have h39_ := (hR_a15_.1 (beq_iff_eq.mp h5)).symm; subst h39_
                  refine ⟨_, rfl, ?_⟩
                  replace Bg0 := Bg0.below hl; replace HS := HS.below hl; clear hl
                  refine hK.out _ _ ⟨Bg0, (hE0.since HS)⟩ (fun hHeld => ?_)
                  clear hK K
                  refine norm_ (a' := ?_) ?_ ?_
                  rotate_left
                  · show Act.put _ (some 99) _ = _
                    simp only [Act.put, List.setIfInBounds_toArray, List.set_cons_zero, List.set_cons_succ, i64_w, i32_w]
                    rfl
                  refine last_ (i := 6) (N := none) (bs 7 127) rfl rfl (by kernel_rfl) (by decide) (fun K hK => ?_)
                  refine skip_seg (by rfl) rfl 36 (.tmp 12) (.tmp 99) rfl g0 0 (K36 4 0 0 0 0 a15_5 a15_6 a15_7 a15_8 a15_9 a15_10 a15_11 0 0 0 false 0 0 0 0 0 (.slice none 0 0) 0 0 0 0 0 0 0 0 a15_30 a15_31 a15_32 a15_33 a15_34 a15_35 a15_36 a15_37 a15_38 b30 a15_40) (K36 4 0 0 0 0 a15_5 a15_6 a15_7 a15_8 a15_9 a15_10 a15_11 0 0 0 false 0 0 0 0 0 (.slice none 0 0) 0 0 0 0 0 0 0 0 a15_30 a15_31 a15_32 a15_33 a15_34 a15_35 a15_36 a15_37 a15_38 b30 a15_40) (.agg (K36 4 0 0 0 0 a15_5 a15_6 a15_7 a15_8 a15_9 a15_10 a15_11 0 0 0 false 0 0 0 0 0 (.slice none 0 0) 0 0 0 0 0 0 0 0 a15_30 a15_31 a15_32 a15_33 a15_34 a15_35 a15_36 a15_37 a15_38 b30 a15_40).toArray) (by rfl) (by rfl) rfl Bg0 (by kernel_rfl) (Nat.le_of_ble_eq_true rfl) rfl rfl ?_
                  intro w10 hn hw
                  replace HS := HS.grown hw GEg0; replace Bg0 := hn; clear hw; clear hn
                  refine hK.out _ _ ?_
                  clear hK K
                  refine done_ (by kernel_rfl) ?_
                  try go_wp2
                  have hc_ := of_decide_eq_true h4
                  go_roundg (gk - 1)
                  case measure => omega
                  case rel => exact ⟨xj + 1, _, _, _, _, _, _, _, _, _, _, _, _, _, _, _, _, _, (by first | rfl | (simp; done) | (simp [next_ hx_xj (show xj < 1000 by omega)]; done)), (by omega), (by omega), Bg0, hb_a15_30, hp_a15_5, Wa15_6, Wa15_7, Wa15_8, Wa15_9, Wa15_10, Wa15_11, Wa15_30, Wa15_31, Wa15_32, Wa15_33, Wa15_34, Wa15_35, Wa15_36, Wa15_37, Wa15_40, HS⟩
                · try go_wp2
                  have hc_ := of_decide_eq_true h4
                  go_roundg (gk - 1)
                  case measure => omega
                  case rel => exact ⟨xj + 1, _, _, _, _, _, _, _, _, _, _, _, _, _, _, _, _, _, (by first | rfl | (simp; done) | (simp [next_ hx_xj (show xj < 1000 by omega)]; done)), (by omega), (by omega), Bg0, hb_d30, hp_d5, Wd6, Wd7, Wd8, Wd9, Wd10, Wd11, Wd30, Wd31, Wd32, Wd33, Wd34, Wd35, Wd36, Wd37, Wd40, HS⟩
              · go_wp2_with (first | ((with_reducible refine gate_dst (N := 100) rfl ?_); refine seg_load rfl (N := 100) rfl 36 (.tmp 12) rfl g0 0 (K36 4 0 0 0 0 d5 d6 d7 d8 d9 d10 d11 0 0 0 false 0 0 0 0 0 (.slice none 0 0) 0 0 0 0 0 0 0 0 d30 d31 d32 d33 d34 d35 d36 d37 d38 b30 d40) ?hx Bg0 rfl Try.underlying36 rfl (by kernel_rfl) ?_; (case hx => first | rfl | (go_simp; done) | (go_simp; rfl))) | ((go_at_call 18); (with_reducible refine (undoS4 d5 d6 d7 d8 d9 d10 d11 d30 d31 d32 d33 d34 d35 d36 d37 d38 b30 d40 Wd6 Wd7 Wd8 Wd9 Wd10 Wd11 Wd30 Wd31 Wd32 Wd33 Wd34 Wd35 Wd36 Wd37 Wb30 Wd40 hb_d30 hp_d5 _).mono ?_); rintro e w8 ⟨a14_5, a14_6, a14_7, a14_8, a14_9, a14_10, a14_11, a14_30, a14_31, a14_32, a14_33, a14_34, a14_35, a14_36, a14_37, a14_39, a14_40, a14_38, rfl, hb_a14_30, hp_a14_5, Wa14_6, Wa14_7, Wa14_8, Wa14_9, Wa14_10, Wa14_11, Wa14_30, Wa14_31, Wa14_32, Wa14_33, Wa14_34, Wa14_35, Wa14_36, Wa14_37, Wa14_39, Wa14_40, hR_a14_, hl⟩; have qu1 : (decide (b30 ≤ a14_30)) = true := decide_eq_true (hR_a14_.2.1 hb_b30.2); have h39_ := hR_a14_.2.2.symm; subst h39_; replace Bg0 := Bg0.below hl; replace HS := HS.below hl; clear hl) | ((with_reducible refine gate_dst (N := 18) rfl ?_); refine seg_new rfl (N := 18) rfl (K36 0 0 0 0 0 0 0 0 0 0 0 0 0 0 0 false 0 0 0 0 0 (.slice none 0 0) 0 0 0 0 0 0 0 0 0 0 0 0 0 0 0 0 false 0 0) 36 ?hr ?_; (case hr => first | (go_simp; done) | (go_simp; rfl) | kernel_rfl); intro g1 hg w9 hn hl; have Ng1_g0 := ne_new Bg0 hg; have GEg1 := ge_new HS hg; clear hg; replace Bg0 := Bg0.below hl; replace HS := HS.below hl; have Bg1 := hn; clear hl hn) | ((with_reducible refine gate_ (.store 36 (.tmp 18) (.tmp 101)) rfl ?_); refine seg_store rfl rfl 36 (.tmp 18) (.tmp 101) rfl g1 0 (K36 4 0 0 0 0 a14_5 a14_6 a14_7 a14_8 a14_9 a14_10 a14_11 0 0 0 false 0 0 0 0 0 (.slice none 0 0) 0 0 0 0 0 0 0 0 a14_30 a14_31 a14_32 a14_33 a14_34 a14_35 a14_36 a14_37 a14_38 0 a14_40) (K36 4 0 0 0 0 a14_5 a14_6 a14_7 a14_8 a14_9 a14_10 a14_11 0 0 0 false 0 0 0 0 0 (.slice none 0 0) 0 0 0 0 0 0 0 0 a14_30 a14_31 a14_32 a14_33 a14_34 a14_35 a14_36 a14_37 a14_38 0 a14_40) (.agg (K36 4 0 0 0 0 a14_5 a14_6 a14_7 a14_8 a14_9 a14_10 a14_11 0 0 0 false 0 0 0 0 0 (.slice none 0 0) 0 0 0 0 0 0 0 0 a14_30 a14_31 a14_32 a14_33 a14_34 a14_35 a14_36 a14_37 a14_38 0 a14_40).toArray) ?hx ?hy rfl Bg1 (by kernel_rfl) (Nat.le_of_ble_eq_true rfl) rfl rfl ?_; (case hx => first | rfl | (go_simp; done) | (go_simp; rfl)); (case hy => first | rfl | (go_simp; done) | (go_simp; rfl)); intro w10 hn hw; replace Bg0 := Bg0.grown hw Ng1_g0.symm; replace HS := HS.grown hw GEg1; replace Bg1 := hn; clear hw; clear hn) | ((with_reducible refine gate_dst (N := 104) rfl ?_); refine gate_guard (by first | rfl | kernel_rfl | (go_simp; done)) ?_; refine seg_load rfl (N := 104) rfl 36 (.tmp 18) rfl g1 0 (K36 4 0 0 0 0 a14_5 a14_6 a14_7 a14_8 a14_9 a14_10 a14_11 0 0 0 false 0 0 0 0 0 (.slice none 0 0) 0 0 0 0 0 0 0 0 a14_30 a14_31 a14_32 a14_33 a14_34 a14_35 a14_36 a14_37 a14_38 0 a14_40) ?hx Bg1 rfl Try.underlying36 rfl (by kernel_rfl) ?_; (case hx => first | rfl | (go_simp; done) | (go_simp; rfl))) | ((go_at_call 15); (with_reducible refine (windowK4_0 a14_5 a14_6 a14_7 a14_8 a14_9 a14_10 a14_11 a14_30 a14_31 a14_32 a14_33 a14_34 a14_35 a14_36 a14_37 0 a14_40 a14_38 _).mono ?_); rintro e w11 ⟨rfl, hl⟩; replace Bg0 := Bg0.below hl; replace Bg1 := Bg1.below hl; replace HS := HS.below hl; clear hl; have kg1_39 := Bg1.at 39 rfl))
                all_goals (go_ret; exact ⟨by first | rfl | (simp; done), HS.out⟩)
            · go_wp2_with (first | ((with_reducible refine gate_dst (N := 100) rfl ?_); refine seg_load rfl (N := 100) rfl 36 (.tmp 12) rfl g0 0 (K36 4 0 0 0 0 d5 d6 d7 d8 d9 d10 d11 0 0 0 false 0 0 0 0 0 (.slice none 0 0) 0 0 0 0 0 0 0 0 d30 d31 d32 d33 d34 d35 d36 d37 d38 b30 d40) ?hx Bg0 rfl Try.underlying36 rfl (by kernel_rfl) ?_; (case hx => first | rfl | (go_simp; done) | (go_simp; rfl))) | ((go_at_call 18); (with_reducible refine (undoS4 d5 d6 d7 d8 d9 d10 d11 d30 d31 d32 d33 d34 d35 d36 d37 d38 b30 d40 Wd6 Wd7 Wd8 Wd9 Wd10 Wd11 Wd30 Wd31 Wd32 Wd33 Wd34 Wd35 Wd36 Wd37 Wb30 Wd40 hb_d30 hp_d5 _).mono ?_); rintro e w8 ⟨a13_5, a13_6, a13_7, a13_8, a13_9, a13_10, a13_11, a13_30, a13_31, a13_32, a13_33, a13_34, a13_35, a13_36, a13_37, a13_39, a13_40, a13_38, rfl, hb_a13_30, hp_a13_5, Wa13_6, Wa13_7, Wa13_8, Wa13_9, Wa13_10, Wa13_11, Wa13_30, Wa13_31, Wa13_32, Wa13_33, Wa13_34, Wa13_35, Wa13_36, Wa13_37, Wa13_39, Wa13_40, hR_a13_, hl⟩; have qu1 : (decide (b30 ≤ a13_30)) = true := decide_eq_true (hR_a13_.2.1 hb_b30.2); have h39_ := hR_a13_.2.2.symm; subst h39_; replace Bg0 := Bg0.below hl; replace HS := HS.below hl; clear hl) | ((with_reducible refine gate_dst (N := 18) rfl ?_); refine seg_new rfl (N := 18) rfl (K36 0 0 0 0 0 0 0 0 0 0 0 0 0 0 0 false 0 0 0 0 0 (.slice none 0 0) 0 0 0 0 0 0 0 0 0 0 0 0 0 0 0 0 false 0 0) 36 ?hr ?_; (case hr => first | (go_simp; done) | (go_simp; rfl) | kernel_rfl); intro g1 hg w9 hn hl; have Ng1_g0 := ne_new Bg0 hg; have GEg1 := ge_new HS hg; clear hg; replace Bg0 := Bg0.below hl; replace HS := HS.below hl; have Bg1 := hn; clear hl hn) | ((with_reducible refine gate_ (.store 36 (.tmp 18) (.tmp 101)) rfl ?_); refine seg_store rfl rfl 36 (.tmp 18) (.tmp 101) rfl g1 0 (K36 4 0 0 0 0 a13_5 a13_6 a13_7 a13_8 a13_9 a13_10 a13_11 0 0 0 false 0 0 0 0 0 (.slice none 0 0) 0 0 0 0 0 0 0 0 a13_30 a13_31 a13_32 a13_33 a13_34 a13_35 a13_36 a13_37 a13_38 0 a13_40) (K36 4 0 0 0 0 a13_5 a13_6 a13_7 a13_8 a13_9 a13_10 a13_11 0 0 0 false 0 0 0 0 0 (.slice none 0 0) 0 0 0 0 0 0 0 0 a13_30 a13_31 a13_32 a13_33 a13_34 a13_35 a13_36 a13_37 a13_38 0 a13_40) (.agg (K36 4 0 0 0 0 a13_5 a13_6 a13_7 a13_8 a13_9 a13_10 a13_11 0 0 0 false 0 0 0 0 0 (.slice none 0 0) 0 0 0 0 0 0 0 0 a13_30 a13_31 a13_32 a13_33 a13_34 a13_35 a13_36 a13_37 a13_38 0 a13_40).toArray) ?hx ?hy rfl Bg1 (by kernel_rfl) (Nat.le_of_ble_eq_true rfl) rfl rfl ?_; (case hx => first | rfl | (go_simp; done) | (go_simp; rfl)); (case hy => first | rfl | (go_simp; done) | (go_simp; rfl)); intro w10 hn hw; replace Bg0 := Bg0.grown hw Ng1_g0.symm; replace HS := HS.grown hw GEg1; replace Bg1 := hn; clear hw; clear hn) | ((with_reducible refine gate_dst (N := 104) rfl ?_); refine gate_guard (by first | rfl | kernel_rfl | (go_simp; done)) ?_; refine seg_load rfl (N := 104) rfl 36 (.tmp 18) rfl g1 0 (K36 4 0 0 0 0 a13_5 a13_6 a13_7 a13_8 a13_9 a13_10 a13_11 0 0 0 false 0 0 0 0 0 (.slice none 0 0) 0 0 0 0 0 0 0 0 a13_30 a13_31 a13_32 a13_33 a13_34 a13_35 a13_36 a13_37 a13_38 0 a13_40) ?hx Bg1 rfl Try.underlying36 rfl (by kernel_rfl) ?_; (case hx => first | rfl | (go_simp; done) | (go_simp; rfl))) | ((go_at_call 15); (with_reducible refine (windowK4_0 a13_5 a13_6 a13_7 a13_8 a13_9 a13_10 a13_11 a13_30 a13_31 a13_32 a13_33 a13_34 a13_35 a13_36 a13_37 0 a13_40 a13_38 _).mono ?_); rintro e w11 ⟨rfl, hl⟩; replace Bg0 := Bg0.below hl; replace Bg1 := Bg1.below hl; replace HS := HS.below hl; clear hl; have kg1_39 := Bg1.at 39 rfl))
              all_goals (go_ret; exact ⟨by first | rfl | (simp; done), HS.out⟩)
    · have q1 : IntKind.u64.wrap (0 + b32) = b32 := w0add Wb32
      have q2 : IntKind.u64.wrap b32 = b32 := w64 Wb32
      rcases Bool.eq_false_or_eq_true (decide (at_ < b32)) with h1 | h1
      · go_wp2_with (first | ((with_reducible refine gate_dst (N := 52) rfl ?_); refine seg_load rfl (N := 52) rfl 36 (.tmp 12) rfl g0 0 (K36 4 0 0 0 0 b5 b6 b7 b8 b9 b10 b11 0 0 0 false 0 0 0 0 0 (.slice none 0 0) 0 0 0 0 0 0 0 0 b30 b31 b32 b33 b34 b35 b36 b37 b38 b39 b40) ?hx Bg0 rfl Try.underlying36 rfl (by kernel_rfl) ?_; (case hx => first | rfl | (go_simp; done) | (go_simp; rfl))) | ((go_at_call 15); (with_reducible refine (windowK4_0 b5 b6 b7 b8 b9 b10 b11 b30 b31 b32 b33 b34 b35 b36 b37 b39 b40 b38 _).mono ?_); rintro e w5 ⟨rfl, hl⟩; replace Bg0 := Bg0.below hl; replace HS := HS.below hl; clear hl; have kg0_3 := Bg0.at 3 rfl; have kg0_14 := Bg0.at 14 rfl; have kg0_32 := Bg0.at 32 rfl))
        all_goals (go_ret; exact ⟨by first | rfl | (simp; done), HS.out⟩)
      · go_wp2_with (first | ((with_reducible refine gate_dst (N := 52) rfl ?_); refine seg_load rfl (N := 52) rfl 36 (.tmp 12) rfl g0 0 (K36 4 0 0 0 0 b5 b6 b7 b8 b9 b10 b11 0 0 0 false 0 0 0 0 0 (.slice none 0 0) 0 0 0 0 0 0 0 0 b30 b31 b32 b33 b34 b35 b36 b37 b38 b39 b40) ?hx Bg0 rfl Try.underlying36 rfl (by kernel_rfl) ?_; (case hx => first | rfl | (go_simp; done) | (go_simp; rfl))) | ((go_at_call 15); (with_reducible refine (windowK4_0 b5 b6 b7 b8 b9 b10 b11 b30 b31 b32 b33 b34 b35 b36 b37 b39 b40 b38 _).mono ?_); rintro e w5 ⟨rfl, hl⟩; replace Bg0 := Bg0.below hl; replace HS := HS.below hl; clear hl; have kg0_3 := Bg0.at 3 rfl; have kg0_14 := Bg0.at 14 rfl; have kg0_32 := Bg0.at 32 rfl) | ((with_reducible refine gate_dst (N := 70) rfl ?_); refine seg_load rfl (N := 70) rfl 36 (.tmp 12) rfl g0 0 (K36 4 0 0 0 0 b5 b6 b7 b8 b9 b10 b11 0 0 0 false 0 0 0 0 0 (.slice none 0 0) 0 0 0 0 0 0 0 0 b30 b31 b32 b33 b34 b35 b36 b37 b38 b39 b40) ?hx Bg0 rfl Try.underlying36 rfl (by kernel_rfl) ?_; (case hx => first | rfl | (go_simp; done) | (go_simp; rfl))) | ((go_at_call 17); (with_reducible refine (lossS4 b5 b6 b7 b8 b9 b10 b11 b30 b31 b32 b33 b34 b35 b36 b37 b38 b39 b40 at_ now 0 Wb6 Wb7 Wb8 Wb9 Wb10 Wb11 Wb30 Wb31 Wb32 Wb33 Wb34 Wb35 Wb36 Wb37 Wb39 Wb40 Wat_ Wnow (by decide) hb_b30 hp_b5 _).mono ?_); rintro e w6 ⟨a8_5, a8_6, a8_7, a8_8, a8_9, a8_10, a8_11, a8_30, a8_31, a8_32, a8_33, a8_34, a8_35, a8_36, a8_37, a8_39, a8_40, a8_38, rfl, hb_a8_30, hp_a8_5, Wa8_6, Wa8_7, Wa8_8, Wa8_9, Wa8_10, Wa8_11, Wa8_30, Wa8_31, Wa8_32, Wa8_33, Wa8_34, Wa8_35, Wa8_36, Wa8_37, Wa8_39, Wa8_40, hR_a8_, hl⟩; have h39_ := (hR_a8_.2 (Int.not_lt.mp (of_decide_eq_false h1))).symm; subst h39_; replace Bg0 := Bg0.below hl; replace HS := HS.below hl; clear hl; clear kg0_3 kg0_14 kg0_32) | ((with_reducible refine gate_ (.store 36 (.tmp 12) (.tmp 73)) rfl ?_); refine seg_store rfl rfl 36 (.tmp 12) (.tmp 73) rfl g0 0 (K36 4 0 0 0 0 a8_5 a8_6 a8_7 a8_8 a8_9 a8_10 a8_11 0 0 0 false 0 0 0 0 0 (.slice none 0 0) 0 0 0 0 0 0 0 0 a8_30 a8_31 a8_32 a8_33 a8_34 a8_35 a8_36 a8_37 a8_38 b30 a8_40) (K36 4 0 0 0 0 a8_5 a8_6 a8_7 a8_8 a8_9 a8_10 a8_11 0 0 0 false 0 0 0 0 0 (.slice none 0 0) 0 0 0 0 0 0 0 0 a8_30 a8_31 a8_32 a8_33 a8_34 a8_35 a8_36 a8_37 a8_38 b30 a8_40) (.agg (K36 4 0 0 0 0 a8_5 a8_6 a8_7 a8_8 a8_9 a8_10 a8_11 0 0 0 false 0 0 0 0 0 (.slice none 0 0) 0 0 0 0 0 0 0 0 a8_30 a8_31 a8_32 a8_33 a8_34 a8_35 a8_36 a8_37 a8_38 b30 a8_40).toArray) ?hx ?hy rfl Bg0 (by kernel_rfl) (Nat.le_of_ble_eq_true rfl) rfl rfl ?_; (case hx => first | rfl | (go_simp; done) | (go_simp; rfl)); (case hy => first | rfl | (go_simp; done) | (go_simp; rfl)); intro w7 hn hw; replace HS := HS.grown hw GEg0; replace Bg0 := hn; clear hw; have kg0_39 := Bg0.at 39 rfl; clear hn))
        go_loopg [17] 50 (fun kq v17 w' => ∃ (xj d5 d6 d7 d8 d9 d10 d11 d30 d31 d32 d33 d34 d35 d36 d37 d40 : Int) (d38 : Bool), v17 = .int .i64 xj ∧ 0 ≤ xj ∧ (kq : Int) + xj = 50 ∧ Blk w' g0 36 (K36 4 0 0 0 0 d5 d6 d7 d8 d9 d10 d11 0 0 0 false 0 0 0 0 0 (.slice none 0 0) 0 0 0 0 0 0 0 0 d30 d31 d32 d33 d34 d35 d36 d37 d38 b30 d40) ∧ (2400 ≤ d30 ∧ d30 ≤ 16777216) ∧ (d5 = 0 ∨ d5 = 1 ∨ d5 = 2) ∧ W64 d6 ∧ W64 d7 ∧ W64 d8 ∧ W64 d9 ∧ W64 d10 ∧ W64 d11 ∧ W64 d30 ∧ W64 d31 ∧ W64 d32 ∧ W64 d33 ∧ W64 d34 ∧ W64 d35 ∧ W64 d36 ∧ W64 d37 ∧ W64 d40 ∧ Since w w')
        case atStart => exact ⟨0, _, _, _, _, _, _, _, _, _, _, _, _, _, _, _, _, _, rfl, by decide, by decide, Bg0, hb_a8_30, hp_a8_5, Wa8_6, Wa8_7, Wa8_8, Wa8_9, Wa8_10, Wa8_11, Wa8_30, Wa8_31, Wa8_32, Wa8_33, Wa8_34, Wa8_35, Wa8_36, Wa8_37, Wa8_40, HS⟩
        case round =>
          clear kg0_39 Bg0 HS
          obtain ⟨xj, d5, d6, d7, d8, d9, d10, d11, d30, d31, d32, d33, d34, d35, d36, d37, d40, d38, rfl, hx_xj, hk_xj, Bg0, hb_d30, hp_d5, Wd6, Wd7, Wd8, Wd9, Wd10, Wd11, Wd30, Wd31, Wd32, Wd33, Wd34, Wd35, Wd36, Wd37, Wd40, HS⟩ := hrel
          rcases Bool.eq_false_or_eq_true (decide (xj < (l4.length : Int))) with h2 | h2
          · rcases Bool.eq_false_or_eq_true (decide (xj < 50)) with h3 | h3
            · have hlt0 := of_decide_eq_true h2
              obtain ⟨ad0, e0_0, e0_1, e0_2, e0_3, e0_4, e0_5, e0_6, e0_7, e0_8, e0_9, e0_10, e0_11, hA0, We0_1, We0_2, We0_3, We0_4, We0_5, We0_6, We0_7, We0_8, We0_11, hE0, kE0⟩ := elem53 hC4 x4 hx_xj hlt0
              subst hA0
              replace kE0 := cell_since kE0 HS
              rcases Bool.eq_false_or_eq_true (e0_0 == 1) with h4 | h4
              · go_wp2
                refine start_ (n := 7) (S := fun w' => Blk w' g0 36 (K36 4 0 0 0 0 d5 d6 d7 d8 d9 d10 d11 0 0 0 false 0 0 0 0 0 (.slice none 0 0) 0 0 0 0 0 0 0 0 d30 d31 d32 d33 d34 d35 d36 d37 d38 b30 d40) ∧ RowAt w' (ad0.add (xj.toNat * 12)) [.int .i64 e0_0, .int .u64 e0_1, .int .u64 e0_2, .int .u64 e0_3, .int .u64 e0_4, .int .u64 e0_5, .int .u64 e0_6, .int .u64 e0_7, .int .u64 e0_8, .bool e0_9, .bool e0_10, .int .u64 e0_11]) (ds := [6]) (bs 7 0) (by kernel_rfl) rfl rfl ⟨Bg0.drew, (hE0.since HS.drew)⟩ (fun hHeld => ?_)
                generalize hWd : World.drew wr = w8 at hHeld ⊢
                have hl : Below wr.heap.size wr w8 := (by rw [← hWd]; exact below_drew1 (Below.refl _ _))
                clear hWd
                replace Bg0 := Bg0.below hl; replace HS := HS.below hl; clear hl
                refine pu 1 95 (.slice (some ad0) l4.length k4) 2 rfl rfl (by kernel_rfl) (fun _ _ _ h => h) (by rfl) (fun _ => by kernel_rfl) rfl ?_
                refine pu 2 96 (.int .i64 xj) 6 rfl rfl (by kernel_rfl) (fun _ _ _ h => h) (by rfl) (fun _ => by kernel_rfl) rfl ?_
                refine norm_ (a' := ?_) ?_ ?_
                rotate_left
                · simp only [Act.put, List.setIfInBounds_toArray, List.set_cons_zero, List.set_cons_succ, i64_w, i32_w]
                  rfl
                refine pure_ (i := 3) (N := some 97) (v := ?_) (a' := ?_) (bs 7 14) rfl rfl (by kernel_rfl) (fun _ _ _ h => h) (Or.inl ⟨by rfl, ?_⟩) ?_ ?_
                rotate_left
                · intro w'
                  go_simp
                  with_reducible rfl
                rotate_left
                · simp only [Act.put, List.setIfInBounds_toArray, List.set_cons_zero, List.set_cons_succ, i64_w, i32_w]
                  rfl
                refine take_ (i := 0) (N := some 94) (v := .agg #[.int .i64 4, .int .u64 0, .int .u64 0, .int .u64 0, .int .u64 0, .int .i64 d5, .int .u64 d6, .int .u64 d7, .int .u64 d8, .int .u64 d9, .int .u64 d10, .int .u64 d11, .int .u64 0, .int .u64 0, .int .u64 0, .bool false, .int .u64 0, .int .u64 0, .int .u64 0, .int .u64 0, .int .i64 0, .slice none 0 0, .int .u64 0, .int .u64 0, .int .u64 0, .int .u64 0, .int .u64 0, .int .u64 0, .int .u64 0, .int .u64 0, .int .u64 d30, .int .u64 d31, .int .u64 d32, .int .u64 d33, .int .u64 d34, .int .u64 d35, .int .u64 d36, .int .u64 d37, .bool d38, .int .u64 b30, .int .u64 d40]) (a' := ?_) (bs 7 15) rfl rfl (by kernel_rfl) (fun _ _ _ h => h) (Or.inl ⟨by rfl, ?_⟩) hHeld ?_ ?_
                · rintro w' ⟨s0, s1⟩
                  exact exec_seg_load 36 (.tmp 12) (by rfl) g0 0 (K36 4 0 0 0 0 d5 d6 d7 d8 d9 d10 d11 0 0 0 false 0 0 0 0 0 (.slice none 0 0) 0 0 0 0 0 0 0 0 d30 d31 d32 d33 d34 d35 d36 d37 d38 b30 d40) (by rfl) s0 (by rfl) Try.underlying36 (by rfl) (by kernel_rfl)
                rotate_left
                · simp only [Act.put, List.setIfInBounds_toArray, List.set_cons_zero, List.set_cons_succ, i64_w, i32_w]
                  rfl
                refine take_ (i := 4) (N := some 98) (v := .agg #[.int .i64 e0_0, .int .u64 e0_1, .int .u64 e0_2, .int .u64 e0_3, .int .u64 e0_4, .int .u64 e0_5, .int .u64 e0_6, .int .u64 e0_7, .int .u64 e0_8, .bool e0_9, .bool e0_10, .int .u64 e0_11]) (a' := ?_) (bs 7 31) rfl rfl (by kernel_rfl) (fun _ _ _ h => h) (Or.inl ⟨by rfl, ?_⟩) hHeld ?_ ?_
                · rintro w' ⟨s0, s1⟩
                  exact exec_row_load 53 (.tmp 97) (by rfl) (ad0.add (xj.toNat * 12)) [.int .i64 e0_0, .int .u64 e0_1, .int .u64 e0_2, .int .u64 e0_3, .int .u64 e0_4, .int .u64 e0_5, .int .u64 e0_6, .int .u64 e0_7, .int .u64 e0_8, .bool e0_9, .bool e0_10, .int .u64 e0_11] (by rfl) s1 Try.underlying53 (by rfl) (by kernel_rfl)
                rotate_left
                · simp only [Act.put, List.setIfInBounds_toArray, List.set_cons_zero, List.set_cons_succ, i64_w, i32_w]
                  rfl
                refine one_ (i := 5) (N := some 99) (bs 7 63) rfl rfl (by kernel_rfl) (by decide) (fun K hK => ?_)
                refine goes_ Try.func16 (by kernel_rfl) rfl #[.agg (K36 4 0 0 0 0 d5 d6 d7 d8 d9 d10 d11 0 0 0 false 0 0 0 0 0 (.slice none 0 0) 0 0 0 0 0 0 0 0 d30 d31 d32 d33 d34 d35 d36 d37 d38 b30 d40).toArray, .agg #[.int .i64 e0_0, .int .u64 e0_1, .int .u64 e0_2, .int .u64 e0_3, .int .u64 e0_4, .int .u64 e0_5, .int .u64 e0_6, .int .u64 e0_7, .int .u64 e0_8, .bool e0_9, .bool e0_10, .int .u64 e0_11]] (by rfl) rfl rfl (by simp only [List.map_toArray, List.map_cons, List.map_nil]; rfl) ?_
                with_reducible refine (nextS4 d5 d6 d7 d8 d9 d10 d11 d30 d31 d32 d33 d34 d35 d36 d37 d38 b30 d40 e0_0 e0_1 e0_2 e0_3 e0_4 e0_5 e0_6 e0_7 e0_8 e0_9 e0_10 e0_11 Wd6 Wd7 Wd8 Wd9 Wd10 Wd11 Wd30 Wd31 Wd32 Wd33 Wd34 Wd35 Wd36 Wd37 Wb30 Wd40 We0_1 We0_2 We0_3 We0_4 We0_5 We0_6 We0_7 We0_8 We0_11 hb_d30 hp_d5 _).mono ?_
                rintro e w9 ⟨a14_5, a14_6, a14_7, a14_8, a14_9, a14_10, a14_11, a14_30, a14_31, a14_32, a14_33, a14_34, a14_35, a14_36, a14_37, a14_39, a14_40, a14_38, rfl, hb_a14_30, hp_a14_5, Wa14_6, Wa14_7, Wa14_8, Wa14_9, Wa14_10, Wa14_11, Wa14_30, Wa14_31, Wa14_32, Wa14_33, Wa14_34, Wa14_35, Wa14_36, Wa14_37, Wa14_39, Wa14_40, hR_a14_, hl⟩
                have h39_ := (hR_a14_.1 (beq_iff_eq.mp h4)).symm; subst h39_
                refine ⟨_, rfl, ?_⟩
                replace Bg0 := Bg0.below hl; replace HS := HS.below hl; clear hl
                refine hK.out _ _ ⟨Bg0, (hE0.since HS)⟩ (fun hHeld => ?_)
                clear hK K
                refine norm_ (a' := ?_) ?_ ?_
                rotate_left
                · show Act.put _ (some 99) _ = _
                  simp only [Act.put, List.setIfInBounds_toArray, List.set_cons_zero, List.set_cons_succ, i64_w, i32_w]
                  rfl
                refine last_ (i := 6) (N := none) (bs 7 127) rfl rfl (by kernel_rfl) (by decide) (fun K hK => ?_)
                refine skip_seg (by rfl) rfl 36 (.tmp 12) (.tmp 99) rfl g0 0 (K36 4 0 0 0 0 a14_5 a14_6 a14_7 a14_8 a14_9 a14_10 a14_11 0 0 0 false 0 0 0 0 0 (.slice none 0 0) 0 0 0 0 0 0 0 0 a14_30 a14_31 a14_32 a14_33 a14_34 a14_35 a14_36 a14_37 a14_38 b30 a14_40) (K36 4 0 0 0 0 a14_5 a14_6 a14_7 a14_8 a14_9 a14_10 a14_11 0 0 0 false 0 0 0 0 0 (.slice none 0 0) 0 0 0 0 0 0 0 0 a14_30 a14_31 a14_32 a14_33 a14_34 a14_35 a14_36 a14_37 a14_38 b30 a14_40) (.agg (K36 4 0 0 0 0 a14_5 a14_6 a14_7 a14_8 a14_9 a14_10 a14_11 0 0 0 false 0 0 0 0 0 (.slice none 0 0) 0 0 0 0 0 0 0 0 a14_30 a14_31 a14_32 a14_33 a14_34 a14_35 a14_36 a14_37 a14_38 b30 a14_40).toArray) (by rfl) (by rfl) rfl Bg0 (by kernel_rfl) (Nat.le_of_ble_eq_true rfl) rfl rfl ?_
                intro w10 hn hw
                replace HS := HS.grown hw GEg0; replace Bg0 := hn; clear hw; clear hn
                refine hK.out _ _ ?_
                clear hK K
                refine done_ (by kernel_rfl) ?_
                try go_wp2
                have hc_ := of_decide_eq_true h3
                go_roundg (gk - 1)
                case measure => omega
                case rel => exact ⟨xj + 1, _, _, _, _, _, _, _, _, _, _, _, _, _, _, _, _, _, (by first | rfl | (simp; done) | (simp [next_ hx_xj (show xj < 1000 by omega)]; done)), (by omega), (by omega), Bg0, hb_a14_30, hp_a14_5, Wa14_6, Wa14_7, Wa14_8, Wa14_9, Wa14_10, Wa14_11, Wa14_30, Wa14_31, Wa14_32, Wa14_33, Wa14_34, Wa14_35, Wa14_36, Wa14_37, Wa14_40, HS⟩
              · try go_wp2
                have hc_ := of_decide_eq_true h3
                go_roundg (gk - 1)
                case measure => omega
                case rel => exact ⟨xj + 1, _, _, _, _, _, _, _, _, _, _, _, _, _, _, _, _, _, (by first | rfl | (simp; done) | (simp [next_ hx_xj (show xj < 1000 by omega)]; done)), (by omega), (by omega), Bg0, hb_d30, hp_d5, Wd6, Wd7, Wd8, Wd9, Wd10, Wd11, Wd30, Wd31, Wd32, Wd33, Wd34, Wd35, Wd36, Wd37, Wd40, HS⟩
            · go_wp2_with (first | ((with_reducible refine gate_dst (N := 100) rfl ?_); refine seg_load rfl (N := 100) rfl 36 (.tmp 12) rfl g0 0 (K36 4 0 0 0 0 d5 d6 d7 d8 d9 d10 d11 0 0 0 false 0 0 0 0 0 (.slice none 0 0) 0 0 0 0 0 0 0 0 d30 d31 d32 d33 d34 d35 d36 d37 d38 b30 d40) ?hx Bg0 rfl Try.underlying36 rfl (by kernel_rfl) ?_; (case hx => first | rfl | (go_simp; done) | (go_simp; rfl))) | ((go_at_call 18); (with_reducible refine (undoS4 d5 d6 d7 d8 d9 d10 d11 d30 d31 d32 d33 d34 d35 d36 d37 d38 b30 d40 Wd6 Wd7 Wd8 Wd9 Wd10 Wd11 Wd30 Wd31 Wd32 Wd33 Wd34 Wd35 Wd36 Wd37 Wb30 Wd40 hb_d30 hp_d5 _).mono ?_); rintro e w8 ⟨a13_5, a13_6, a13_7, a13_8, a13_9, a13_10, a13_11, a13_30, a13_31, a13_32, a13_33, a13_34, a13_35, a13_36, a13_37, a13_39, a13_40, a13_38, rfl, hb_a13_30, hp_a13_5, Wa13_6, Wa13_7, Wa13_8, Wa13_9, Wa13_10, Wa13_11, Wa13_30, Wa13_31, Wa13_32, Wa13_33, Wa13_34, Wa13_35, Wa13_36, Wa13_37, Wa13_39, Wa13_40, hR_a13_, hl⟩; have qu1 : (decide (b30 ≤ a13_30)) = true := decide_eq_true (hR_a13_.2.1 hb_b30.2); have h39_ := hR_a13_.2.2.symm; subst h39_; replace Bg0 := Bg0.below hl; replace HS := HS.below hl; clear hl) | ((with_reducible refine gate_dst (N := 18) rfl ?_); refine seg_new rfl (N := 18) rfl (K36 0 0 0 0 0 0 0 0 0 0 0 0 0 0 0 false 0 0 0 0 0 (.slice none 0 0) 0 0 0 0 0 0 0 0 0 0 0 0 0 0 0 0 false 0 0) 36 ?hr ?_; (case hr => first | (go_simp; done) | (go_simp; rfl) | kernel_rfl); intro g1 hg w9 hn hl; have Ng1_g0 := ne_new Bg0 hg; have GEg1 := ge_new HS hg; clear hg; replace Bg0 := Bg0.below hl; replace HS := HS.below hl; have Bg1 := hn; clear hl hn) | ((with_reducible refine gate_ (.store 36 (.tmp 18) (.tmp 101)) rfl ?_); refine seg_store rfl rfl 36 (.tmp 18) (.tmp 101) rfl g1 0 (K36 4 0 0 0 0 a13_5 a13_6 a13_7 a13_8 a13_9 a13_10 a13_11 0 0 0 false 0 0 0 0 0 (.slice none 0 0) 0 0 0 0 0 0 0 0 a13_30 a13_31 a13_32 a13_33 a13_34 a13_35 a13_36 a13_37 a13_38 0 a13_40) (K36 4 0 0 0 0 a13_5 a13_6 a13_7 a13_8 a13_9 a13_10 a13_11 0 0 0 false 0 0 0 0 0 (.slice none 0 0) 0 0 0 0 0 0 0 0 a13_30 a13_31 a13_32 a13_33 a13_34 a13_35 a13_36 a13_37 a13_38 0 a13_40) (.agg (K36 4 0 0 0 0 a13_5 a13_6 a13_7 a13_8 a13_9 a13_10 a13_11 0 0 0 false 0 0 0 0 0 (.slice none 0 0) 0 0 0 0 0 0 0 0 a13_30 a13_31 a13_32 a13_33 a13_34 a13_35 a13_36 a13_37 a13_38 0 a13_40).toArray) ?hx ?hy rfl Bg1 (by kernel_rfl) (Nat.le_of_ble_eq_true rfl) rfl rfl ?_; (case hx => first | rfl | (go_simp; done) | (go_simp; rfl)); (case hy => first | rfl | (go_simp; done) | (go_simp; rfl)); intro w10 hn hw; replace Bg0 := Bg0.grown hw Ng1_g0.symm; replace HS := HS.grown hw GEg1; replace Bg1 := hn; clear hw; clear hn) | ((with_reducible refine gate_dst (N := 104) rfl ?_); refine gate_guard (by first | rfl | kernel_rfl | (go_simp; done)) ?_; refine seg_load rfl (N := 104) rfl 36 (.tmp 18) rfl g1 0 (K36 4 0 0 0 0 a13_5 a13_6 a13_7 a13_8 a13_9 a13_10 a13_11 0 0 0 false 0 0 0 0 0 (.slice none 0 0) 0 0 0 0 0 0 0 0 a13_30 a13_31 a13_32 a13_33 a13_34 a13_35 a13_36 a13_37 a13_38 0 a13_40) ?hx Bg1 rfl Try.underlying36 rfl (by kernel_rfl) ?_; (case hx => first | rfl | (go_simp; done) | (go_simp; rfl))) | ((go_at_call 15); (with_reducible refine (windowK4_0 a13_5 a13_6 a13_7 a13_8 a13_9 a13_10 a13_11 a13_30 a13_31 a13_32 a13_33 a13_34 a13_35 a13_36 a13_37 0 a13_40 a13_38 _).mono ?_); rintro e w11 ⟨rfl, hl⟩; replace Bg0 := Bg0.below hl; replace Bg1 := Bg1.below hl; replace HS := HS.below hl; clear hl; have kg1_39 := Bg1.at 39 rfl))
              all_goals (go_ret; exact ⟨by first | rfl | (simp; done), HS.out⟩)
          · go_wp2_with (first | ((with_reducible refine gate_dst (N := 100) rfl ?_); refine seg_load rfl (N := 100) rfl 36 (.tmp 12) rfl g0 0 (K36 4 0 0 0 0 d5 d6 d7 d8 d9 d10 d11 0 0 0 false 0 0 0 0 0 (.slice none 0 0) 0 0 0 0 0 0 0 0 d30 d31 d32 d33 d34 d35 d36 d37 d38 b30 d40) ?hx Bg0 rfl Try.underlying36 rfl (by kernel_rfl) ?_; (case hx => first | rfl | (go_simp; done) | (go_simp; rfl))) | ((go_at_call 18); (with_reducible refine (undoS4 d5 d6 d7 d8 d9 d10 d11 d30 d31 d32 d33 d34 d35 d36 d37 d38 b30 d40 Wd6 Wd7 Wd8 Wd9 Wd10 Wd11 Wd30 Wd31 Wd32 Wd33 Wd34 Wd35 Wd36 Wd37 Wb30 Wd40 hb_d30 hp_d5 _).mono ?_); rintro e w8 ⟨a12_5, a12_6, a12_7, a12_8, a12_9, a12_10, a12_11, a12_30, a12_31, a12_32, a12_33, a12_34, a12_35, a12_36, a12_37, a12_39, a12_40, a12_38, rfl, hb_a12_30, hp_a12_5, Wa12_6, Wa12_7, Wa12_8, Wa12_9, Wa12_10, Wa12_11, Wa12_30, Wa12_31, Wa12_32, Wa12_33, Wa12_34, Wa12_35, Wa12_36, Wa12_37, Wa12_39, Wa12_40, hR_a12_, hl⟩; have qu1 : (decide (b30 ≤ a12_30)) = true := decide_eq_true (hR_a12_.2.1 hb_b30.2); have h39_ := hR_a12_.2.2.symm; subst h39_; replace Bg0 := Bg0.below hl; replace HS := HS.below hl; clear hl) | ((with_reducible refine gate_dst (N := 18) rfl ?_); refine seg_new rfl (N := 18) rfl (K36 0 0 0 0 0 0 0 0 0 0 0 0 0 0 0 false 0 0 0 0 0 (.slice none 0 0) 0 0 0 0 0 0 0 0 0 0 0 0 0 0 0 0 false 0 0) 36 ?hr ?_; (case hr => first | (go_simp; done) | (go_simp; rfl) | kernel_rfl); intro g1 hg w9 hn hl; have Ng1_g0 := ne_new Bg0 hg; have GEg1 := ge_new HS hg; clear hg; replace Bg0 := Bg0.below hl; replace HS := HS.below hl; have Bg1 := hn; clear hl hn) | ((with_reducible refine gate_ (.store 36 (.tmp 18) (.tmp 101)) rfl ?_); refine seg_store rfl rfl 36 (.tmp 18) (.tmp 101) rfl g1 0 (K36 4 0 0 0 0 a12_5 a12_6 a12_7 a12_8 a12_9 a12_10 a12_11 0 0 0 false 0 0 0 0 0 (.slice none 0 0) 0 0 0 0 0 0 0 0 a12_30 a12_31 a12_32 a12_33 a12_34 a12_35 a12_36 a12_37 a12_38 0 a12_40) (K36 4 0 0 0 0 a12_5 a12_6 a12_7 a12_8 a12_9 a12_10 a12_11 0 0 0 false 0 0 0 0 0 (.slice none 0 0) 0 0 0 0 0 0 0 0 a12_30 a12_31 a12_32 a12_33 a12_34 a12_35 a12_36 a12_37 a12_38 0 a12_40) (.agg (K36 4 0 0 0 0 a12_5 a12_6 a12_7 a12_8 a12_9 a12_10 a12_11 0 0 0 false 0 0 0 0 0 (.slice none 0 0) 0 0 0 0 0 0 0 0 a12_30 a12_31 a12_32 a12_33 a12_34 a12_35 a12_36 a12_37 a12_38 0 a12_40).toArray) ?hx ?hy rfl Bg1 (by kernel_rfl) (Nat.le_of_ble_eq_true rfl) rfl rfl ?_; (case hx => first | rfl | (go_simp; done) | (go_simp; rfl)); (case hy => first | rfl | (go_simp; done) | (go_simp; rfl)); intro w10 hn hw; replace Bg0 := Bg0.grown hw Ng1_g0.symm; replace HS := HS.grown hw GEg1; replace Bg1 := hn; clear hw; clear hn) | ((with_reducible refine gate_dst (N := 104) rfl ?_); refine gate_guard (by first | rfl | kernel_rfl | (go_simp; done)) ?_; refine seg_load rfl (N := 104) rfl 36 (.tmp 18) rfl g1 0 (K36 4 0 0 0 0 a12_5 a12_6 a12_7 a12_8 a12_9 a12_10 a12_11 0 0 0 false 0 0 0 0 0 (.slice none 0 0) 0 0 0 0 0 0 0 0 a12_30 a12_31 a12_32 a12_33 a12_34 a12_35 a12_36 a12_37 a12_38 0 a12_40) ?hx Bg1 rfl Try.underlying36 rfl (by kernel_rfl) ?_; (case hx => first | rfl | (go_simp; done) | (go_simp; rfl))) | ((go_at_call 15); (with_reducible refine (windowK4_0 a12_5 a12_6 a12_7 a12_8 a12_9 a12_10 a12_11 a12_30 a12_31 a12_32 a12_33 a12_34 a12_35 a12_36 a12_37 0 a12_40 a12_38 _).mono ?_); rintro e w11 ⟨rfl, hl⟩; replace Bg0 := Bg0.below hl; replace Bg1 := Bg1.below hl; replace HS := HS.below hl; clear hl; have kg1_39 := Bg1.at 39 rfl))
            all_goals (go_ret; exact ⟨by first | rfl | (simp; done), HS.out⟩)
end Go.Proofs.Ytpgffmnbdggpnaa.PCv
