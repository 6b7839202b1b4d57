/- Several texts of this claim in one. -/
import Derived.Deep.DeepMust
import Derived.Test.YtpgffmnbdggpnaaKA
import Derived.Test.YtpgffmnbdggpnaaKI
import Derived.Test.YtpgffmnbdggpnaaKC
import Derived.Test.YtpgffmnbdggpnaaKF
import Derived.Test.YtpgffmnbdggpnaaKH
section
namespace Go.Proofs.Ytpgffmnbdggpnaa.PCv
open Go.RowKit Go.Proofs.YtpgffmnbdggpnaaW.PrintWords Go.Proofs.YtpgffmnbdggpnaaW.PrintLast Go.Proofs.YtpgffmnbdggpnaaW.PrintMore
set_option linter.unusedVariables false
set_option linter.unusedSimpArgs false
set_option maxRecDepth 100000
set_option maxHeartbeats 8000000
theorem holds1 (now next : Int) (A1 : Option Addr) (k1 : Nat) (l1 : List S53) (Wnow : W64 now) (Wnext : W64 next) (x1 : ∀ x ∈ l1, WfS53 x) (w : World) (hC1 : Kd.C k53 w A1 l1.length l1) (hl1 : l1.length ≤ k1) :
  Calls Try.prog 6 #[.int .i64 1, .int .u64 now, .int .u64 next, .slice A1 l1.length k1] w fun e w' => e = .returned (.bool true) ∧ Below w.heap.size w w' := by
 have hu36 := Try.underlying36
 have hu53 := Try.underlying53
 have HS := Since.refl w
 go_enter Try.func6, Try.ntmps6
 go_wp2_with (first | ((go_at_call 8); (with_reducible refine (awake_0 _ (by decide +kernel) (by decide +kernel) (by decide +kernel)).mono ?_); rintro e w1 ⟨rfl, hl⟩; replace HS := HS.below hl; clear hl) | ((go_at_call 14); (with_reducible refine (newK1_0 now next _).mono ?_); rintro e w2 ⟨rfl, hl⟩; replace HS := HS.below hl; clear hl) | (refine seg_new rfl (N := 10) rfl K0 36 ?hr ?_; (case hr => rfl); intro g0 hg w3 hn hl; have GEg0 := ge_new HS hg; clear hg; replace HS := HS.below hl; have Bg0 := hn; clear hl hn) | (refine seg_store rfl rfl 36 (.tmp 10) (.tmp 23) rfl g0 0 (K1 12000 16777216 0 0 0 next 18446744073709551615 18446744073709551615 0 18446744073709551615 0 0 0) (K1 12000 16777216 0 0 0 next 18446744073709551615 18446744073709551615 0 18446744073709551615 0 0 0) (.agg (K1 12000 16777216 0 0 0 next 18446744073709551615 18446744073709551615 0 18446744073709551615 0 0 0).toArray) rfl rfl rfl Bg0 (by kernel_rfl) (nle rfl) rfl rfl ?_; intro w4 hn hw; replace HS := HS.grown hw GEg0; replace Bg0 := hn; clear hw; clear hn))
 go_loopg [12] 100 (fun kq v12 w' => ∃ (xi b1 b2 b3 b4 b5 b6 b7 b8 b9 b10 b11 b39 b40 : Int), v12 = .int .i64 xi ∧ 0 ≤ xi ∧ (kq : Int) + xi = 100 ∧ Blk w' g0 36 (K1 b1 b2 b3 b4 b5 b6 b7 b8 b9 b10 b11 b39 b40) ∧ G1 b1 b2 b3 b4 b5 b6 b7 b8 b9 b10 b11 b39 b40 ∧ Since w w')
 case atStart => exact ⟨0, _, _, _, _, _, _, _, _, _, _, _, _, _, rfl, by decide, by decide, Bg0, ⟨(by decide), (by decide), (by decide), (by decide), (by decide), (by decide), Wnext, (by decide), (by decide), (by decide), (by decide), (by decide), (by decide), (by decide)⟩, HS⟩
 case round =>
  clear Bg0 HS
  obtain ⟨xi, b1, b2, b3, b4, b5, b6, b7, b8, b9, b10, b11, b39, b40, rfl, hx_xi, hk_xi, Bg0, ⟨hb_b1, hp_b5, Wb1, Wb2, Wb3, Wb4, Wb6, Wb7, Wb8, Wb9, Wb10, Wb11, Wb39, Wb40⟩, HS⟩ := hrel
  rcases Bool.eq_false_or_eq_true (decide (xi < (l1.length : Int))) with h0 | h0
  ·rcases Bool.eq_false_or_eq_true (decide (xi < 100)) with h1 | h1
   ·have hlt0 := of_decide_eq_true h0
    obtain ⟨ad0, e0_0, e0_1, e0_2, e0_3, e0_4, e0_5, e0_6, e0_7, e0_8, e0_9, e0_10, e0_11, hA0, We0_1, We0_2, We0_3, We0_4, We0_5, We0_6, We0_7, We0_8, We0_11, hE0, kEb0⟩ := elem53 hC1 x1 hx_xi hlt0
    subst hA0
    have kE0 := cell_since kEb0 HS
    go_wp2_with (first | (refine seg_load rfl (N := 51) rfl 36 (.tmp 10) rfl g0 0 (K1 b1 b2 b3 b4 b5 b6 b7 b8 b9 b10 b11 b39 b40) rfl Bg0 rfl Try.underlying36 rfl (by kernel_rfl) ?_) | ((go_at_call 15); (with_reducible refine (windowK1_0 b1 b2 b3 b4 b5 b6 b7 b8 b9 b10 b11 b39 b40 _).mono ?_); rintro e w5 ⟨rfl, hl⟩; replace Bg0 := Bg0.below hl; replace HS := HS.below hl; clear hl))
    refine start_ (n := 7) (S := fun w' => Blk w' g0 36 (K1 b1 b2 b3 b4 b5 b6 b7 b8 b9 b10 b11 b39 b40) ∧ RowAt w' (ad0.add (xi.toNat * 12)) [.int .i64 e0_0, .int .u64 e0_1, .int .u64 e0_2, .int .u64 e0_3, .int .u64 e0_4, .int .u64 e0_5, .int .u64 e0_6, .int .u64 e0_7, .int .u64 e0_8, .bool e0_9, .bool e0_10, .int .u64 e0_11]) (ds := [6]) (bs 7 0) (by kernel_rfl) rfl rfl ⟨Bg0.drew, (hE0.since HS.drew)⟩ (fun hHeld => ?_)
    generalize hWd : World.drew w5 = w6 at hHeld ⊢
    have hl : Below w5.heap.size w5 w6 := (by rw [← hWd]; exact below_drew1 (Below.refl _ _))
    clear hWd
    replace Bg0 := Bg0.below hl; replace HS := HS.below hl; replace kE0 := cell_since kEb0 HS; clear hl
    refine pu 1 54 (.slice (some ad0) l1.length k1) 2 rfl rfl (by kernel_rfl) (fun _ _ _ h => h) (by rfl) (fun _ => by kernel_rfl) rfl ?_
    refine pu 2 55 (.int .i64 xi) 6 rfl rfl (by kernel_rfl) (fun _ _ _ h => h) (by rfl) (fun _ => by kernel_rfl) rfl ?_
    refine norm_ (a' := ?_) ?_ ?_
    rotate_left
    ·simp only [Act.put, zA_, z0_, z1_, i64_w, i32_w]
     rfl
    refine pure_ (i := 3) (N := some 56) (v := ?_) (a' := ?_) (bs 7 14) rfl rfl (by kernel_rfl) (fun _ _ _ h => h) (Or.inl ⟨by rfl, ?_⟩) ?_ ?_
    rotate_left
    ·intro w'
     go_simp
     with_reducible rfl
    rotate_left
    ·simp only [Act.put, zA_, z0_, z1_, i64_w, i32_w]
     rfl
    refine take_ (i := 0) (N := some 53) (v := .agg #[.int .i64 1, .int .u64 b1, .int .u64 b2, .int .u64 b3, .int .u64 b4, .int .i64 b5, .int .u64 b6, .int .u64 b7, .int .u64 b8, .int .u64 b9, .int .u64 b10, .int .u64 b11, .int .u64 0, .int .u64 0, .int .u64 0, .bool false, .int .u64 0, .int .u64 0, .int .u64 0, .int .u64 0, .int .i64 0, .slice none 0 0, .int .u64 0, .int .u64 0, .int .u64 0, .int .u64 0, .int .u64 0, .int .u64 0, .int .u64 0, .int .u64 0, .int .u64 0, .int .u64 0, .int .u64 0, .int .u64 0, .int .u64 0, .int .u64 0, .int .u64 0, .int .u64 0, .bool false, .int .u64 b39, .int .u64 b40]) (a' := ?_) (bs 7 15) rfl rfl (by kernel_rfl) (fun _ _ _ h => h) (Or.inl ⟨by rfl, ?_⟩) hHeld ?_ ?_
    ·rintro w' ⟨s0, s1⟩
     exact exec_seg_load 36 (.tmp 10) (by rfl) g0 0 (K1 b1 b2 b3 b4 b5 b6 b7 b8 b9 b10 b11 b39 b40) (by rfl) s0 (by rfl) Try.underlying36 (by rfl) (by kernel_rfl)
    rotate_left
    ·simp only [Act.put, zA_, z0_, z1_, i64_w, i32_w]
     rfl
    refine take_ (i := 4) (N := some 57) (v := .agg #[.int .i64 e0_0, .int .u64 e0_1, .int .u64 e0_2, .int .u64 e0_3, .int .u64 e0_4, .int .u64 e0_5, .int .u64 e0_6, .int .u64 e0_7, .int .u64 e0_8, .bool e0_9, .bool e0_10, .int .u64 e0_11]) (a' := ?_) (bs 7 31) rfl rfl (by kernel_rfl) (fun _ _ _ h => h) (Or.inl ⟨by rfl, ?_⟩) hHeld ?_ ?_
    ·rintro w' ⟨s0, s1⟩
     exact exec_row_load 53 (.tmp 56) (by rfl) (ad0.add (xi.toNat * 12)) [.int .i64 e0_0, .int .u64 e0_1, .int .u64 e0_2, .int .u64 e0_3, .int .u64 e0_4, .int .u64 e0_5, .int .u64 e0_6, .int .u64 e0_7, .int .u64 e0_8, .bool e0_9, .bool e0_10, .int .u64 e0_11] (by rfl) s1 Try.underlying53 (by rfl) (by kernel_rfl)
    rotate_left
    ·simp only [Act.put, zA_, z0_, z1_, i64_w, i32_w]
     rfl
    refine one_ (i := 5) (N := some 58) (bs 7 63) rfl rfl (by kernel_rfl) (by decide) (fun K hK => ?_)
    refine goes_ Try.func16 (by kernel_rfl) rfl #[.agg (K1 b1 b2 b3 b4 b5 b6 b7 b8 b9 b10 b11 b39 b40).toArray, .agg #[.int .i64 e0_0, .int .u64 e0_1, .int .u64 e0_2, .int .u64 e0_3, .int .u64 e0_4, .int .u64 e0_5, .int .u64 e0_6, .int .u64 e0_7, .int .u64 e0_8, .bool e0_9, .bool e0_10, .int .u64 e0_11]] (by rfl) rfl rfl (by simp only [List.map_toArray, List.map_cons, List.map_nil]; rfl) ?_
    with_reducible refine (nextS1 b1 b2 b3 b4 b5 b6 b7 b8 b9 b10 b11 b39 b40 e0_0 e0_1 e0_2 e0_3 e0_4 e0_5 e0_6 e0_7 e0_8 e0_11 e0_9 e0_10 ⟨hb_b1, hp_b5, Wb1, Wb2, Wb3, Wb4, Wb6, Wb7, Wb8, Wb9, Wb10, Wb11, Wb39, Wb40⟩ We0_1 We0_2 We0_3 We0_4 We0_5 We0_6 We0_7 We0_8 We0_11 _).mono ?_
    rintro e w7 ⟨a8_1, a8_2, a8_3, a8_4, a8_5, a8_6, a8_7, a8_8, a8_9, a8_10, a8_11, a8_39, a8_40, rfl, ⟨hb_a8_1, hp_a8_5, Wa8_1, Wa8_2, Wa8_3, Wa8_4, Wa8_6, Wa8_7, Wa8_8, Wa8_9, Wa8_10, Wa8_11, Wa8_39, Wa8_40⟩, hR_a8_, hl⟩
    refine ⟨_, rfl, ?_⟩
    replace Bg0 := Bg0.below hl; replace HS := HS.below hl; replace kE0 := cell_since kEb0 HS; clear hl
    refine hK.out _ _ ⟨Bg0, (hE0.since HS)⟩ (fun hHeld => ?_)
    clear hK K
    refine norm_ (a' := ?_) ?_ ?_
    rotate_left
    ·show Act.put _ (some 58) _ = _
     simp only [Act.put, zA_, z0_, z1_, i64_w, i32_w]
     rfl
    refine last_ (i := 6) (N := none) (bs 7 127) rfl rfl (by kernel_rfl) (by decide) (fun K hK => ?_)
    refine skip_seg (by rfl) rfl 36 (.tmp 10) (.tmp 58) rfl g0 0 (K1 a8_1 a8_2 a8_3 a8_4 a8_5 a8_6 a8_7 a8_8 a8_9 a8_10 a8_11 a8_39 a8_40) (K1 a8_1 a8_2 a8_3 a8_4 a8_5 a8_6 a8_7 a8_8 a8_9 a8_10 a8_11 a8_39 a8_40) (.agg (K1 a8_1 a8_2 a8_3 a8_4 a8_5 a8_6 a8_7 a8_8 a8_9 a8_10 a8_11 a8_39 a8_40).toArray) (by rfl) (by rfl) rfl Bg0 (by kernel_rfl) (nle rfl) rfl rfl ?_
    intro w8 hn hw
    replace HS := HS.grown hw GEg0; replace kE0 := cell_since kEb0 HS; replace Bg0 := hn; clear hw; clear hn
    refine hK.out _ _ ?_
    clear hK K
    refine done_ (by kernel_rfl) ?_
    rcases Bool.eq_false_or_eq_true (e0_0 == 2) with h2 | h2
    ·have b2 : (e0_0 != 2) = false := by simp only [bne, h2]; rfl
     have q1 : (decide (a8_1 < 2400)) = false := ltf hb_a8_1.1
     have q2 : (decide (16777216 < a8_1)) = false := ltf hb_a8_1.2
     have q3 : (decide (b1 < a8_1)) = false := ltf (hR_a8_.1 (.inl (beq_iff_eq.mp h2)))
     have q4 : (e0_0 == 5) = false := by rw [beq_iff_eq.mp h2]; rfl
     go_wp2_with (first | (refine seg_load rfl (N := 59) rfl 36 (.tmp 10) rfl g0 0 (K1 a8_1 a8_2 a8_3 a8_4 a8_5 a8_6 a8_7 a8_8 a8_9 a8_10 a8_11 a8_39 a8_40) rfl Bg0 rfl Try.underlying36 rfl (by kernel_rfl) ?_) | ((go_at_call 15); (with_reducible refine (windowK1_0 a8_1 a8_2 a8_3 a8_4 a8_5 a8_6 a8_7 a8_8 a8_9 a8_10 a8_11 a8_39 a8_40 _).mono ?_); rintro e w9 ⟨rfl, hl⟩; replace Bg0 := Bg0.below hl; replace HS := HS.below hl; replace kE0 := cell_since kEb0 HS; clear hl; have kg0_0 := Bg0.at 0 rfl))
     have hc_ := of_decide_eq_true h1
     go_roundg (gk - 1)
     case measure => omega
     case rel => exact ⟨xi + 1, _, _, _, _, _, _, _, _, _, _, _, _, _, (by first | rfl | (simp; done) | (simp [next_ hx_xi (show xi < 1000 by omega)]; done)), (by omega), (by omega), Bg0, ⟨hb_a8_1, hp_a8_5, Wa8_1, Wa8_2, Wa8_3, Wa8_4, Wa8_6, Wa8_7, Wa8_8, Wa8_9, Wa8_10, Wa8_11, Wa8_39, Wa8_40⟩, HS⟩
    ·have b2 : (e0_0 != 2) = true := by simp only [bne, h2]; rfl
     rcases Bool.eq_false_or_eq_true (e0_0 == 3) with h3 | h3
     ·have b3 : (e0_0 != 3) = false := by simp only [bne, h3]; rfl
      have q1 : (decide (a8_1 < 2400)) = false := ltf hb_a8_1.1
      have q2 : (decide (16777216 < a8_1)) = false := ltf hb_a8_1.2
      have q3 : (decide (b1 < a8_1)) = false := ltf (hR_a8_.1 (.inr (.inl (beq_iff_eq.mp h3))))
      have q4 : (e0_0 == 5) = false := by rw [beq_iff_eq.mp h3]; rfl
      go_wp2_with (first | (refine seg_load rfl (N := 59) rfl 36 (.tmp 10) rfl g0 0 (K1 a8_1 a8_2 a8_3 a8_4 a8_5 a8_6 a8_7 a8_8 a8_9 a8_10 a8_11 a8_39 a8_40) rfl Bg0 rfl Try.underlying36 rfl (by kernel_rfl) ?_) | ((go_at_call 15); (with_reducible refine (windowK1_0 a8_1 a8_2 a8_3 a8_4 a8_5 a8_6 a8_7 a8_8 a8_9 a8_10 a8_11 a8_39 a8_40 _).mono ?_); rintro e w9 ⟨rfl, hl⟩; replace Bg0 := Bg0.below hl; replace HS := HS.below hl; replace kE0 := cell_since kEb0 HS; clear hl; have kg0_0 := Bg0.at 0 rfl))
      have hc_ := of_decide_eq_true h1
      go_roundg (gk - 1)
      case measure => omega
      case rel => exact ⟨xi + 1, _, _, _, _, _, _, _, _, _, _, _, _, _, (by first | rfl | (simp; done) | (simp [next_ hx_xi (show xi < 1000 by omega)]; done)), (by omega), (by omega), Bg0, ⟨hb_a8_1, hp_a8_5, Wa8_1, Wa8_2, Wa8_3, Wa8_4, Wa8_6, Wa8_7, Wa8_8, Wa8_9, Wa8_10, Wa8_11, Wa8_39, Wa8_40⟩, HS⟩
     ·have b3 : (e0_0 != 3) = true := by simp only [bne, h3]; rfl
      rcases Bool.eq_false_or_eq_true (e0_0 == 4) with h4 | h4
      ·have b4 : (e0_0 != 4) = false := by simp only [bne, h4]; rfl
       have q1 : (decide (a8_1 < 2400)) = false := ltf hb_a8_1.1
       have q2 : (decide (16777216 < a8_1)) = false := ltf hb_a8_1.2
       have q3 : (decide (b1 < a8_1)) = false := ltf (hR_a8_.1 (.inr (.inr (beq_iff_eq.mp h4))))
       have q4 : (e0_0 == 5) = false := by rw [beq_iff_eq.mp h4]; rfl
       go_wp2_with (first | (refine seg_load rfl (N := 59) rfl 36 (.tmp 10) rfl g0 0 (K1 a8_1 a8_2 a8_3 a8_4 a8_5 a8_6 a8_7 a8_8 a8_9 a8_10 a8_11 a8_39 a8_40) rfl Bg0 rfl Try.underlying36 rfl (by kernel_rfl) ?_) | ((go_at_call 15); (with_reducible refine (windowK1_0 a8_1 a8_2 a8_3 a8_4 a8_5 a8_6 a8_7 a8_8 a8_9 a8_10 a8_11 a8_39 a8_40 _).mono ?_); rintro e w9 ⟨rfl, hl⟩; replace Bg0 := Bg0.below hl; replace HS := HS.below hl; replace kE0 := cell_since kEb0 HS; clear hl; have kg0_0 := Bg0.at 0 rfl))
       have hc_ := of_decide_eq_true h1
       go_roundg (gk - 1)
       case measure => omega
       case rel => exact ⟨xi + 1, _, _, _, _, _, _, _, _, _, _, _, _, _, (by first | rfl | (simp; done) | (simp [next_ hx_xi (show xi < 1000 by omega)]; done)), (by omega), (by omega), Bg0, ⟨hb_a8_1, hp_a8_5, Wa8_1, Wa8_2, Wa8_3, Wa8_4, Wa8_6, Wa8_7, Wa8_8, Wa8_9, Wa8_10, Wa8_11, Wa8_39, Wa8_40⟩, HS⟩
      ·have b4 : (e0_0 != 4) = true := by simp only [bne, h4]; rfl
       have q1 : (decide (a8_1 < 2400)) = false := ltf hb_a8_1.1
       have q2 : (decide (16777216 < a8_1)) = false := ltf hb_a8_1.2
       rcases Bool.eq_false_or_eq_true (e0_0 == 5) with h5 | h5
       ·have b5 : (e0_0 != 5) = false := by simp only [bne, h5]; rfl
        have q3 : (decide (a8_1 < b1)) = false := ltf (hR_a8_.2 (beq_iff_eq.mp h5))
        go_wp2_with (first | (refine seg_load rfl (N := 59) rfl 36 (.tmp 10) rfl g0 0 (K1 a8_1 a8_2 a8_3 a8_4 a8_5 a8_6 a8_7 a8_8 a8_9 a8_10 a8_11 a8_39 a8_40) rfl Bg0 rfl Try.underlying36 rfl (by kernel_rfl) ?_) | ((go_at_call 15); (with_reducible refine (windowK1_0 a8_1 a8_2 a8_3 a8_4 a8_5 a8_6 a8_7 a8_8 a8_9 a8_10 a8_11 a8_39 a8_40 _).mono ?_); rintro e w9 ⟨rfl, hl⟩; replace Bg0 := Bg0.below hl; replace HS := HS.below hl; replace kE0 := cell_since kEb0 HS; clear hl; have kg0_0 := Bg0.at 0 rfl))
        have hc_ := of_decide_eq_true h1
        go_roundg (gk - 1)
        case measure => omega
        case rel => exact ⟨xi + 1, _, _, _, _, _, _, _, _, _, _, _, _, _, (by first | rfl | (simp; done) | (simp [next_ hx_xi (show xi < 1000 by omega)]; done)), (by omega), (by omega), Bg0, ⟨hb_a8_1, hp_a8_5, Wa8_1, Wa8_2, Wa8_3, Wa8_4, Wa8_6, Wa8_7, Wa8_8, Wa8_9, Wa8_10, Wa8_11, Wa8_39, Wa8_40⟩, HS⟩
       ·have b5 : (e0_0 != 5) = true := by simp only [bne, h5]; rfl
        go_wp2_with (first | (refine seg_load rfl (N := 59) rfl 36 (.tmp 10) rfl g0 0 (K1 a8_1 a8_2 a8_3 a8_4 a8_5 a8_6 a8_7 a8_8 a8_9 a8_10 a8_11 a8_39 a8_40) rfl Bg0 rfl Try.underlying36 rfl (by kernel_rfl) ?_) | ((go_at_call 15); (with_reducible refine (windowK1_0 a8_1 a8_2 a8_3 a8_4 a8_5 a8_6 a8_7 a8_8 a8_9 a8_10 a8_11 a8_39 a8_40 _).mono ?_); rintro e w9 ⟨rfl, hl⟩; replace Bg0 := Bg0.below hl; replace HS := HS.below hl; replace kE0 := cell_since kEb0 HS; clear hl; have kg0_0 := Bg0.at 0 rfl))
        have hc_ := of_decide_eq_true h1
        go_roundg (gk - 1)
        case measure => omega
        case rel => exact ⟨xi + 1, _, _, _, _, _, _, _, _, _, _, _, _, _, (by first | rfl | (simp; done) | (simp [next_ hx_xi (show xi < 1000 by omega)]; done)), (by omega), (by omega), Bg0, ⟨hb_a8_1, hp_a8_5, Wa8_1, Wa8_2, Wa8_3, Wa8_4, Wa8_6, Wa8_7, Wa8_8, Wa8_9, Wa8_10, Wa8_11, Wa8_39, Wa8_40⟩, HS⟩
   ·go_wp2
    all_goals (go_ret; exact ⟨by first | rfl | (simp; done), HS.out⟩)
  ·go_wp2
   all_goals (go_ret; exact ⟨by first | rfl | (simp; done), HS.out⟩)
theorem holds2 (now next : Int) (A1 : Option Addr) (k1 : Nat) (l1 : List S53) (Wnow : W64 now) (Wnext : W64 next) (x1 : ∀ x ∈ l1, WfS53 x) (w : World) (hC1 : Kd.C k53 w A1 l1.length l1) (hl1 : l1.length ≤ k1) :
  Calls Try.prog 6 #[.int .i64 2, .int .u64 now, .int .u64 next, .slice A1 l1.length k1] w fun e w' => e = .returned (.bool true) ∧ Below w.heap.size w w' := by
 have hu36 := Try.underlying36
 have hu53 := Try.underlying53
 have HS := Since.refl w
 go_enter Try.func6, Try.ntmps6
 go_wp2_with (first | ((go_at_call 8); (with_reducible refine (awake_0 _ (by decide +kernel) (by decide +kernel) (by decide +kernel)).mono ?_); rintro e w1 ⟨rfl, hl⟩; replace HS := HS.below hl; clear hl) | ((go_at_call 14); (with_reducible refine (newK2_0 now next _).mono ?_); rintro e w2 ⟨rfl, hl⟩; replace HS := HS.below hl; clear hl) | (refine seg_new rfl (N := 10) rfl K0 36 ?hr ?_; (case hr => rfl); intro g0 hg w3 hn hl; have GEg0 := ge_new HS hg; clear hg; replace HS := HS.below hl; have Bg0 := hn; clear hl hn) | (refine seg_store rfl rfl 36 (.tmp 10) (.tmp 23) rfl g0 0 (K2 0 next 18446744073709551615 18446744073709551615 0 18446744073709551615 0 12000 16777216 0 false 0 0 0 0 0 0) (K2 0 next 18446744073709551615 18446744073709551615 0 18446744073709551615 0 12000 16777216 0 false 0 0 0 0 0 0) (.agg (K2 0 next 18446744073709551615 18446744073709551615 0 18446744073709551615 0 12000 16777216 0 false 0 0 0 0 0 0).toArray) rfl rfl rfl Bg0 (by kernel_rfl) (nle rfl) rfl rfl ?_; intro w4 hn hw; replace HS := HS.grown hw GEg0; replace Bg0 := hn; clear hw; clear hn))
 go_loopg [12] 100 (fun kq v12 w' => ∃ (xi b5 b6 b7 b8 b9 b10 b11 b12 b13 b14 b16 b17 b18 b19 b39 b40 : Int) (b15 : Bool), v12 = .int .i64 xi ∧ 0 ≤ xi ∧ (kq : Int) + xi = 100 ∧ Blk w' g0 36 (K2 b5 b6 b7 b8 b9 b10 b11 b12 b13 b14 b15 b16 b17 b18 b19 b39 b40) ∧ G2 b5 b6 b7 b8 b9 b10 b11 b12 b13 b14 b16 b17 b18 b19 b39 b40 ∧ Since w w')
 case atStart => exact ⟨0, _, _, _, _, _, _, _, _, _, _, _, _, _, _, _, _, _, rfl, by decide, by decide, Bg0, ⟨(by decide), (by decide), Wnext, (by decide), (by decide), (by decide), (by decide), (by decide), (by decide), (by decide), (by decide), (by decide), (by decide), (by decide), (by decide), (by decide), (by decide)⟩, HS⟩
 case round =>
  clear Bg0 HS
  obtain ⟨xi, b5, b6, b7, b8, b9, b10, b11, b12, b13, b14, b16, b17, b18, b19, b39, b40, b15, rfl, hx_xi, hk_xi, Bg0, ⟨hb_b12, hp_b5, Wb6, Wb7, Wb8, Wb9, Wb10, Wb11, Wb12, Wb13, Wb14, Wb16, Wb17, Wb18, Wb19, Wb39, Wb40⟩, HS⟩ := hrel
  rcases Bool.eq_false_or_eq_true (decide (xi < (l1.length : Int))) with h0 | h0
  ·rcases Bool.eq_false_or_eq_true (decide (xi < 100)) with h1 | h1
   ·have hlt0 := of_decide_eq_true h0
    obtain ⟨ad0, e0_0, e0_1, e0_2, e0_3, e0_4, e0_5, e0_6, e0_7, e0_8, e0_9, e0_10, e0_11, hA0, We0_1, We0_2, We0_3, We0_4, We0_5, We0_6, We0_7, We0_8, We0_11, hE0, kEb0⟩ := elem53 hC1 x1 hx_xi hlt0
    subst hA0
    have kE0 := cell_since kEb0 HS
    go_wp2_with (first | (refine seg_load rfl (N := 51) rfl 36 (.tmp 10) rfl g0 0 (K2 b5 b6 b7 b8 b9 b10 b11 b12 b13 b14 b15 b16 b17 b18 b19 b39 b40) rfl Bg0 rfl Try.underlying36 rfl (by kernel_rfl) ?_) | ((go_at_call 15); (with_reducible refine (windowK2_0 b5 b6 b7 b8 b9 b10 b11 b12 b13 b14 b16 b17 b18 b19 b39 b40 b15 _).mono ?_); rintro e w5 ⟨rfl, hl⟩; replace Bg0 := Bg0.below hl; replace HS := HS.below hl; clear hl))
    refine start_ (n := 7) (S := fun w' => Blk w' g0 36 (K2 b5 b6 b7 b8 b9 b10 b11 b12 b13 b14 b15 b16 b17 b18 b19 b39 b40) ∧ RowAt w' (ad0.add (xi.toNat * 12)) [.int .i64 e0_0, .int .u64 e0_1, .int .u64 e0_2, .int .u64 e0_3, .int .u64 e0_4, .int .u64 e0_5, .int .u64 e0_6, .int .u64 e0_7, .int .u64 e0_8, .bool e0_9, .bool e0_10, .int .u64 e0_11]) (ds := [6]) (bs 7 0) (by kernel_rfl) rfl rfl ⟨Bg0.drew, (hE0.since HS.drew)⟩ (fun hHeld => ?_)
    generalize hWd : World.drew w5 = w6 at hHeld ⊢
    have hl : Below w5.heap.size w5 w6 := (by rw [← hWd]; exact below_drew1 (Below.refl _ _))
    clear hWd
    replace Bg0 := Bg0.below hl; replace HS := HS.below hl; replace kE0 := cell_since kEb0 HS; clear hl
    refine pu 1 54 (.slice (some ad0) l1.length k1) 2 rfl rfl (by kernel_rfl) (fun _ _ _ h => h) (by rfl) (fun _ => by kernel_rfl) rfl ?_
    refine pu 2 55 (.int .i64 xi) 6 rfl rfl (by kernel_rfl) (fun _ _ _ h => h) (by rfl) (fun _ => by kernel_rfl) rfl ?_
    refine norm_ (a' := ?_) ?_ ?_
    rotate_left
    ·simp only [Act.put, zA_, z0_, z1_, i64_w, i32_w]
     rfl
    refine pure_ (i := 3) (N := some 56) (v := ?_) (a' := ?_) (bs 7 14) rfl rfl (by kernel_rfl) (fun _ _ _ h => h) (Or.inl ⟨by rfl, ?_⟩) ?_ ?_
    rotate_left
    ·intro w'
     go_simp
     with_reducible rfl
    rotate_left
    ·simp only [Act.put, zA_, z0_, z1_, i64_w, i32_w]
     rfl
    refine take_ (i := 0) (N := some 53) (v := .agg #[.int .i64 2, .int .u64 0, .int .u64 0, .int .u64 0, .int .u64 0, .int .i64 b5, .int .u64 b6, .int .u64 b7, .int .u64 b8, .int .u64 b9, .int .u64 b10, .int .u64 b11, .int .u64 b12, .int .u64 b13, .int .u64 b14, .bool b15, .int .u64 b16, .int .u64 b17, .int .u64 b18, .int .u64 b19, .int .i64 0, .slice none 0 0, .int .u64 0, .int .u64 0, .int .u64 0, .int .u64 0, .int .u64 0, .int .u64 0, .int .u64 0, .int .u64 0, .int .u64 0, .int .u64 0, .int .u64 0, .int .u64 0, .int .u64 0, .int .u64 0, .int .u64 0, .int .u64 0, .bool false, .int .u64 b39, .int .u64 b40]) (a' := ?_) (bs 7 15) rfl rfl (by kernel_rfl) (fun _ _ _ h => h) (Or.inl ⟨by rfl, ?_⟩) hHeld ?_ ?_
    ·rintro w' ⟨s0, s1⟩
     exact exec_seg_load 36 (.tmp 10) (by rfl) g0 0 (K2 b5 b6 b7 b8 b9 b10 b11 b12 b13 b14 b15 b16 b17 b18 b19 b39 b40) (by rfl) s0 (by rfl) Try.underlying36 (by rfl) (by kernel_rfl)
    rotate_left
    ·simp only [Act.put, zA_, z0_, z1_, i64_w, i32_w]
     rfl
    refine take_ (i := 4) (N := some 57) (v := .agg #[.int .i64 e0_0, .int .u64 e0_1, .int .u64 e0_2, .int .u64 e0_3, .int .u64 e0_4, .int .u64 e0_5, .int .u64 e0_6, .int .u64 e0_7, .int .u64 e0_8, .bool e0_9, .bool e0_10, .int .u64 e0_11]) (a' := ?_) (bs 7 31) rfl rfl (by kernel_rfl) (fun _ _ _ h => h) (Or.inl ⟨by rfl, ?_⟩) hHeld ?_ ?_
    ·rintro w' ⟨s0, s1⟩
     exact exec_row_load 53 (.tmp 56) (by rfl) (ad0.add (xi.toNat * 12)) [.int .i64 e0_0, .int .u64 e0_1, .int .u64 e0_2, .int .u64 e0_3, .int .u64 e0_4, .int .u64 e0_5, .int .u64 e0_6, .int .u64 e0_7, .int .u64 e0_8, .bool e0_9, .bool e0_10, .int .u64 e0_11] (by rfl) s1 Try.underlying53 (by rfl) (by kernel_rfl)
    rotate_left
    ·simp only [Act.put, zA_, z0_, z1_, i64_w, i32_w]
     rfl
    refine one_ (i := 5) (N := some 58) (bs 7 63) rfl rfl (by kernel_rfl) (by decide) (fun K hK => ?_)
    refine goes_ Try.func16 (by kernel_rfl) rfl #[.agg (K2 b5 b6 b7 b8 b9 b10 b11 b12 b13 b14 b15 b16 b17 b18 b19 b39 b40).toArray, .agg #[.int .i64 e0_0, .int .u64 e0_1, .int .u64 e0_2, .int .u64 e0_3, .int .u64 e0_4, .int .u64 e0_5, .int .u64 e0_6, .int .u64 e0_7, .int .u64 e0_8, .bool e0_9, .bool e0_10, .int .u64 e0_11]] (by rfl) rfl rfl (by simp only [List.map_toArray, List.map_cons, List.map_nil]; rfl) ?_
    with_reducible refine (nextS2 b5 b6 b7 b8 b9 b10 b11 b12 b13 b14 b16 b17 b18 b19 b39 b40 e0_0 e0_1 e0_2 e0_3 e0_4 e0_5 e0_6 e0_7 e0_8 e0_11 b15 e0_9 e0_10 ⟨hb_b12, hp_b5, Wb6, Wb7, Wb8, Wb9, Wb10, Wb11, Wb12, Wb13, Wb14, Wb16, Wb17, Wb18, Wb19, Wb39, Wb40⟩ We0_1 We0_2 We0_3 We0_4 We0_5 We0_6 We0_7 We0_8 We0_11 _).mono ?_
    rintro e w7 ⟨a8_5, a8_6, a8_7, a8_8, a8_9, a8_10, a8_11, a8_12, a8_13, a8_14, a8_16, a8_17, a8_18, a8_19, a8_39, a8_40, a8_15, rfl, ⟨hb_a8_12, hp_a8_5, Wa8_6, Wa8_7, Wa8_8, Wa8_9, Wa8_10, Wa8_11, Wa8_12, Wa8_13, Wa8_14, Wa8_16, Wa8_17, Wa8_18, Wa8_19, Wa8_39, Wa8_40⟩, hR_a8_, hl⟩
    refine ⟨_, rfl, ?_⟩
    replace Bg0 := Bg0.below hl; replace HS := HS.below hl; replace kE0 := cell_since kEb0 HS; clear hl
    refine hK.out _ _ ⟨Bg0, (hE0.since HS)⟩ (fun hHeld => ?_)
    clear hK K
    refine norm_ (a' := ?_) ?_ ?_
    rotate_left
    ·show Act.put _ (some 58) _ = _
     simp only [Act.put, zA_, z0_, z1_, i64_w, i32_w]
     rfl
    refine last_ (i := 6) (N := none) (bs 7 127) rfl rfl (by kernel_rfl) (by decide) (fun K hK => ?_)
    refine skip_seg (by rfl) rfl 36 (.tmp 10) (.tmp 58) rfl g0 0 (K2 a8_5 a8_6 a8_7 a8_8 a8_9 a8_10 a8_11 a8_12 a8_13 a8_14 a8_15 a8_16 a8_17 a8_18 a8_19 a8_39 a8_40) (K2 a8_5 a8_6 a8_7 a8_8 a8_9 a8_10 a8_11 a8_12 a8_13 a8_14 a8_15 a8_16 a8_17 a8_18 a8_19 a8_39 a8_40) (.agg (K2 a8_5 a8_6 a8_7 a8_8 a8_9 a8_10 a8_11 a8_12 a8_13 a8_14 a8_15 a8_16 a8_17 a8_18 a8_19 a8_39 a8_40).toArray) (by rfl) (by rfl) rfl Bg0 (by kernel_rfl) (nle rfl) rfl rfl ?_
    intro w8 hn hw
    replace HS := HS.grown hw GEg0; replace kE0 := cell_since kEb0 HS; replace Bg0 := hn; clear hw; clear hn
    refine hK.out _ _ ?_
    clear hK K
    refine done_ (by kernel_rfl) ?_
    rcases Bool.eq_false_or_eq_true (e0_0 == 2) with h2 | h2
    ·have b2 : (e0_0 != 2) = false := by simp only [bne, h2]; rfl
     have q1 : (decide (a8_12 < 2400)) = false := ltf hb_a8_12.1
     have q2 : (decide (16777216 < a8_12)) = false := ltf hb_a8_12.2
     have q3 : (decide (b12 < a8_12)) = false := ltf (hR_a8_.1 (.inl (beq_iff_eq.mp h2)))
     have q4 : (e0_0 == 5) = false := by rw [beq_iff_eq.mp h2]; rfl
     go_wp2_with (first | (refine seg_load rfl (N := 59) rfl 36 (.tmp 10) rfl g0 0 (K2 a8_5 a8_6 a8_7 a8_8 a8_9 a8_10 a8_11 a8_12 a8_13 a8_14 a8_15 a8_16 a8_17 a8_18 a8_19 a8_39 a8_40) rfl Bg0 rfl Try.underlying36 rfl (by kernel_rfl) ?_) | ((go_at_call 15); (with_reducible refine (windowK2_0 a8_5 a8_6 a8_7 a8_8 a8_9 a8_10 a8_11 a8_12 a8_13 a8_14 a8_16 a8_17 a8_18 a8_19 a8_39 a8_40 a8_15 _).mono ?_); rintro e w9 ⟨rfl, hl⟩; replace Bg0 := Bg0.below hl; replace HS := HS.below hl; replace kE0 := cell_since kEb0 HS; clear hl; have kg0_0 := Bg0.at 0 rfl))
     have hc_ := of_decide_eq_true h1
     go_roundg (gk - 1)
     case measure => omega
     case rel => exact ⟨xi + 1, _, _, _, _, _, _, _, _, _, _, _, _, _, _, _, _, _, (by first | rfl | (simp; done) | (simp [next_ hx_xi (show xi < 1000 by omega)]; done)), (by omega), (by omega), Bg0, ⟨hb_a8_12, hp_a8_5, Wa8_6, Wa8_7, Wa8_8, Wa8_9, Wa8_10, Wa8_11, Wa8_12, Wa8_13, Wa8_14, Wa8_16, Wa8_17, Wa8_18, Wa8_19, Wa8_39, Wa8_40⟩, HS⟩
    ·have b2 : (e0_0 != 2) = true := by simp only [bne, h2]; rfl
     rcases Bool.eq_false_or_eq_true (e0_0 == 3) with h3 | h3
     ·have b3 : (e0_0 != 3) = false := by simp only [bne, h3]; rfl
      have q1 : (decide (a8_12 < 2400)) = false := ltf hb_a8_12.1
      have q2 : (decide (16777216 < a8_12)) = false := ltf hb_a8_12.2
      have q3 : (decide (b12 < a8_12)) = false := ltf (hR_a8_.1 (.inr (.inl (beq_iff_eq.mp h3))))
      have q4 : (e0_0 == 5) = false := by rw [beq_iff_eq.mp h3]; rfl
      go_wp2_with (first | (refine seg_load rfl (N := 59) rfl 36 (.tmp 10) rfl g0 0 (K2 a8_5 a8_6 a8_7 a8_8 a8_9 a8_10 a8_11 a8_12 a8_13 a8_14 a8_15 a8_16 a8_17 a8_18 a8_19 a8_39 a8_40) rfl Bg0 rfl Try.underlying36 rfl (by kernel_rfl) ?_) | ((go_at_call 15); (with_reducible refine (windowK2_0 a8_5 a8_6 a8_7 a8_8 a8_9 a8_10 a8_11 a8_12 a8_13 a8_14 a8_16 a8_17 a8_18 a8_19 a8_39 a8_40 a8_15 _).mono ?_); rintro e w9 ⟨rfl, hl⟩; replace Bg0 := Bg0.below hl; replace HS := HS.below hl; replace kE0 := cell_since kEb0 HS; clear hl; have kg0_0 := Bg0.at 0 rfl))
      have hc_ := of_decide_eq_true h1
      go_roundg (gk - 1)
      case measure => omega
      case rel => exact ⟨xi + 1, _, _, _, _, _, _, _, _, _, _, _, _, _, _, _, _, _, (by first | rfl | (simp; done) | (simp [next_ hx_xi (show xi < 1000 by omega)]; done)), (by omega), (by omega), Bg0, ⟨hb_a8_12, hp_a8_5, Wa8_6, Wa8_7, Wa8_8, Wa8_9, Wa8_10, Wa8_11, Wa8_12, Wa8_13, Wa8_14, Wa8_16, Wa8_17, Wa8_18, Wa8_19, Wa8_39, Wa8_40⟩, HS⟩
     ·have b3 : (e0_0 != 3) = true := by simp only [bne, h3]; rfl
      rcases Bool.eq_false_or_eq_true (e0_0 == 4) with h4 | h4
      ·have b4 : (e0_0 != 4) = false := by simp only [bne, h4]; rfl
       have q1 : (decide (a8_12 < 2400)) = false := ltf hb_a8_12.1
       have q2 : (decide (16777216 < a8_12)) = false := ltf hb_a8_12.2
       have q3 : (decide (b12 < a8_12)) = false := ltf (hR_a8_.1 (.inr (.inr (beq_iff_eq.mp h4))))
       have q4 : (e0_0 == 5) = false := by rw [beq_iff_eq.mp h4]; rfl
       go_wp2_with (first | (refine seg_load rfl (N := 59) rfl 36 (.tmp 10) rfl g0 0 (K2 a8_5 a8_6 a8_7 a8_8 a8_9 a8_10 a8_11 a8_12 a8_13 a8_14 a8_15 a8_16 a8_17 a8_18 a8_19 a8_39 a8_40) rfl Bg0 rfl Try.underlying36 rfl (by kernel_rfl) ?_) | ((go_at_call 15); (with_reducible refine (windowK2_0 a8_5 a8_6 a8_7 a8_8 a8_9 a8_10 a8_11 a8_12 a8_13 a8_14 a8_16 a8_17 a8_18 a8_19 a8_39 a8_40 a8_15 _).mono ?_); rintro e w9 ⟨rfl, hl⟩; replace Bg0 := Bg0.below hl; replace HS := HS.below hl; replace kE0 := cell_since kEb0 HS; clear hl; have kg0_0 := Bg0.at 0 rfl))
       have hc_ := of_decide_eq_true h1
       go_roundg (gk - 1)
       case measure => omega
       case rel => exact ⟨xi + 1, _, _, _, _, _, _, _, _, _, _, _, _, _, _, _, _, _, (by first | rfl | (simp; done) | (simp [next_ hx_xi (show xi < 1000 by omega)]; done)), (by omega), (by omega), Bg0, ⟨hb_a8_12, hp_a8_5, Wa8_6, Wa8_7, Wa8_8, Wa8_9, Wa8_10, Wa8_11, Wa8_12, Wa8_13, Wa8_14, Wa8_16, Wa8_17, Wa8_18, Wa8_19, Wa8_39, Wa8_40⟩, HS⟩
      ·have b4 : (e0_0 != 4) = true := by simp only [bne, h4]; rfl
       have q1 : (decide (a8_12 < 2400)) = false := ltf hb_a8_12.1
       have q2 : (decide (16777216 < a8_12)) = false := ltf hb_a8_12.2
       rcases Bool.eq_false_or_eq_true (e0_0 == 5) with h5 | h5
       ·have b5 : (e0_0 != 5) = false := by simp only [bne, h5]; rfl
        have q3 : (decide (a8_12 < b12)) = false := ltf (hR_a8_.2 (beq_iff_eq.mp h5))
        go_wp2_with (first | (refine seg_load rfl (N := 59) rfl 36 (.tmp 10) rfl g0 0 (K2 a8_5 a8_6 a8_7 a8_8 a8_9 a8_10 a8_11 a8_12 a8_13 a8_14 a8_15 a8_16 a8_17 a8_18 a8_19 a8_39 a8_40) rfl Bg0 rfl Try.underlying36 rfl (by kernel_rfl) ?_) | ((go_at_call 15); (with_reducible refine (windowK2_0 a8_5 a8_6 a8_7 a8_8 a8_9 a8_10 a8_11 a8_12 a8_13 a8_14 a8_16 a8_17 a8_18 a8_19 a8_39 a8_40 a8_15 _).mono ?_); rintro e w9 ⟨rfl, hl⟩; replace Bg0 := Bg0.below hl; replace HS := HS.below hl; replace kE0 := cell_since kEb0 HS; clear hl; have kg0_0 := Bg0.at 0 rfl))
        have hc_ := of_decide_eq_true h1
        go_roundg (gk - 1)
        case measure => omega
        case rel => exact ⟨xi + 1, _, _, _, _, _, _, _, _, _, _, _, _, _, _, _, _, _, (by first | rfl | (simp; done) | (simp [next_ hx_xi (show xi < 1000 by omega)]; done)), (by omega), (by omega), Bg0, ⟨hb_a8_12, hp_a8_5, Wa8_6, Wa8_7, Wa8_8, Wa8_9, Wa8_10, Wa8_11, Wa8_12, Wa8_13, Wa8_14, Wa8_16, Wa8_17, Wa8_18, Wa8_19, Wa8_39, Wa8_40⟩, HS⟩
       ·have b5 : (e0_0 != 5) = true := by simp only [bne, h5]; rfl
        go_wp2_with (first | (refine seg_load rfl (N := 59) rfl 36 (.tmp 10) rfl g0 0 (K2 a8_5 a8_6 a8_7 a8_8 a8_9 a8_10 a8_11 a8_12 a8_13 a8_14 a8_15 a8_16 a8_17 a8_18 a8_19 a8_39 a8_40) rfl Bg0 rfl Try.underlying36 rfl (by kernel_rfl) ?_) | ((go_at_call 15); (with_reducible refine (windowK2_0 a8_5 a8_6 a8_7 a8_8 a8_9 a8_10 a8_11 a8_12 a8_13 a8_14 a8_16 a8_17 a8_18 a8_19 a8_39 a8_40 a8_15 _).mono ?_); rintro e w9 ⟨rfl, hl⟩; replace Bg0 := Bg0.below hl; replace HS := HS.below hl; replace kE0 := cell_since kEb0 HS; clear hl; have kg0_0 := Bg0.at 0 rfl))
        have hc_ := of_decide_eq_true h1
        go_roundg (gk - 1)
        case measure => omega
        case rel => exact ⟨xi + 1, _, _, _, _, _, _, _, _, _, _, _, _, _, _, _, _, _, (by first | rfl | (simp; done) | (simp [next_ hx_xi (show xi < 1000 by omega)]; done)), (by omega), (by omega), Bg0, ⟨hb_a8_12, hp_a8_5, Wa8_6, Wa8_7, Wa8_8, Wa8_9, Wa8_10, Wa8_11, Wa8_12, Wa8_13, Wa8_14, Wa8_16, Wa8_17, Wa8_18, Wa8_19, Wa8_39, Wa8_40⟩, HS⟩
   ·go_wp2
    all_goals (go_ret; exact ⟨by first | rfl | (simp; done), HS.out⟩)
  ·go_wp2
   all_goals (go_ret; exact ⟨by first | rfl | (simp; done), HS.out⟩)
theorem holds3 (now next : Int) (A1 : Option Addr) (k1 : Nat) (l1 : List S53) (Wnow : W64 now) (Wnext : W64 next) (x1 : ∀ x ∈ l1, WfS53 x) (w : World) (hC1 : Kd.C k53 w A1 l1.length l1) (hl1 : l1.length ≤ k1) :
  Calls Try.prog 6 #[.int .i64 3, .int .u64 now, .int .u64 next, .slice A1 l1.length k1] w fun e w' => e = .returned (.bool true) ∧ Below w.heap.size w w' := by
 have hu32 := Try.underlying32
 have hu36 := Try.underlying36
 have hu53 := Try.underlying53
 have HS := Since.refl w
 go_enter Try.func6, Try.ntmps6
 go_wp2_with (first | ((go_at_call 8); (with_reducible refine (awake_0 _ (by decide +kernel) (by decide +kernel) (by decide +kernel)).mono ?_); rintro e w1 ⟨rfl, hl⟩; replace HS := HS.below hl; clear hl) | ((go_at_call 14); (with_reducible refine (newK3_0 now next _).mono ?_); rintro e w2 ⟨rfl, hl⟩; replace HS := HS.below hl; clear hl) | (refine seg_new rfl (N := 10) rfl K0 36 ?hr ?_; (case hr => rfl); intro g0 hg w3 hn hl; have GEg0 := ge_new HS hg; clear hg; replace HS := HS.below hl; have Bg0 := hn; clear hl hn) | (refine seg_store rfl rfl 36 (.tmp 10) (.tmp 23) rfl g0 0 (K3 0 next 18446744073709551615 18446744073709551615 0 18446744073709551615 0 0 (.slice none 0 0) 18446744073709551615 now 0 0 0 0 now 16777216 0 0) (K3 0 next 18446744073709551615 18446744073709551615 0 18446744073709551615 0 0 (.slice none 0 0) 18446744073709551615 now 0 0 0 0 now 16777216 0 0) (.agg (K3 0 next 18446744073709551615 18446744073709551615 0 18446744073709551615 0 0 (.slice none 0 0) 18446744073709551615 now 0 0 0 0 now 16777216 0 0).toArray) rfl rfl rfl Bg0 (by kernel_rfl) (nle rfl) rfl rfl ?_; intro w4 hn hw; replace HS := HS.grown hw GEg0; replace Bg0 := hn; clear hw; clear hn))
 go_loopg [12] 100 (fun kq v12 w' => ∃ (xi b5 b6 b7 b8 b9 b10 b11 b20 b22 b23 b24 b25 b26 b27 b28 b29 b39 b40 : Int) (bA : Option Addr) (bk : Nat) (bl : List S90), v12 = .int .i64 xi ∧ 0 ≤ xi ∧ (kq : Int) + xi = 100 ∧ Blk w' g0 36 (K3 b5 b6 b7 b8 b9 b10 b11 b20 (.slice bA bl.length bk) b22 b23 b24 b25 b26 b27 b28 b29 b39 b40) ∧ G3 b5 b6 b7 b8 b9 b10 b11 b20 b22 b23 b24 b25 b26 b27 b28 b29 b39 b40 bl ∧ bl.length ≤ bk ∧ (bl.length : Int) ≤ xi ∧ RB w' bA bl ∧ NE bA bl g0 ∧ Since w w')
 case atStart => exact ⟨0, _, _, _, _, _, _, _, _, _, _, _, _, _, _, _, _, _, _, none, 0, [], rfl, by decide, by decide, Bg0, ⟨⟨by decide, by decide, SWf_nil, (by decide), Wnow, (by decide), (by decide), (by decide), (by decide), Wnow, by decide, by decide⟩, (by decide), Wnext, (by decide), (by decide), (by decide), (by decide), (by decide), (by decide), (by decide)⟩, Nat.le_refl 0, by decide, ⟨Kd.C_nil k90 _⟩, (fun _ h_ => by cases h_), HS⟩
 case round =>
  clear Bg0 HS
  obtain ⟨xi, b5, b6, b7, b8, b9, b10, b11, b20, b22, b23, b24, b25, b26, b27, b28, b29, b39, b40, bA, bk, bl, rfl, hx_xi, hk_xi, Bg0, ⟨hM_b20, hp_b5, Wb6, Wb7, Wb8, Wb9, Wb10, Wb11, Wb39, Wb40⟩, hk_bA, hq_bA, RB_bA, NRB_bA_g0, HS⟩ := hrel
  have Wb22 := hM_b20.hm; have Wb23 := hM_b20.hmat; have Wb24 := hM_b20.hf; have Wb25 := hM_b20.ht; have Wb26 := hM_b20.hr; have Wb27 := hM_b20.hp; have Wb28 := hM_b20.hs; have Wb29 := hM_b20.h9; have hL_bA : bl.length < 1000000 := by omega
  rcases Bool.eq_false_or_eq_true (decide (xi < (l1.length : Int))) with h0 | h0
  ·rcases Bool.eq_false_or_eq_true (decide (xi < 100)) with h1 | h1
   ·have hlt0 := of_decide_eq_true h0
    obtain ⟨ad0, e0_0, e0_1, e0_2, e0_3, e0_4, e0_5, e0_6, e0_7, e0_8, e0_9, e0_10, e0_11, hA0, We0_1, We0_2, We0_3, We0_4, We0_5, We0_6, We0_7, We0_8, We0_11, hE0, kEb0⟩ := elem53 hC1 x1 hx_xi hlt0
    subst hA0
    have kE0 := cell_since kEb0 HS
    go_wp2_with (first | (refine seg_load rfl (N := 51) rfl 36 (.tmp 10) rfl g0 0 (K3 b5 b6 b7 b8 b9 b10 b11 b20 (.slice bA bl.length bk) b22 b23 b24 b25 b26 b27 b28 b29 b39 b40) rfl Bg0 rfl Try.underlying36 rfl (by kernel_rfl) ?_) | ((go_at_call 15); (with_reducible refine (windowK3_0 b5 b6 b7 b8 b9 b10 b11 b20 b22 b23 b24 b25 b26 b27 b28 b29 b39 b40 bA bk bl ⟨hM_b20, hp_b5, Wb6, Wb7, Wb8, Wb9, Wb10, Wb11, Wb39, Wb40⟩ _ RB_bA hk_bA hL_bA).mono ?_); rintro e w5 ⟨rfl, hl⟩; replace Bg0 := Bg0.below hl; replace RB_bA := RB_bA.below hl; replace HS := HS.below hl; clear hl))
    refine start_ (n := 7) (S := fun w' => Blk w' g0 36 (K3 b5 b6 b7 b8 b9 b10 b11 b20 (.slice bA bl.length bk) b22 b23 b24 b25 b26 b27 b28 b29 b39 b40) ∧ RowAt w' (ad0.add (xi.toNat * 12)) [.int .i64 e0_0, .int .u64 e0_1, .int .u64 e0_2, .int .u64 e0_3, .int .u64 e0_4, .int .u64 e0_5, .int .u64 e0_6, .int .u64 e0_7, .int .u64 e0_8, .bool e0_9, .bool e0_10, .int .u64 e0_11]) (ds := [6]) (bs 7 0) (by kernel_rfl) rfl rfl ⟨Bg0.drew, (hE0.since HS.drew)⟩ (fun hHeld => ?_)
    generalize hWd : World.drew w5 = w6 at hHeld ⊢
    have hl : Below w5.heap.size w5 w6 := (by rw [← hWd]; exact below_drew1 (Below.refl _ _))
    clear hWd
    replace Bg0 := Bg0.below hl; replace RB_bA := RB_bA.below hl; replace HS := HS.below hl; replace kE0 := cell_since kEb0 HS; clear hl
    refine pu 1 54 (.slice (some ad0) l1.length k1) 2 rfl rfl (by kernel_rfl) (fun _ _ _ h => h) (by rfl) (fun _ => by kernel_rfl) rfl ?_
    refine pu 2 55 (.int .i64 xi) 6 rfl rfl (by kernel_rfl) (fun _ _ _ h => h) (by rfl) (fun _ => by kernel_rfl) rfl ?_
    refine norm_ (a' := ?_) ?_ ?_
    rotate_left
    ·simp only [Act.put, zA_, z0_, z1_, i64_w, i32_w]
     rfl
    refine pure_ (i := 3) (N := some 56) (v := ?_) (a' := ?_) (bs 7 14) rfl rfl (by kernel_rfl) (fun _ _ _ h => h) (Or.inl ⟨by rfl, ?_⟩) ?_ ?_
    rotate_left
    ·intro w'
     go_simp
     with_reducible rfl
    rotate_left
    ·simp only [Act.put, zA_, z0_, z1_, i64_w, i32_w]
     rfl
    refine take_ (i := 0) (N := some 53) (v := .agg #[.int .i64 3, .int .u64 0, .int .u64 0, .int .u64 0, .int .u64 0, .int .i64 b5, .int .u64 b6, .int .u64 b7, .int .u64 b8, .int .u64 b9, .int .u64 b10, .int .u64 b11, .int .u64 0, .int .u64 0, .int .u64 0, .bool false, .int .u64 0, .int .u64 0, .int .u64 0, .int .u64 0, .int .i64 b20, .slice bA bl.length bk, .int .u64 b22, .int .u64 b23, .int .u64 b24, .int .u64 b25, .int .u64 b26, .int .u64 b27, .int .u64 b28, .int .u64 b29, .int .u64 0, .int .u64 0, .int .u64 0, .int .u64 0, .int .u64 0, .int .u64 0, .int .u64 0, .int .u64 0, .bool false, .int .u64 b39, .int .u64 b40]) (a' := ?_) (bs 7 15) rfl rfl (by kernel_rfl) (fun _ _ _ h => h) (Or.inl ⟨by rfl, ?_⟩) hHeld ?_ ?_
    ·rintro w' ⟨s0, s1⟩
     exact exec_seg_load 36 (.tmp 10) (by rfl) g0 0 (K3 b5 b6 b7 b8 b9 b10 b11 b20 (.slice bA bl.length bk) b22 b23 b24 b25 b26 b27 b28 b29 b39 b40) (by rfl) s0 (by rfl) Try.underlying36 (by rfl) (by kernel_rfl)
    rotate_left
    ·simp only [Act.put, zA_, z0_, z1_, i64_w, i32_w]
     rfl
    refine take_ (i := 4) (N := some 57) (v := .agg #[.int .i64 e0_0, .int .u64 e0_1, .int .u64 e0_2, .int .u64 e0_3, .int .u64 e0_4, .int .u64 e0_5, .int .u64 e0_6, .int .u64 e0_7, .int .u64 e0_8, .bool e0_9, .bool e0_10, .int .u64 e0_11]) (a' := ?_) (bs 7 31) rfl rfl (by kernel_rfl) (fun _ _ _ h => h) (Or.inl ⟨by rfl, ?_⟩) hHeld ?_ ?_
    ·rintro w' ⟨s0, s1⟩
     exact exec_row_load 53 (.tmp 56) (by rfl) (ad0.add (xi.toNat * 12)) [.int .i64 e0_0, .int .u64 e0_1, .int .u64 e0_2, .int .u64 e0_3, .int .u64 e0_4, .int .u64 e0_5, .int .u64 e0_6, .int .u64 e0_7, .int .u64 e0_8, .bool e0_9, .bool e0_10, .int .u64 e0_11] (by rfl) s1 Try.underlying53 (by rfl) (by kernel_rfl)
    rotate_left
    ·simp only [Act.put, zA_, z0_, z1_, i64_w, i32_w]
     rfl
    refine one_ (i := 5) (N := some 58) (bs 7 63) rfl rfl (by kernel_rfl) (by decide) (fun K hK => ?_)
    refine goes_ Try.func16 (by kernel_rfl) rfl #[.agg (K3 b5 b6 b7 b8 b9 b10 b11 b20 (.slice bA bl.length bk) b22 b23 b24 b25 b26 b27 b28 b29 b39 b40).toArray, .agg #[.int .i64 e0_0, .int .u64 e0_1, .int .u64 e0_2, .int .u64 e0_3, .int .u64 e0_4, .int .u64 e0_5, .int .u64 e0_6, .int .u64 e0_7, .int .u64 e0_8, .bool e0_9, .bool e0_10, .int .u64 e0_11]] (by rfl) rfl rfl (by simp only [List.map_toArray, List.map_cons, List.map_nil]; rfl) ?_
    with_reducible refine (nextS3 b5 b6 b7 b8 b9 b10 b11 b20 b22 b23 b24 b25 b26 b27 b28 b29 b39 b40 bA bk bl e0_0 e0_1 e0_2 e0_3 e0_4 e0_5 e0_6 e0_7 e0_8 e0_11 e0_9 e0_10 ⟨hM_b20, hp_b5, Wb6, Wb7, Wb8, Wb9, Wb10, Wb11, Wb39, Wb40⟩ We0_1 We0_2 We0_3 We0_4 We0_5 We0_6 We0_7 We0_8 We0_11 _ RB_bA hk_bA hL_bA).mono ?_
    rintro e w7 ⟨a8_5, a8_6, a8_7, a8_8, a8_9, a8_10, a8_11, a8_20, a8_22, a8_23, a8_24, a8_25, a8_26, a8_27, a8_28, a8_29, a8_39, a8_40, a8_A, a8_k, a8_l, rfl, ⟨hM_a8_20, hp_a8_5, Wa8_6, Wa8_7, Wa8_8, Wa8_9, Wa8_10, Wa8_11, Wa8_39, Wa8_40⟩, hl_a8_A, hk_a8_A, RB_a8_A, hF_a8_A, hR_a8_, hl⟩
    have NRB_a8_A_g0 := hF_a8_A.ne NRB_bA_g0 Bg0; have hL_a8_A : a8_l.length < 1000000 := (by omega); have Wa8_22 := hM_a8_20.hm; have Wa8_23 := hM_a8_20.hmat; have Wa8_24 := hM_a8_20.hf; have Wa8_25 := hM_a8_20.ht; have Wa8_26 := hM_a8_20.hr; have Wa8_27 := hM_a8_20.hp; have Wa8_28 := hM_a8_20.hs; have Wa8_29 := hM_a8_20.h9
    refine ⟨_, rfl, ?_⟩
    replace Bg0 := Bg0.below hl; replace RB_bA := RB_bA.below hl; replace HS := HS.below hl; replace kE0 := cell_since kEb0 HS; clear hl
    refine hK.out _ _ ⟨Bg0, (hE0.since HS)⟩ (fun hHeld => ?_)
    clear hK K
    refine norm_ (a' := ?_) ?_ ?_
    rotate_left
    ·show Act.put _ (some 58) _ = _
     simp only [Act.put, zA_, z0_, z1_, i64_w, i32_w]
     rfl
    refine last_ (i := 6) (N := none) (bs 7 127) rfl rfl (by kernel_rfl) (by decide) (fun K hK => ?_)
    refine skip_seg (by rfl) rfl 36 (.tmp 10) (.tmp 58) rfl g0 0 (K3 a8_5 a8_6 a8_7 a8_8 a8_9 a8_10 a8_11 a8_20 (.slice a8_A a8_l.length a8_k) a8_22 a8_23 a8_24 a8_25 a8_26 a8_27 a8_28 a8_29 a8_39 a8_40) (K3 a8_5 a8_6 a8_7 a8_8 a8_9 a8_10 a8_11 a8_20 (.slice a8_A a8_l.length a8_k) a8_22 a8_23 a8_24 a8_25 a8_26 a8_27 a8_28 a8_29 a8_39 a8_40) (.agg (K3 a8_5 a8_6 a8_7 a8_8 a8_9 a8_10 a8_11 a8_20 (.slice a8_A a8_l.length a8_k) a8_22 a8_23 a8_24 a8_25 a8_26 a8_27 a8_28 a8_29 a8_39 a8_40).toArray) (by rfl) (by rfl) rfl Bg0 (by kernel_rfl) (nle rfl) rfl rfl ?_
    intro w8 hn hw
    replace RB_a8_A := RB_a8_A.grown hw NRB_a8_A_g0; replace HS := HS.grown hw GEg0; replace kE0 := cell_since kEb0 HS; replace Bg0 := hn; clear hw; clear hn
    refine hK.out _ _ ?_
    clear hK K
    refine done_ (by kernel_rfl) ?_
    rcases Bool.eq_false_or_eq_true (e0_0 == 2) with h2 | h2
    ·have b2 : (e0_0 != 2) = false := by simp only [bne, h2]; rfl
     have q1 : (decide (uWin a8_20 a8_l a8_22 a8_29 < 2400)) = false := ltf (win_in hM_a8_20.g0 hM_a8_20.g1).1
     have q2 : (decide (16777216 < uWin a8_20 a8_l a8_22 a8_29)) = false := ltf (win_in hM_a8_20.g0 hM_a8_20.g1).2
     have q3 : (decide (uWin b20 bl b22 b29 < uWin a8_20 a8_l a8_22 a8_29)) = false := ltf (hR_a8_.1 (.inl (beq_iff_eq.mp h2)))
     have q4 : (e0_0 == 5) = false := by rw [beq_iff_eq.mp h2]; rfl
     go_wp2_with (first | (refine seg_load rfl (N := 59) rfl 36 (.tmp 10) rfl g0 0 (K3 a8_5 a8_6 a8_7 a8_8 a8_9 a8_10 a8_11 a8_20 (.slice a8_A a8_l.length a8_k) a8_22 a8_23 a8_24 a8_25 a8_26 a8_27 a8_28 a8_29 a8_39 a8_40) rfl Bg0 rfl Try.underlying36 rfl (by kernel_rfl) ?_) | ((go_at_call 15); (with_reducible refine (windowK3_0 a8_5 a8_6 a8_7 a8_8 a8_9 a8_10 a8_11 a8_20 a8_22 a8_23 a8_24 a8_25 a8_26 a8_27 a8_28 a8_29 a8_39 a8_40 a8_A a8_k a8_l ⟨hM_a8_20, hp_a8_5, Wa8_6, Wa8_7, Wa8_8, Wa8_9, Wa8_10, Wa8_11, Wa8_39, Wa8_40⟩ _ RB_a8_A hk_a8_A hL_a8_A).mono ?_); rintro e w9 ⟨rfl, hl⟩; replace Bg0 := Bg0.below hl; replace RB_a8_A := RB_a8_A.below hl; replace HS := HS.below hl; replace kE0 := cell_since kEb0 HS; clear hl; have kg0_0 := Bg0.at 0 rfl))
     have hc_ := of_decide_eq_true h1
     go_roundg (gk - 1)
     case measure => omega
     case rel => exact ⟨xi + 1, _, _, _, _, _, _, _, _, _, _, _, _, _, _, _, _, _, _, _, _, _, (by first | rfl | (simp; done) | (simp [next_ hx_xi (show xi < 1000 by omega)]; done)), (by omega), (by omega), Bg0, ⟨hM_a8_20, hp_a8_5, Wa8_6, Wa8_7, Wa8_8, Wa8_9, Wa8_10, Wa8_11, Wa8_39, Wa8_40⟩, hk_a8_A, by omega, RB_a8_A, NRB_a8_A_g0, HS⟩
    ·have b2 : (e0_0 != 2) = true := by simp only [bne, h2]; rfl
     rcases Bool.eq_false_or_eq_true (e0_0 == 3) with h3 | h3
     ·have b3 : (e0_0 != 3) = false := by simp only [bne, h3]; rfl
      have q1 : (decide (uWin a8_20 a8_l a8_22 a8_29 < 2400)) = false := ltf (win_in hM_a8_20.g0 hM_a8_20.g1).1
      have q2 : (decide (16777216 < uWin a8_20 a8_l a8_22 a8_29)) = false := ltf (win_in hM_a8_20.g0 hM_a8_20.g1).2
      have q3 : (decide (uWin b20 bl b22 b29 < uWin a8_20 a8_l a8_22 a8_29)) = false := ltf (hR_a8_.1 (.inr (.inl (beq_iff_eq.mp h3))))
      have q4 : (e0_0 == 5) = false := by rw [beq_iff_eq.mp h3]; rfl
      go_wp2_with (first | (refine seg_load rfl (N := 59) rfl 36 (.tmp 10) rfl g0 0 (K3 a8_5 a8_6 a8_7 a8_8 a8_9 a8_10 a8_11 a8_20 (.slice a8_A a8_l.length a8_k) a8_22 a8_23 a8_24 a8_25 a8_26 a8_27 a8_28 a8_29 a8_39 a8_40) rfl Bg0 rfl Try.underlying36 rfl (by kernel_rfl) ?_) | ((go_at_call 15); (with_reducible refine (windowK3_0 a8_5 a8_6 a8_7 a8_8 a8_9 a8_10 a8_11 a8_20 a8_22 a8_23 a8_24 a8_25 a8_26 a8_27 a8_28 a8_29 a8_39 a8_40 a8_A a8_k a8_l ⟨hM_a8_20, hp_a8_5, Wa8_6, Wa8_7, Wa8_8, Wa8_9, Wa8_10, Wa8_11, Wa8_39, Wa8_40⟩ _ RB_a8_A hk_a8_A hL_a8_A).mono ?_); rintro e w9 ⟨rfl, hl⟩; replace Bg0 := Bg0.below hl; replace RB_a8_A := RB_a8_A.below hl; replace HS := HS.below hl; replace kE0 := cell_since kEb0 HS; clear hl; have kg0_0 := Bg0.at 0 rfl))
      have hc_ := of_decide_eq_true h1
      go_roundg (gk - 1)
      case measure => omega
      case rel => exact ⟨xi + 1, _, _, _, _, _, _, _, _, _, _, _, _, _, _, _, _, _, _, _, _, _, (by first | rfl | (simp; done) | (simp [next_ hx_xi (show xi < 1000 by omega)]; done)), (by omega), (by omega), Bg0, ⟨hM_a8_20, hp_a8_5, Wa8_6, Wa8_7, Wa8_8, Wa8_9, Wa8_10, Wa8_11, Wa8_39, Wa8_40⟩, hk_a8_A, by omega, RB_a8_A, NRB_a8_A_g0, HS⟩
     ·have b3 : (e0_0 != 3) = true := by simp only [bne, h3]; rfl
      rcases Bool.eq_false_or_eq_true (e0_0 == 4) with h4 | h4
      ·have b4 : (e0_0 != 4) = false := by simp only [bne, h4]; rfl
       have q1 : (decide (uWin a8_20 a8_l a8_22 a8_29 < 2400)) = false := ltf (win_in hM_a8_20.g0 hM_a8_20.g1).1
       have q2 : (decide (16777216 < uWin a8_20 a8_l a8_22 a8_29)) = false := ltf (win_in hM_a8_20.g0 hM_a8_20.g1).2
       rcases Bool.eq_false_or_eq_true (a8_20 == 3) with h5 | h5
       ·have b5 : (a8_20 != 3) = false := by simp only [bne, h5]; rfl
        have q3 : (e0_0 == 5) = false := by rw [beq_iff_eq.mp h4]; rfl
        go_wp2_with (first | (refine seg_load rfl (N := 59) rfl 36 (.tmp 10) rfl g0 0 (K3 a8_5 a8_6 a8_7 a8_8 a8_9 a8_10 a8_11 a8_20 (.slice a8_A a8_l.length a8_k) a8_22 a8_23 a8_24 a8_25 a8_26 a8_27 a8_28 a8_29 a8_39 a8_40) rfl Bg0 rfl Try.underlying36 rfl (by kernel_rfl) ?_) | ((go_at_call 15); (with_reducible refine (windowK3_0 a8_5 a8_6 a8_7 a8_8 a8_9 a8_10 a8_11 a8_20 a8_22 a8_23 a8_24 a8_25 a8_26 a8_27 a8_28 a8_29 a8_39 a8_40 a8_A a8_k a8_l ⟨hM_a8_20, hp_a8_5, Wa8_6, Wa8_7, Wa8_8, Wa8_9, Wa8_10, Wa8_11, Wa8_39, Wa8_40⟩ _ RB_a8_A hk_a8_A hL_a8_A).mono ?_); rintro e w9 ⟨rfl, hl⟩; replace Bg0 := Bg0.below hl; replace RB_a8_A := RB_a8_A.below hl; replace HS := HS.below hl; replace kE0 := cell_since kEb0 HS; clear hl; have kg0_0 := Bg0.at 0 rfl; have kg0_20 := Bg0.at 20 rfl))
        have hc_ := of_decide_eq_true h1
        go_roundg (gk - 1)
        case measure => omega
        case rel => exact ⟨xi + 1, _, _, _, _, _, _, _, _, _, _, _, _, _, _, _, _, _, _, _, _, _, (by first | rfl | (simp; done) | (simp [next_ hx_xi (show xi < 1000 by omega)]; done)), (by omega), (by omega), Bg0, ⟨hM_a8_20, hp_a8_5, Wa8_6, Wa8_7, Wa8_8, Wa8_9, Wa8_10, Wa8_11, Wa8_39, Wa8_40⟩, hk_a8_A, by omega, RB_a8_A, NRB_a8_A_g0, HS⟩
       ·have b5 : (a8_20 != 3) = true := by simp only [bne, h5]; rfl
        have q3 : (decide (uWin b20 bl b22 b29 < uWin a8_20 a8_l a8_22 a8_29)) = false := ltf (hR_a8_.1 (.inr (.inr (beq_iff_eq.mp h4))))
        have q4 : (e0_0 == 5) = false := by rw [beq_iff_eq.mp h4]; rfl
        go_wp2_with (first | (refine seg_load rfl (N := 59) rfl 36 (.tmp 10) rfl g0 0 (K3 a8_5 a8_6 a8_7 a8_8 a8_9 a8_10 a8_11 a8_20 (.slice a8_A a8_l.length a8_k) a8_22 a8_23 a8_24 a8_25 a8_26 a8_27 a8_28 a8_29 a8_39 a8_40) rfl Bg0 rfl Try.underlying36 rfl (by kernel_rfl) ?_) | ((go_at_call 15); (with_reducible refine (windowK3_0 a8_5 a8_6 a8_7 a8_8 a8_9 a8_10 a8_11 a8_20 a8_22 a8_23 a8_24 a8_25 a8_26 a8_27 a8_28 a8_29 a8_39 a8_40 a8_A a8_k a8_l ⟨hM_a8_20, hp_a8_5, Wa8_6, Wa8_7, Wa8_8, Wa8_9, Wa8_10, Wa8_11, Wa8_39, Wa8_40⟩ _ RB_a8_A hk_a8_A hL_a8_A).mono ?_); rintro e w9 ⟨rfl, hl⟩; replace Bg0 := Bg0.below hl; replace RB_a8_A := RB_a8_A.below hl; replace HS := HS.below hl; replace kE0 := cell_since kEb0 HS; clear hl; have kg0_0 := Bg0.at 0 rfl; have kg0_20 := Bg0.at 20 rfl))
        have hc_ := of_decide_eq_true h1
        go_roundg (gk - 1)
        case measure => omega
        case rel => exact ⟨xi + 1, _, _, _, _, _, _, _, _, _, _, _, _, _, _, _, _, _, _, _, _, _, (by first | rfl | (simp; done) | (simp [next_ hx_xi (show xi < 1000 by omega)]; done)), (by omega), (by omega), Bg0, ⟨hM_a8_20, hp_a8_5, Wa8_6, Wa8_7, Wa8_8, Wa8_9, Wa8_10, Wa8_11, Wa8_39, Wa8_40⟩, hk_a8_A, by omega, RB_a8_A, NRB_a8_A_g0, HS⟩
      ·have b4 : (e0_0 != 4) = true := by simp only [bne, h4]; rfl
       have q1 : (decide (uWin a8_20 a8_l a8_22 a8_29 < 2400)) = false := ltf (win_in hM_a8_20.g0 hM_a8_20.g1).1
       have q2 : (decide (16777216 < uWin a8_20 a8_l a8_22 a8_29)) = false := ltf (win_in hM_a8_20.g0 hM_a8_20.g1).2
       rcases Bool.eq_false_or_eq_true (e0_0 == 5) with h5 | h5
       ·have b5 : (e0_0 != 5) = false := by simp only [bne, h5]; rfl
        have q3 : (decide (uWin a8_20 a8_l a8_22 a8_29 < uWin b20 bl b22 b29)) = false := ltf (hR_a8_.2 (beq_iff_eq.mp h5))
        go_wp2_with (first | (refine seg_load rfl (N := 59) rfl 36 (.tmp 10) rfl g0 0 (K3 a8_5 a8_6 a8_7 a8_8 a8_9 a8_10 a8_11 a8_20 (.slice a8_A a8_l.length a8_k) a8_22 a8_23 a8_24 a8_25 a8_26 a8_27 a8_28 a8_29 a8_39 a8_40) rfl Bg0 rfl Try.underlying36 rfl (by kernel_rfl) ?_) | ((go_at_call 15); (with_reducible refine (windowK3_0 a8_5 a8_6 a8_7 a8_8 a8_9 a8_10 a8_11 a8_20 a8_22 a8_23 a8_24 a8_25 a8_26 a8_27 a8_28 a8_29 a8_39 a8_40 a8_A a8_k a8_l ⟨hM_a8_20, hp_a8_5, Wa8_6, Wa8_7, Wa8_8, Wa8_9, Wa8_10, Wa8_11, Wa8_39, Wa8_40⟩ _ RB_a8_A hk_a8_A hL_a8_A).mono ?_); rintro e w9 ⟨rfl, hl⟩; replace Bg0 := Bg0.below hl; replace RB_a8_A := RB_a8_A.below hl; replace HS := HS.below hl; replace kE0 := cell_since kEb0 HS; clear hl; have kg0_0 := Bg0.at 0 rfl))
        have hc_ := of_decide_eq_true h1
        go_roundg (gk - 1)
        case measure => omega
        case rel => exact ⟨xi + 1, _, _, _, _, _, _, _, _, _, _, _, _, _, _, _, _, _, _, _, _, _, (by first | rfl | (simp; done) | (simp [next_ hx_xi (show xi < 1000 by omega)]; done)), (by omega), (by omega), Bg0, ⟨hM_a8_20, hp_a8_5, Wa8_6, Wa8_7, Wa8_8, Wa8_9, Wa8_10, Wa8_11, Wa8_39, Wa8_40⟩, hk_a8_A, by omega, RB_a8_A, NRB_a8_A_g0, HS⟩
       ·have b5 : (e0_0 != 5) = true := by simp only [bne, h5]; rfl
        go_wp2_with (first | (refine seg_load rfl (N := 59) rfl 36 (.tmp 10) rfl g0 0 (K3 a8_5 a8_6 a8_7 a8_8 a8_9 a8_10 a8_11 a8_20 (.slice a8_A a8_l.length a8_k) a8_22 a8_23 a8_24 a8_25 a8_26 a8_27 a8_28 a8_29 a8_39 a8_40) rfl Bg0 rfl Try.underlying36 rfl (by kernel_rfl) ?_) | ((go_at_call 15); (with_reducible refine (windowK3_0 a8_5 a8_6 a8_7 a8_8 a8_9 a8_10 a8_11 a8_20 a8_22 a8_23 a8_24 a8_25 a8_26 a8_27 a8_28 a8_29 a8_39 a8_40 a8_A a8_k a8_l ⟨hM_a8_20, hp_a8_5, Wa8_6, Wa8_7, Wa8_8, Wa8_9, Wa8_10, Wa8_11, Wa8_39, Wa8_40⟩ _ RB_a8_A hk_a8_A hL_a8_A).mono ?_); rintro e w9 ⟨rfl, hl⟩; replace Bg0 := Bg0.below hl; replace RB_a8_A := RB_a8_A.below hl; replace HS := HS.below hl; replace kE0 := cell_since kEb0 HS; clear hl; have kg0_0 := Bg0.at 0 rfl))
        have hc_ := of_decide_eq_true h1
        go_roundg (gk - 1)
        case measure => omega
        case rel => exact ⟨xi + 1, _, _, _, _, _, _, _, _, _, _, _, _, _, _, _, _, _, _, _, _, _, (by first | rfl | (simp; done) | (simp [next_ hx_xi (show xi < 1000 by omega)]; done)), (by omega), (by omega), Bg0, ⟨hM_a8_20, hp_a8_5, Wa8_6, Wa8_7, Wa8_8, Wa8_9, Wa8_10, Wa8_11, Wa8_39, Wa8_40⟩, hk_a8_A, by omega, RB_a8_A, NRB_a8_A_g0, HS⟩
   ·go_wp2
    all_goals (go_ret; exact ⟨by first | rfl | (simp; done), HS.out⟩)
  ·go_wp2
   all_goals (go_ret; exact ⟨by first | rfl | (simp; done), HS.out⟩)
theorem holds4 (now next : Int) (A1 : Option Addr) (k1 : Nat) (l1 : List S53) (Wnow : W64 now) (Wnext : W64 next) (x1 : ∀ x ∈ l1, WfS53 x) (w : World) (hC1 : Kd.C k53 w A1 l1.length l1) (hl1 : l1.length ≤ k1) :
  Calls Try.prog 6 #[.int .i64 4, .int .u64 now, .int .u64 next, .slice A1 l1.length k1] w fun e w' => e = .returned (.bool true) ∧ Below w.heap.size w w' := by
 have hu36 := Try.underlying36
 have hu53 := Try.underlying53
 have HS := Since.refl w
 go_enter Try.func6, Try.ntmps6
 go_wp2_with (first | ((go_at_call 8); (with_reducible refine (awake_0 _ (by decide +kernel) (by decide +kernel) (by decide +kernel)).mono ?_); rintro e w1 ⟨rfl, hl⟩; replace HS := HS.below hl; clear hl) | ((go_at_call 14); (with_reducible refine (newK4_0 now next _).mono ?_); rintro e w2 ⟨rfl, hl⟩; replace HS := HS.below hl; clear hl) | (refine seg_new rfl (N := 10) rfl K0 36 ?hr ?_; (case hr => rfl); intro g0 hg w3 hn hl; have GEg0 := ge_new HS hg; clear hg; replace HS := HS.below hl; have Bg0 := hn; clear hl hn) | (refine seg_store rfl rfl 36 (.tmp 10) (.tmp 23) rfl g0 0 (K4 0 next 18446744073709551615 18446744073709551615 0 18446744073709551615 0 12000 16777216 0 0 1048576 0 0 next false 0 0) (K4 0 next 18446744073709551615 18446744073709551615 0 18446744073709551615 0 12000 16777216 0 0 1048576 0 0 next false 0 0) (.agg (K4 0 next 18446744073709551615 18446744073709551615 0 18446744073709551615 0 12000 16777216 0 0 1048576 0 0 next false 0 0).toArray) rfl rfl rfl Bg0 (by kernel_rfl) (nle rfl) rfl rfl ?_; intro w4 hn hw; replace HS := HS.grown hw GEg0; replace Bg0 := hn; clear hw; clear hn))
 go_loopg [12] 100 (fun kq v12 w' => ∃ (xi b5 b6 b7 b8 b9 b10 b11 b30 b31 b32 b33 b34 b35 b36 b37 b39 b40 : Int) (b38 : Bool), v12 = .int .i64 xi ∧ 0 ≤ xi ∧ (kq : Int) + xi = 100 ∧ Blk w' g0 36 (K4 b5 b6 b7 b8 b9 b10 b11 b30 b31 b32 b33 b34 b35 b36 b37 b38 b39 b40) ∧ G4 b5 b6 b7 b8 b9 b10 b11 b30 b31 b32 b33 b34 b35 b36 b37 b39 b40 ∧ Since w w')
 case atStart => exact ⟨0, _, _, _, _, _, _, _, _, _, _, _, _, _, _, _, _, _, _, rfl, by decide, by decide, Bg0, ⟨(by decide), (by decide), Wnext, (by decide), (by decide), (by decide), (by decide), (by decide), (by decide), (by decide), (by decide), (by decide), (by decide), (by decide), (by decide), Wnext, (by decide), (by decide)⟩, HS⟩
 case round =>
  clear Bg0 HS
  obtain ⟨xi, b5, b6, b7, b8, b9, b10, b11, b30, b31, b32, b33, b34, b35, b36, b37, b39, b40, b38, rfl, hx_xi, hk_xi, Bg0, ⟨hb_b30, hp_b5, Wb6, Wb7, Wb8, Wb9, Wb10, Wb11, Wb30, Wb31, Wb32, Wb33, Wb34, Wb35, Wb36, Wb37, Wb39, Wb40⟩, HS⟩ := hrel
  rcases Bool.eq_false_or_eq_true (decide (xi < (l1.length : Int))) with h0 | h0
  ·rcases Bool.eq_false_or_eq_true (decide (xi < 100)) with h1 | h1
   ·have hlt0 := of_decide_eq_true h0
    obtain ⟨ad0, e0_0, e0_1, e0_2, e0_3, e0_4, e0_5, e0_6, e0_7, e0_8, e0_9, e0_10, e0_11, hA0, We0_1, We0_2, We0_3, We0_4, We0_5, We0_6, We0_7, We0_8, We0_11, hE0, kEb0⟩ := elem53 hC1 x1 hx_xi hlt0
    subst hA0
    have kE0 := cell_since kEb0 HS
    go_wp2_with (first | (refine seg_load rfl (N := 51) rfl 36 (.tmp 10) rfl g0 0 (K4 b5 b6 b7 b8 b9 b10 b11 b30 b31 b32 b33 b34 b35 b36 b37 b38 b39 b40) rfl Bg0 rfl Try.underlying36 rfl (by kernel_rfl) ?_) | ((go_at_call 15); (with_reducible refine (windowK4_0 b5 b6 b7 b8 b9 b10 b11 b30 b31 b32 b33 b34 b35 b36 b37 b39 b40 b38 _).mono ?_); rintro e w5 ⟨rfl, hl⟩; replace Bg0 := Bg0.below hl; replace HS := HS.below hl; clear hl))
    refine start_ (n := 7) (S := fun w' => Blk w' g0 36 (K4 b5 b6 b7 b8 b9 b10 b11 b30 b31 b32 b33 b34 b35 b36 b37 b38 b39 b40) ∧ RowAt w' (ad0.add (xi.toNat * 12)) [.int .i64 e0_0, .int .u64 e0_1, .int .u64 e0_2, .int .u64 e0_3, .int .u64 e0_4, .int .u64 e0_5, .int .u64 e0_6, .int .u64 e0_7, .int .u64 e0_8, .bool e0_9, .bool e0_10, .int .u64 e0_11]) (ds := [6]) (bs 7 0) (by kernel_rfl) rfl rfl ⟨Bg0.drew, (hE0.since HS.drew)⟩ (fun hHeld => ?_)
    generalize hWd : World.drew w5 = w6 at hHeld ⊢
    have hl : Below w5.heap.size w5 w6 := (by rw [← hWd]; exact below_drew1 (Below.refl _ _))
    clear hWd
    replace Bg0 := Bg0.below hl; replace HS := HS.below hl; replace kE0 := cell_since kEb0 HS; clear hl
    refine pu 1 54 (.slice (some ad0) l1.length k1) 2 rfl rfl (by kernel_rfl) (fun _ _ _ h => h) (by rfl) (fun _ => by kernel_rfl) rfl ?_
    refine pu 2 55 (.int .i64 xi) 6 rfl rfl (by kernel_rfl) (fun _ _ _ h => h) (by rfl) (fun _ => by kernel_rfl) rfl ?_
    refine norm_ (a' := ?_) ?_ ?_
    rotate_left
    ·simp only [Act.put, zA_, z0_, z1_, i64_w, i32_w]
     rfl
    refine pure_ (i := 3) (N := some 56) (v := ?_) (a' := ?_) (bs 7 14) rfl rfl (by kernel_rfl) (fun _ _ _ h => h) (Or.inl ⟨by rfl, ?_⟩) ?_ ?_
    rotate_left
    ·intro w'
     go_simp
     with_reducible rfl
    rotate_left
    ·simp only [Act.put, zA_, z0_, z1_, i64_w, i32_w]
     rfl
    refine take_ (i := 0) (N := some 53) (v := .agg #[.int .i64 4, .int .u64 0, .int .u64 0, .int .u64 0, .int .u64 0, .int .i64 b5, .int .u64 b6, .int .u64 b7, .int .u64 b8, .int .u64 b9, .int .u64 b10, .int .u64 b11, .int .u64 0, .int .u64 0, .int .u64 0, .bool false, .int .u64 0, .int .u64 0, .int .u64 0, .int .u64 0, .int .i64 0, .slice none 0 0, .int .u64 0, .int .u64 0, .int .u64 0, .int .u64 0, .int .u64 0, .int .u64 0, .int .u64 0, .int .u64 0, .int .u64 b30, .int .u64 b31, .int .u64 b32, .int .u64 b33, .int .u64 b34, .int .u64 b35, .int .u64 b36, .int .u64 b37, .bool b38, .int .u64 b39, .int .u64 b40]) (a' := ?_) (bs 7 15) rfl rfl (by kernel_rfl) (fun _ _ _ h => h) (Or.inl ⟨by rfl, ?_⟩) hHeld ?_ ?_
    ·rintro w' ⟨s0, s1⟩
     exact exec_seg_load 36 (.tmp 10) (by rfl) g0 0 (K4 b5 b6 b7 b8 b9 b10 b11 b30 b31 b32 b33 b34 b35 b36 b37 b38 b39 b40) (by rfl) s0 (by rfl) Try.underlying36 (by rfl) (by kernel_rfl)
    rotate_left
    ·simp only [Act.put, zA_, z0_, z1_, i64_w, i32_w]
     rfl
    refine take_ (i := 4) (N := some 57) (v := .agg #[.int .i64 e0_0, .int .u64 e0_1, .int .u64 e0_2, .int .u64 e0_3, .int .u64 e0_4, .int .u64 e0_5, .int .u64 e0_6, .int .u64 e0_7, .int .u64 e0_8, .bool e0_9, .bool e0_10, .int .u64 e0_11]) (a' := ?_) (bs 7 31) rfl rfl (by kernel_rfl) (fun _ _ _ h => h) (Or.inl ⟨by rfl, ?_⟩) hHeld ?_ ?_
    ·rintro w' ⟨s0, s1⟩
     exact exec_row_load 53 (.tmp 56) (by rfl) (ad0.add (xi.toNat * 12)) [.int .i64 e0_0, .int .u64 e0_1, .int .u64 e0_2, .int .u64 e0_3, .int .u64 e0_4, .int .u64 e0_5, .int .u64 e0_6, .int .u64 e0_7, .int .u64 e0_8, .bool e0_9, .bool e0_10, .int .u64 e0_11] (by rfl) s1 Try.underlying53 (by rfl) (by kernel_rfl)
    rotate_left
    ·simp only [Act.put, zA_, z0_, z1_, i64_w, i32_w]
     rfl
    refine one_ (i := 5) (N := some 58) (bs 7 63) rfl rfl (by kernel_rfl) (by decide) (fun K hK => ?_)
    refine goes_ Try.func16 (by kernel_rfl) rfl #[.agg (K4 b5 b6 b7 b8 b9 b10 b11 b30 b31 b32 b33 b34 b35 b36 b37 b38 b39 b40).toArray, .agg #[.int .i64 e0_0, .int .u64 e0_1, .int .u64 e0_2, .int .u64 e0_3, .int .u64 e0_4, .int .u64 e0_5, .int .u64 e0_6, .int .u64 e0_7, .int .u64 e0_8, .bool e0_9, .bool e0_10, .int .u64 e0_11]] (by rfl) rfl rfl (by simp only [List.map_toArray, List.map_cons, List.map_nil]; rfl) ?_
    with_reducible refine (nextS4 b5 b6 b7 b8 b9 b10 b11 b30 b31 b32 b33 b34 b35 b36 b37 b39 b40 e0_0 e0_1 e0_2 e0_3 e0_4 e0_5 e0_6 e0_7 e0_8 e0_11 b38 e0_9 e0_10 ⟨hb_b30, hp_b5, Wb6, Wb7, Wb8, Wb9, Wb10, Wb11, Wb30, Wb31, Wb32, Wb33, Wb34, Wb35, Wb36, Wb37, Wb39, Wb40⟩ We0_1 We0_2 We0_3 We0_4 We0_5 We0_6 We0_7 We0_8 We0_11 _).mono ?_
    rintro e w7 ⟨a8_5, a8_6, a8_7, a8_8, a8_9, a8_10, a8_11, a8_30, a8_31, a8_32, a8_33, a8_34, a8_35, a8_36, a8_37, a8_39, a8_40, a8_38, rfl, ⟨hb_a8_30, hp_a8_5, Wa8_6, Wa8_7, Wa8_8, Wa8_9, Wa8_10, Wa8_11, Wa8_30, Wa8_31, Wa8_32, Wa8_33, Wa8_34, Wa8_35, Wa8_36, Wa8_37, Wa8_39, Wa8_40⟩, hR_a8_, hl⟩
    refine ⟨_, rfl, ?_⟩
    replace Bg0 := Bg0.below hl; replace HS := HS.below hl; replace kE0 := cell_since kEb0 HS; clear hl
    refine hK.out _ _ ⟨Bg0, (hE0.since HS)⟩ (fun hHeld => ?_)
    clear hK K
    refine norm_ (a' := ?_) ?_ ?_
    rotate_left
    ·show Act.put _ (some 58) _ = _
     simp only [Act.put, zA_, z0_, z1_, i64_w, i32_w]
     rfl
    refine last_ (i := 6) (N := none) (bs 7 127) rfl rfl (by kernel_rfl) (by decide) (fun K hK => ?_)
    refine skip_seg (by rfl) rfl 36 (.tmp 10) (.tmp 58) rfl g0 0 (K4 a8_5 a8_6 a8_7 a8_8 a8_9 a8_10 a8_11 a8_30 a8_31 a8_32 a8_33 a8_34 a8_35 a8_36 a8_37 a8_38 a8_39 a8_40) (K4 a8_5 a8_6 a8_7 a8_8 a8_9 a8_10 a8_11 a8_30 a8_31 a8_32 a8_33 a8_34 a8_35 a8_36 a8_37 a8_38 a8_39 a8_40) (.agg (K4 a8_5 a8_6 a8_7 a8_8 a8_9 a8_10 a8_11 a8_30 a8_31 a8_32 a8_33 a8_34 a8_35 a8_36 a8_37 a8_38 a8_39 a8_40).toArray) (by rfl) (by rfl) rfl Bg0 (by kernel_rfl) (nle rfl) rfl rfl ?_
    intro w8 hn hw
    replace HS := HS.grown hw GEg0; replace kE0 := cell_since kEb0 HS; replace Bg0 := hn; clear hw; clear hn
    refine hK.out _ _ ?_
    clear hK K
    refine done_ (by kernel_rfl) ?_
    rcases Bool.eq_false_or_eq_true (e0_0 == 2) with h2 | h2
    ·have b2 : (e0_0 != 2) = false := by simp only [bne, h2]; rfl
     have q1 : (decide (a8_30 < 2400)) = false := ltf hb_a8_30.1
     have q2 : (decide (16777216 < a8_30)) = false := ltf hb_a8_30.2
     have q3 : (decide (b30 < a8_30)) = false := ltf (hR_a8_.1 (.inl (beq_iff_eq.mp h2)))
     have q4 : (e0_0 == 5) = false := by rw [beq_iff_eq.mp h2]; rfl
     go_wp2_with (first | (refine seg_load rfl (N := 59) rfl 36 (.tmp 10) rfl g0 0 (K4 a8_5 a8_6 a8_7 a8_8 a8_9 a8_10 a8_11 a8_30 a8_31 a8_32 a8_33 a8_34 a8_35 a8_36 a8_37 a8_38 a8_39 a8_40) rfl Bg0 rfl Try.underlying36 rfl (by kernel_rfl) ?_) | ((go_at_call 15); (with_reducible refine (windowK4_0 a8_5 a8_6 a8_7 a8_8 a8_9 a8_10 a8_11 a8_30 a8_31 a8_32 a8_33 a8_34 a8_35 a8_36 a8_37 a8_39 a8_40 a8_38 _).mono ?_); rintro e w9 ⟨rfl, hl⟩; replace Bg0 := Bg0.below hl; replace HS := HS.below hl; replace kE0 := cell_since kEb0 HS; clear hl; have kg0_0 := Bg0.at 0 rfl))
     have hc_ := of_decide_eq_true h1
     go_roundg (gk - 1)
     case measure => omega
     case rel => exact ⟨xi + 1, _, _, _, _, _, _, _, _, _, _, _, _, _, _, _, _, _, _, (by first | rfl | (simp; done) | (simp [next_ hx_xi (show xi < 1000 by omega)]; done)), (by omega), (by omega), Bg0, ⟨hb_a8_30, hp_a8_5, Wa8_6, Wa8_7, Wa8_8, Wa8_9, Wa8_10, Wa8_11, Wa8_30, Wa8_31, Wa8_32, Wa8_33, Wa8_34, Wa8_35, Wa8_36, Wa8_37, Wa8_39, Wa8_40⟩, HS⟩
    ·have b2 : (e0_0 != 2) = true := by simp only [bne, h2]; rfl
     rcases Bool.eq_false_or_eq_true (e0_0 == 3) with h3 | h3
     ·have b3 : (e0_0 != 3) = false := by simp only [bne, h3]; rfl
      have q1 : (decide (a8_30 < 2400)) = false := ltf hb_a8_30.1
      have q2 : (decide (16777216 < a8_30)) = false := ltf hb_a8_30.2
      have q3 : (decide (b30 < a8_30)) = false := ltf (hR_a8_.1 (.inr (.inl (beq_iff_eq.mp h3))))
      have q4 : (e0_0 == 5) = false := by rw [beq_iff_eq.mp h3]; rfl
      go_wp2_with (first | (refine seg_load rfl (N := 59) rfl 36 (.tmp 10) rfl g0 0 (K4 a8_5 a8_6 a8_7 a8_8 a8_9 a8_10 a8_11 a8_30 a8_31 a8_32 a8_33 a8_34 a8_35 a8_36 a8_37 a8_38 a8_39 a8_40) rfl Bg0 rfl Try.underlying36 rfl (by kernel_rfl) ?_) | ((go_at_call 15); (with_reducible refine (windowK4_0 a8_5 a8_6 a8_7 a8_8 a8_9 a8_10 a8_11 a8_30 a8_31 a8_32 a8_33 a8_34 a8_35 a8_36 a8_37 a8_39 a8_40 a8_38 _).mono ?_); rintro e w9 ⟨rfl, hl⟩; replace Bg0 := Bg0.below hl; replace HS := HS.below hl; replace kE0 := cell_since kEb0 HS; clear hl; have kg0_0 := Bg0.at 0 rfl))
      have hc_ := of_decide_eq_true h1
      go_roundg (gk - 1)
      case measure => omega
      case rel => exact ⟨xi + 1, _, _, _, _, _, _, _, _, _, _, _, _, _, _, _, _, _, _, (by first | rfl | (simp; done) | (simp [next_ hx_xi (show xi < 1000 by omega)]; done)), (by omega), (by omega), Bg0, ⟨hb_a8_30, hp_a8_5, Wa8_6, Wa8_7, Wa8_8, Wa8_9, Wa8_10, Wa8_11, Wa8_30, Wa8_31, Wa8_32, Wa8_33, Wa8_34, Wa8_35, Wa8_36, Wa8_37, Wa8_39, Wa8_40⟩, HS⟩
     ·have b3 : (e0_0 != 3) = true := by simp only [bne, h3]; rfl
      rcases Bool.eq_false_or_eq_true (e0_0 == 4) with h4 | h4
      ·have b4 : (e0_0 != 4) = false := by simp only [bne, h4]; rfl
       have q1 : (decide (a8_30 < 2400)) = false := ltf hb_a8_30.1
       have q2 : (decide (16777216 < a8_30)) = false := ltf hb_a8_30.2
       have q3 : (decide (b30 < a8_30)) = false := ltf (hR_a8_.1 (.inr (.inr (beq_iff_eq.mp h4))))
       have q4 : (e0_0 == 5) = false := by rw [beq_iff_eq.mp h4]; rfl
       go_wp2_with (first | (refine seg_load rfl (N := 59) rfl 36 (.tmp 10) rfl g0 0 (K4 a8_5 a8_6 a8_7 a8_8 a8_9 a8_10 a8_11 a8_30 a8_31 a8_32 a8_33 a8_34 a8_35 a8_36 a8_37 a8_38 a8_39 a8_40) rfl Bg0 rfl Try.underlying36 rfl (by kernel_rfl) ?_) | ((go_at_call 15); (with_reducible refine (windowK4_0 a8_5 a8_6 a8_7 a8_8 a8_9 a8_10 a8_11 a8_30 a8_31 a8_32 a8_33 a8_34 a8_35 a8_36 a8_37 a8_39 a8_40 a8_38 _).mono ?_); rintro e w9 ⟨rfl, hl⟩; replace Bg0 := Bg0.below hl; replace HS := HS.below hl; replace kE0 := cell_since kEb0 HS; clear hl; have kg0_0 := Bg0.at 0 rfl))
       have hc_ := of_decide_eq_true h1
       go_roundg (gk - 1)
       case measure => omega
       case rel => exact ⟨xi + 1, _, _, _, _, _, _, _, _, _, _, _, _, _, _, _, _, _, _, (by first | rfl | (simp; done) | (simp [next_ hx_xi (show xi < 1000 by omega)]; done)), (by omega), (by omega), Bg0, ⟨hb_a8_30, hp_a8_5, Wa8_6, Wa8_7, Wa8_8, Wa8_9, Wa8_10, Wa8_11, Wa8_30, Wa8_31, Wa8_32, Wa8_33, Wa8_34, Wa8_35, Wa8_36, Wa8_37, Wa8_39, Wa8_40⟩, HS⟩
      ·have b4 : (e0_0 != 4) = true := by simp only [bne, h4]; rfl
       have q1 : (decide (a8_30 < 2400)) = false := ltf hb_a8_30.1
       have q2 : (decide (16777216 < a8_30)) = false := ltf hb_a8_30.2
       rcases Bool.eq_false_or_eq_true (e0_0 == 5) with h5 | h5
       ·have b5 : (e0_0 != 5) = false := by simp only [bne, h5]; rfl
        have q3 : (decide (a8_30 < b30)) = false := ltf (hR_a8_.2 (beq_iff_eq.mp h5))
        go_wp2_with (first | (refine seg_load rfl (N := 59) rfl 36 (.tmp 10) rfl g0 0 (K4 a8_5 a8_6 a8_7 a8_8 a8_9 a8_10 a8_11 a8_30 a8_31 a8_32 a8_33 a8_34 a8_35 a8_36 a8_37 a8_38 a8_39 a8_40) rfl Bg0 rfl Try.underlying36 rfl (by kernel_rfl) ?_) | ((go_at_call 15); (with_reducible refine (windowK4_0 a8_5 a8_6 a8_7 a8_8 a8_9 a8_10 a8_11 a8_30 a8_31 a8_32 a8_33 a8_34 a8_35 a8_36 a8_37 a8_39 a8_40 a8_38 _).mono ?_); rintro e w9 ⟨rfl, hl⟩; replace Bg0 := Bg0.below hl; replace HS := HS.below hl; replace kE0 := cell_since kEb0 HS; clear hl; have kg0_0 := Bg0.at 0 rfl))
        have hc_ := of_decide_eq_true h1
        go_roundg (gk - 1)
        case measure => omega
        case rel => exact ⟨xi + 1, _, _, _, _, _, _, _, _, _, _, _, _, _, _, _, _, _, _, (by first | rfl | (simp; done) | (simp [next_ hx_xi (show xi < 1000 by omega)]; done)), (by omega), (by omega), Bg0, ⟨hb_a8_30, hp_a8_5, Wa8_6, Wa8_7, Wa8_8, Wa8_9, Wa8_10, Wa8_11, Wa8_30, Wa8_31, Wa8_32, Wa8_33, Wa8_34, Wa8_35, Wa8_36, Wa8_37, Wa8_39, Wa8_40⟩, HS⟩
       ·have b5 : (e0_0 != 5) = true := by simp only [bne, h5]; rfl
        go_wp2_with (first | (refine seg_load rfl (N := 59) rfl 36 (.tmp 10) rfl g0 0 (K4 a8_5 a8_6 a8_7 a8_8 a8_9 a8_10 a8_11 a8_30 a8_31 a8_32 a8_33 a8_34 a8_35 a8_36 a8_37 a8_38 a8_39 a8_40) rfl Bg0 rfl Try.underlying36 rfl (by kernel_rfl) ?_) | ((go_at_call 15); (with_reducible refine (windowK4_0 a8_5 a8_6 a8_7 a8_8 a8_9 a8_10 a8_11 a8_30 a8_31 a8_32 a8_33 a8_34 a8_35 a8_36 a8_37 a8_39 a8_40 a8_38 _).mono ?_); rintro e w9 ⟨rfl, hl⟩; replace Bg0 := Bg0.below hl; replace HS := HS.below hl; replace kE0 := cell_since kEb0 HS; clear hl; have kg0_0 := Bg0.at 0 rfl))
        have hc_ := of_decide_eq_true h1
        go_roundg (gk - 1)
        case measure => omega
        case rel => exact ⟨xi + 1, _, _, _, _, _, _, _, _, _, _, _, _, _, _, _, _, _, _, (by first | rfl | (simp; done) | (simp [next_ hx_xi (show xi < 1000 by omega)]; done)), (by omega), (by omega), Bg0, ⟨hb_a8_30, hp_a8_5, Wa8_6, Wa8_7, Wa8_8, Wa8_9, Wa8_10, Wa8_11, Wa8_30, Wa8_31, Wa8_32, Wa8_33, Wa8_34, Wa8_35, Wa8_36, Wa8_37, Wa8_39, Wa8_40⟩, HS⟩
   ·go_wp2
    all_goals (go_ret; exact ⟨by first | rfl | (simp; done), HS.out⟩)
  ·go_wp2
   all_goals (go_ret; exact ⟨by first | rfl | (simp; done), HS.out⟩)
theorem newN2_0 (kind now next : Int)  (w : World) (h0 : (kind == 1) = false) (h1 : (kind == 2) = false) (h2 : (kind == 3) = false) (h3 : (kind == 4) = false) :
  Calls Try.prog 14 #[.int .i64 kind, .int .u64 now, .int .u64 next] w fun e w' => e = .returned (.tuple #[.agg K0.toArray, .int .i64 1]) ∧ Below w.heap.size w w' := by
 have hu36 := Try.underlying36
 have HS := Since.refl w
 go_enter Try.func14, Try.ntmps14
 go_wp2_with (first | (refine seg_new rfl (N := 6) rfl K0 36 ?hr ?_; (case hr => rfl); intro g0 hg w1 hn hl; have GEg0 := ge_new HS hg; clear hg; replace HS := HS.below hl; have Bg0 := hn; clear hl hn) | ((go_at_call 30); (with_reducible refine (slowN_0 next _).mono ?_); rintro e w2 ⟨rfl, hl⟩; replace Bg0 := Bg0.below hl; replace HS := HS.below hl; clear hl) | (refine seg_new rfl (N := 8) rfl K0 36 ?hr ?_; (case hr => rfl); intro g1 hg w3 hn hl; have Ng1_g0 := ne_new Bg0 hg; have GEg1 := ge_new HS hg; clear hg; replace Bg0 := Bg0.below hl; replace HS := HS.below hl; have Bg1 := hn; clear hl hn) | (refine seg_store rfl rfl 36 (.tmp 8) (.tmp 12) rfl g1 0 (K36 kind 0 0 0 0 0 next 18446744073709551615 18446744073709551615 0 18446744073709551615 0 0 0 0 false 0 0 0 0 0 (.slice none 0 0) 0 0 0 0 0 0 0 0 0 0 0 0 0 0 0 0 false 0 0) (K36 kind 0 0 0 0 0 next 18446744073709551615 18446744073709551615 0 18446744073709551615 0 0 0 0 false 0 0 0 0 0 (.slice none 0 0) 0 0 0 0 0 0 0 0 0 0 0 0 0 0 0 0 false 0 0) (.agg (K36 kind 0 0 0 0 0 next 18446744073709551615 18446744073709551615 0 18446744073709551615 0 0 0 0 false 0 0 0 0 0 (.slice none 0 0) 0 0 0 0 0 0 0 0 0 0 0 0 0 0 0 0 false 0 0).toArray) rfl rfl rfl Bg1 (by kernel_rfl) (nle rfl) rfl rfl ?_; intro w4 hn hw; replace Bg0 := Bg0.grown hw Ng1_g0.symm; replace HS := HS.grown hw GEg1; replace Bg1 := hn; clear hw; clear hn) | (refine seg_store rfl rfl 36 (.tmp 6) (.tmp 14) rfl g0 0 K0 K0 (.agg K0.toArray) rfl rfl rfl Bg0 (by kernel_rfl) (nle rfl) rfl rfl ?_; intro w5 hn hw; replace Bg1 := Bg1.grown hw Ng1_g0; replace HS := HS.grown hw GEg0; replace Bg0 := hn; clear hw; clear hn))
 all_goals exact bodyPost_ret (results_cell_tmp rfl _ _ g0 36 K0 _ (.int .i64 1) rfl rfl Bg0 Try.underlying36 rfl (by kernel_rfl)) rfl ⟨rfl, HS.out⟩
theorem holdsN_0 (kind now next : Int) (A1 : Option Addr) (n1 k1 : Nat)  (w : World) (h0 : (kind == 1) = false) (h1 : (kind == 2) = false) (h2 : (kind == 3) = false) (h3 : (kind == 4) = false) (h4 : (decide (kind < 1)) = true) :
  Calls Try.prog 6 #[.int .i64 kind, .int .u64 now, .int .u64 next, .slice A1 n1 k1] w fun e w' => e = .returned (.bool true) ∧ Below w.heap.size w w' := by
 have hu36 := Try.underlying36
 have HS := Since.refl w
 go_enter Try.func6, Try.ntmps6
 go_wp2_with (first | ((go_at_call 8); (with_reducible refine (awake_0 _ (by decide +kernel) (by decide +kernel) (by decide +kernel)).mono ?_); rintro e w1 ⟨rfl, hl⟩; replace HS := HS.below hl; clear hl) | ((go_at_call 14); (with_reducible refine (newN2_0 kind now next _ h0 h1 h2 h3).mono ?_); rintro e w2 ⟨rfl, hl⟩; replace HS := HS.below hl; clear hl) | (refine seg_new rfl (N := 10) rfl K0 36 ?hr ?_; (case hr => rfl); intro g0 hg w3 hn hl; have GEg0 := ge_new HS hg; clear hg; replace HS := HS.below hl; have Bg0 := hn; clear hl hn) | (refine seg_store rfl rfl 36 (.tmp 10) (.tmp 23) rfl g0 0 K0 K0 (.agg K0.toArray) rfl rfl rfl Bg0 (by kernel_rfl) (nle rfl) rfl rfl ?_; intro w4 hn hw; replace HS := HS.grown hw GEg0; replace Bg0 := hn; clear hw; have kg0_0 := Bg0.at 0 rfl; clear hn))
 all_goals (go_ret; exact ⟨by first | rfl | (simp; done), HS.out⟩)
theorem holdsN_1 (kind now next : Int) (A1 : Option Addr) (n1 k1 : Nat)  (w : World) (h0 : (kind == 1) = false) (h1 : (kind == 2) = false) (h2 : (kind == 3) = false) (h3 : (kind == 4) = false) (h4 : (decide (kind < 1)) = false) (h5 : (decide (4 < kind)) = true) :
  Calls Try.prog 6 #[.int .i64 kind, .int .u64 now, .int .u64 next, .slice A1 n1 k1] w fun e w' => e = .returned (.bool true) ∧ Below w.heap.size w w' := by
 have hu36 := Try.underlying36
 have HS := Since.refl w
 go_enter Try.func6, Try.ntmps6
 go_wp2_with (first | ((go_at_call 8); (with_reducible refine (awake_0 _ (by decide +kernel) (by decide +kernel) (by decide +kernel)).mono ?_); rintro e w1 ⟨rfl, hl⟩; replace HS := HS.below hl; clear hl) | ((go_at_call 14); (with_reducible refine (newN2_0 kind now next _ h0 h1 h2 h3).mono ?_); rintro e w2 ⟨rfl, hl⟩; replace HS := HS.below hl; clear hl) | (refine seg_new rfl (N := 10) rfl K0 36 ?hr ?_; (case hr => rfl); intro g0 hg w3 hn hl; have GEg0 := ge_new HS hg; clear hg; replace HS := HS.below hl; have Bg0 := hn; clear hl hn) | (refine seg_store rfl rfl 36 (.tmp 10) (.tmp 23) rfl g0 0 K0 K0 (.agg K0.toArray) rfl rfl rfl Bg0 (by kernel_rfl) (nle rfl) rfl rfl ?_; intro w4 hn hw; replace HS := HS.grown hw GEg0; replace Bg0 := hn; clear hw; have kg0_0 := Bg0.at 0 rfl; clear hn))
 all_goals (go_ret; exact ⟨by first | rfl | (simp; done), HS.out⟩)
theorem holds_law (kind now next : Int) (A1 : Option Addr) (k1 : Nat) (l1 : List S53) (v0 : (Lit.int .i64 kind).wf = true) (v1 : (Lit.int .u64 now).wf = true) (v2 : (Lit.int .u64 next).wf = true) (x1 : ∀ x ∈ l1, WfS53 x) (w : World) (hC1 : Kd.C k53 w A1 l1.length l1) (hl1 : l1.length ≤ k1) :
  Calls Try.prog 6 #[.int .i64 kind, .int .u64 now, .int .u64 next, .slice A1 l1.length k1] w fun e w' => e = .returned (.bool true) ∧ Below w.heap.size w w' := by
 by_cases z1 : kind = 1
 ·subst z1
  exact holds1 now next A1 k1 l1 (wf64 v1) (wf64 v2) x1 w hC1 hl1
 by_cases z2 : kind = 2
 ·subst z2
  exact holds2 now next A1 k1 l1 (wf64 v1) (wf64 v2) x1 w hC1 hl1
 by_cases z3 : kind = 3
 ·subst z3
  exact holds3 now next A1 k1 l1 (wf64 v1) (wf64 v2) x1 w hC1 hl1
 by_cases z4 : kind = 4
 ·subst z4
  exact holds4 now next A1 k1 l1 (wf64 v1) (wf64 v2) x1 w hC1 hl1
 by_cases y : kind < 1
 ·exact holdsN_0 kind now next A1 l1.length k1 w (beq_eq_false_iff_ne.mpr z1) (beq_eq_false_iff_ne.mpr z2) (beq_eq_false_iff_ne.mpr z3) (beq_eq_false_iff_ne.mpr z4) (decide_eq_true y)
 exact holdsN_1 kind now next A1 l1.length k1 w (beq_eq_false_iff_ne.mpr z1) (beq_eq_false_iff_ne.mpr z2) (beq_eq_false_iff_ne.mpr z3) (beq_eq_false_iff_ne.mpr z4) (decide_eq_false y) (decide_eq_true (show 4 < kind by omega))
end Go.Proofs.Ytpgffmnbdggpnaa.PCv
end
