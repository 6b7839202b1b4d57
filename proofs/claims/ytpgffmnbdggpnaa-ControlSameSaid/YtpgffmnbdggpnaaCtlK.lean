/- The bytes that a window may grow by, past its slow start. -/
import Derived.Deep.DeepMust
import Derived.Test.YtpgffmnbdggpnaaCtlA
import Derived.Test.YtpgffmnbdggpnaaSeg
namespace Go.Proofs.Ytpgffmnbdggpnaa.PCv
open Go.RowKit Go.Proofs.YtpgffmnbdggpnaaW.PrintWords Go.Proofs.YtpgffmnbdggpnaaW.PrintLast Go.Proofs.YtpgffmnbdggpnaaW.PrintMore
set_option linter.unusedVariables false
set_option linter.unusedSimpArgs false
set_option maxRecDepth 100000 in
set_option maxHeartbeats 4000000 in
theorem slow1_0 (g_0 g_1 g_2 g_3 g_4 g_5 g_6 g_7 c1 c2 c3 c4 c5 c6 c7 c8 c9 c10 c11 c12 c13 c14 c16 c17 c18 c19 c20 c22 c23 c24 c25 c26 c27 c28 c29 c30 c31 c32 c33 c34 c35 c36 c37 c39 c40 : Int) (g_8 g_9 c15 c38 : Bool) (A21 : Option Addr) (g n21 k21 : Nat)  (w : World) (h0 : (decide (c2 ≤ c1)) = true) (Bg : Blk w g 36 (K36 1 c1 c2 c3 c4 c5 c6 c7 c8 c9 c10 c11 c12 c13 c14 c15 c16 c17 c18 c19 c20 (.slice A21 n21 k21) c22 c23 c24 c25 c26 c27 c28 c29 c30 c31 c32 c33 c34 c35 c36 c37 c38 c39 c40)) :
    Calls Try.prog 21 #[.pointer (some ⟨g, 0, none⟩), .agg #[.int .u64 g_0, .int .u64 g_1, .int .u64 g_2, .int .u64 g_3, .int .u64 g_4, .int .u64 g_5, .int .u64 g_6, .int .u64 g_7, .bool g_8, .bool g_9]] w fun e w' => e = .returned (.int .u64 g_1) ∧ Blk w' g 36 (K36 1 c1 c2 c3 c4 c5 c6 c7 c8 c9 c10 c11 c12 c13 c14 c15 c16 c17 c18 c19 c20 (.slice A21 n21 k21) c22 c23 c24 c25 c26 c27 c28 c29 c30 c31 c32 c33 c34 c35 c36 c37 c38 c39 c40) ∧ w.grownBy w' (some g) := by
  have hu40 := Try.underlying40
  have HS := Turned.refl g w
  go_enter Try.func21, Try.ntmps21
  go_wp2_with (first | ((with_reducible refine gate_dst (N := 3) rfl ?_); refine seg_new rfl (N := 3) rfl [.int .u64 g_0, .int .u64 g_1, .int .u64 g_2, .int .u64 g_3, .int .u64 g_4, .int .u64 g_5, .int .u64 g_6, .int .u64 g_7, .bool g_8, .bool g_9] 40 ?hr ?_; (case hr => first | (go_simp; done) | (go_simp; rfl) | kernel_rfl); intro g0 hg w1 hn hl; have Ng0_g := ne_new Bg hg; have GEg0 := HS.ge hg; clear hg; replace Bg := Bg.below hl; replace HS := HS.below hl; have Bg0 := hn; clear hl hn) | ((go_at_call 36); (with_reducible refine (parts_reno g _ ((Bg.cell 0).trans rfl)).mono ?_); rintro e w2 ⟨rfl, hd⟩; have hl := hd.below; clear hd; replace Bg := Bg.below hl; replace Bg0 := Bg0.below hl; replace HS := HS.below hl; clear hl; have kg_1 := Bg.at 1 rfl; have kg_2 := Bg.at 2 rfl))
  all_goals go_quiet (fail)
  all_goals (generalize hW : World.drewN w2 _ = w3; have hl : Below w2.heap.size w2 w3 := (by rw [← hW]; exact pw_below_drewN (Below.refl _ _) _); clear hW; replace Bg := Bg.below hl; replace Bg0 := Bg0.below hl; replace HS := HS.below hl; clear hl; clear kg_1 kg_2; have kg0_1 := Bg0.at 1 rfl)
  go_wp2
  all_goals (go_ret; exact ⟨rfl, Bg, HS.out⟩)
set_option maxRecDepth 100000 in
set_option maxHeartbeats 4000000 in
theorem slow2_0 (g_0 g_1 g_2 g_3 g_4 g_5 g_6 g_7 c1 c2 c3 c4 c5 c6 c7 c8 c9 c10 c11 c12 c13 c14 c16 c17 c18 c19 c20 c22 c23 c24 c25 c26 c27 c28 c29 c30 c31 c32 c33 c34 c35 c36 c37 c39 c40 : Int) (g_8 g_9 c15 c38 : Bool) (A21 : Option Addr) (g n21 k21 : Nat)  (w : World) (h0 : (decide (c13 ≤ c12)) = true) (Bg : Blk w g 36 (K36 2 c1 c2 c3 c4 c5 c6 c7 c8 c9 c10 c11 c12 c13 c14 c15 c16 c17 c18 c19 c20 (.slice A21 n21 k21) c22 c23 c24 c25 c26 c27 c28 c29 c30 c31 c32 c33 c34 c35 c36 c37 c38 c39 c40)) :
    Calls Try.prog 21 #[.pointer (some ⟨g, 0, none⟩), .agg #[.int .u64 g_0, .int .u64 g_1, .int .u64 g_2, .int .u64 g_3, .int .u64 g_4, .int .u64 g_5, .int .u64 g_6, .int .u64 g_7, .bool g_8, .bool g_9]] w fun e w' => e = .returned (.int .u64 g_1) ∧ Blk w' g 36 (K36 2 c1 c2 c3 c4 c5 c6 c7 c8 c9 c10 c11 c12 c13 c14 c15 c16 c17 c18 c19 c20 (.slice A21 n21 k21) c22 c23 c24 c25 c26 c27 c28 c29 c30 c31 c32 c33 c34 c35 c36 c37 c38 c39 c40) ∧ w.grownBy w' (some g) := by
  have hu40 := Try.underlying40
  have HS := Turned.refl g w
  go_enter Try.func21, Try.ntmps21
  go_wp2_with (first | ((with_reducible refine gate_dst (N := 3) rfl ?_); refine seg_new rfl (N := 3) rfl [.int .u64 g_0, .int .u64 g_1, .int .u64 g_2, .int .u64 g_3, .int .u64 g_4, .int .u64 g_5, .int .u64 g_6, .int .u64 g_7, .bool g_8, .bool g_9] 40 ?hr ?_; (case hr => first | (go_simp; done) | (go_simp; rfl) | kernel_rfl); intro g0 hg w1 hn hl; have Ng0_g := ne_new Bg hg; have GEg0 := HS.ge hg; clear hg; replace Bg := Bg.below hl; replace HS := HS.below hl; have Bg0 := hn; clear hl hn) | ((go_at_call 36); (with_reducible refine (parts_cubic g _ ((Bg.cell 0).trans rfl)).mono ?_); rintro e w2 ⟨rfl, hd⟩; have hl := hd.below; clear hd; replace Bg := Bg.below hl; replace Bg0 := Bg0.below hl; replace HS := HS.below hl; clear hl; have kg_12 := Bg.at 12 rfl; have kg_13 := Bg.at 13 rfl))
  all_goals go_quiet (fail)
  all_goals (generalize hW : World.drewN w2 _ = w3; have hl : Below w2.heap.size w2 w3 := (by rw [← hW]; exact pw_below_drewN (Below.refl _ _) _); clear hW; replace Bg := Bg.below hl; replace Bg0 := Bg0.below hl; replace HS := HS.below hl; clear hl; clear kg_12 kg_13; have kg0_1 := Bg0.at 1 rfl)
  go_wp2
  all_goals (go_ret; exact ⟨rfl, Bg, HS.out⟩)
end Go.Proofs.Ytpgffmnbdggpnaa.PCv
