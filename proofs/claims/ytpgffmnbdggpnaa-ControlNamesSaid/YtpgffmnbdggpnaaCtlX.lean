/- The statements that names are the document's, and that a rate falls, along each way. -/
import Derived.Deep.DeepMust
import Derived.Test.YtpgffmnbdggpnaaCtlW
import Derived.Test.YtpgffmnbdggpnaaSel
namespace Go.Proofs.Ytpgffmnbdggpnaa.PCtl
open Go.RowKit Go.Proofs.YtpgffmnbdggpnaaW.PrintWords Go.Proofs.YtpgffmnbdggpnaaW.PrintLast Go.Proofs.YtpgffmnbdggpnaaW.PrintMore
set_option linter.unusedVariables false
set_option linter.unusedSimpArgs false
set_option maxRecDepth 100000 in
set_option maxHeartbeats 4000000 in
theorem names_0  (w : World) :
    Calls Try.prog 3 #[] w fun e w' => e = .returned (.bool true) ∧ Below w.heap.size w w' := by
  have HS := Since.refl w
  go_enter Try.func3, Try.ntmps3
  go_wp2_with (first | ((go_at_call 8); (with_reducible refine (awake_0 _ (by decide +kernel) (by decide +kernel) (by decide +kernel) (by decide +kernel)).mono ?_); rintro e w1 ⟨rfl, hl⟩; replace HS := HS.below hl; clear hl))
  all_goals (go_ret; exact ⟨by first | rfl | (simp; done), HS.out⟩)
set_option maxRecDepth 100000 in
set_option maxHeartbeats 4000000 in
theorem ratesE_0 (c0 c1 c2 c3 c4 c5 c6 c7 c8 c9 c10 c11 c12 c13 c14 c16 c17 c18 c19 c20 c22 c23 c24 c25 c26 c27 c28 c29 c30 c31 c32 c33 c34 c35 c36 c37 c39 c40 sm more : Int) (c15 c38 : Bool) (A21 : Option Addr) (k21 : Nat)  (w : World) (l21 : List S90) (hr21 : Kd.C k90 w A21 l21.length l21) (hc21 : l21.length ≤ k21) (hw21 : SWf l21) (h0 : (decide (100 < (l21.length : Int))) = true) :
    Calls Try.prog 4 #[.agg #[.int .i64 c0, .int .u64 c1, .int .u64 c2, .int .u64 c3, .int .u64 c4, .int .i64 c5, .int .u64 c6, .int .u64 c7, .int .u64 c8, .int .u64 c9, .int .u64 c10, .int .u64 c11, .int .u64 c12, .int .u64 c13, .int .u64 c14, .bool c15, .int .u64 c16, .int .u64 c17, .int .u64 c18, .int .u64 c19, .int .i64 c20, .slice A21 l21.length k21, .int .u64 c22, .int .u64 c23, .int .u64 c24, .int .u64 c25, .int .u64 c26, .int .u64 c27, .int .u64 c28, .int .u64 c29, .int .u64 c30, .int .u64 c31, .int .u64 c32, .int .u64 c33, .int .u64 c34, .int .u64 c35, .int .u64 c36, .int .u64 c37, .bool c38, .int .u64 c39, .int .u64 c40], .int .u64 sm, .int .u64 more] w fun e w' => e = .returned (.bool true) ∧ Below w.heap.size w w' := by
  have hu32 := Try.underlying32
  have hu36 := Try.underlying36
  have m01 : max (0 : Int) 1 = 1 := by decide
  have m11 : max (1 : Int) 1 = 1 := by decide
  have n0 : decide (100 < l21.length) = true := by (have := h0; simp at this ⊢; omega)
  have HS := Since.refl w
  go_enter Try.func4, Try.ntmps4
  go_wp2_with (first | ((with_reducible refine gate_dst (N := 3) rfl ?_); go_must (refine seg_new ?hg (N := 3) ?hd (.int .i64 c0 :: .int .u64 c1 :: .int .u64 c2 :: .int .u64 c3 :: .int .u64 c4 :: .int .i64 c5 :: .int .u64 c6 :: .int .u64 c7 :: .int .u64 c8 :: .int .u64 c9 :: .int .u64 c10 :: .int .u64 c11 :: .int .u64 c12 :: .int .u64 c13 :: .int .u64 c14 :: .bool c15 :: .int .u64 c16 :: .int .u64 c17 :: .int .u64 c18 :: .int .u64 c19 :: .int .i64 c20 :: .slice A21 l21.length k21 :: .int .u64 c22 :: .int .u64 c23 :: .int .u64 c24 :: .int .u64 c25 :: .int .u64 c26 :: .int .u64 c27 :: .int .u64 c28 :: .int .u64 c29 :: .int .u64 c30 :: .int .u64 c31 :: .int .u64 c32 :: .int .u64 c33 :: .int .u64 c34 :: .int .u64 c35 :: .int .u64 c36 :: .int .u64 c37 :: .bool c38 :: .int .u64 c39 :: .int .u64 c40 :: []) 36 ?hr ?_; (case hd => rfl); (case hg => rfl); (case hr => first | (go_simp; done) | (go_simp; rfl) | kernel_rfl); intro g0 hg w1 hn hl; have GEg0 := ge_new HS hg; clear hg; replace HS := HS.below hl; have Bg0 := hn; clear hl hn; have kg0_21 : w1.cell? ⟨g0, 21, none⟩ = some (.slice A21 l21.length k21) := (Bg0.cell 21).trans rfl)) | ((go_at_call 8); (with_reducible refine (awake_0 _ (by decide +kernel) (by decide +kernel) (by decide +kernel) (by decide +kernel)).mono ?_); rintro e w2 ⟨rfl, hl⟩; replace Bg0 := Bg0.below hl; replace HS := HS.below hl; clear hl; clear kg0_21; have kg0_21 : w2.cell? ⟨g0, 21, none⟩ = some (.slice A21 l21.length k21) := (Bg0.cell 21).trans rfl))
  all_goals (go_ret; exact ⟨by first | rfl | (simp; done), HS.out⟩)
set_option maxRecDepth 100000 in
set_option maxHeartbeats 4000000 in
theorem ratesE_1 (c0 c1 c2 c3 c4 c5 c6 c7 c8 c9 c10 c11 c12 c13 c14 c16 c17 c18 c19 c20 c22 c23 c24 c25 c26 c27 c28 c29 c30 c31 c32 c33 c34 c35 c36 c37 c39 c40 sm more : Int) (c15 c38 : Bool) (A21 : Option Addr) (k21 : Nat)  (w : World) (l21 : List S90) (hr21 : Kd.C k90 w A21 l21.length l21) (hc21 : l21.length ≤ k21) (hw21 : SWf l21) (h0 : (decide (100 < (l21.length : Int))) = false) (h1 : (sm == 0) = true) :
    Calls Try.prog 4 #[.agg #[.int .i64 c0, .int .u64 c1, .int .u64 c2, .int .u64 c3, .int .u64 c4, .int .i64 c5, .int .u64 c6, .int .u64 c7, .int .u64 c8, .int .u64 c9, .int .u64 c10, .int .u64 c11, .int .u64 c12, .int .u64 c13, .int .u64 c14, .bool c15, .int .u64 c16, .int .u64 c17, .int .u64 c18, .int .u64 c19, .int .i64 c20, .slice A21 l21.length k21, .int .u64 c22, .int .u64 c23, .int .u64 c24, .int .u64 c25, .int .u64 c26, .int .u64 c27, .int .u64 c28, .int .u64 c29, .int .u64 c30, .int .u64 c31, .int .u64 c32, .int .u64 c33, .int .u64 c34, .int .u64 c35, .int .u64 c36, .int .u64 c37, .bool c38, .int .u64 c39, .int .u64 c40], .int .u64 sm, .int .u64 more] w fun e w' => e = .returned (.bool true) ∧ Below w.heap.size w w' := by
  have hu32 := Try.underlying32
  have hu36 := Try.underlying36
  have m01 : max (0 : Int) 1 = 1 := by decide
  have m11 : max (1 : Int) 1 = 1 := by decide
  have n0 : decide (100 < l21.length) = false := by (have := h0; simp at this ⊢; omega)
  have HS := Since.refl w
  go_enter Try.func4, Try.ntmps4
  go_wp2_with (first | ((with_reducible refine gate_dst (N := 3) rfl ?_); go_must (refine seg_new ?hg (N := 3) ?hd (.int .i64 c0 :: .int .u64 c1 :: .int .u64 c2 :: .int .u64 c3 :: .int .u64 c4 :: .int .i64 c5 :: .int .u64 c6 :: .int .u64 c7 :: .int .u64 c8 :: .int .u64 c9 :: .int .u64 c10 :: .int .u64 c11 :: .int .u64 c12 :: .int .u64 c13 :: .int .u64 c14 :: .bool c15 :: .int .u64 c16 :: .int .u64 c17 :: .int .u64 c18 :: .int .u64 c19 :: .int .i64 c20 :: .slice A21 l21.length k21 :: .int .u64 c22 :: .int .u64 c23 :: .int .u64 c24 :: .int .u64 c25 :: .int .u64 c26 :: .int .u64 c27 :: .int .u64 c28 :: .int .u64 c29 :: .int .u64 c30 :: .int .u64 c31 :: .int .u64 c32 :: .int .u64 c33 :: .int .u64 c34 :: .int .u64 c35 :: .int .u64 c36 :: .int .u64 c37 :: .bool c38 :: .int .u64 c39 :: .int .u64 c40 :: []) 36 ?hr ?_; (case hd => rfl); (case hg => rfl); (case hr => first | (go_simp; done) | (go_simp; rfl) | kernel_rfl); intro g0 hg w1 hn hl; have GEg0 := ge_new HS hg; clear hg; replace HS := HS.below hl; have Bg0 := hn; clear hl hn; have kg0_21 : w1.cell? ⟨g0, 21, none⟩ = some (.slice A21 l21.length k21) := (Bg0.cell 21).trans rfl)) | ((go_at_call 8); (with_reducible refine (awake_0 _ (by decide +kernel) (by decide +kernel) (by decide +kernel) (by decide +kernel)).mono ?_); rintro e w2 ⟨rfl, hl⟩; replace Bg0 := Bg0.below hl; replace HS := HS.below hl; clear hl; clear kg0_21; have kg0_21 : w2.cell? ⟨g0, 21, none⟩ = some (.slice A21 l21.length k21) := (Bg0.cell 21).trans rfl))
  all_goals (go_ret; exact ⟨by first | rfl | (simp; done), HS.out⟩)
set_option maxRecDepth 100000 in
set_option maxHeartbeats 4000000 in
theorem ratesE_2 (c0 c1 c2 c3 c4 c5 c6 c7 c8 c9 c10 c11 c12 c13 c14 c16 c17 c18 c19 c20 c22 c23 c24 c25 c26 c27 c28 c29 c30 c31 c32 c33 c34 c35 c36 c37 c39 c40 sm more : Int) (c15 c38 : Bool) (A21 : Option Addr) (k21 : Nat)  (w : World) (l21 : List S90) (hr21 : Kd.C k90 w A21 l21.length l21) (hc21 : l21.length ≤ k21) (hw21 : SWf l21) (h0 : (decide (100 < (l21.length : Int))) = false) (h1 : (sm == 0) = false) (h2 : (decide (more < sm)) = true) :
    Calls Try.prog 4 #[.agg #[.int .i64 c0, .int .u64 c1, .int .u64 c2, .int .u64 c3, .int .u64 c4, .int .i64 c5, .int .u64 c6, .int .u64 c7, .int .u64 c8, .int .u64 c9, .int .u64 c10, .int .u64 c11, .int .u64 c12, .int .u64 c13, .int .u64 c14, .bool c15, .int .u64 c16, .int .u64 c17, .int .u64 c18, .int .u64 c19, .int .i64 c20, .slice A21 l21.length k21, .int .u64 c22, .int .u64 c23, .int .u64 c24, .int .u64 c25, .int .u64 c26, .int .u64 c27, .int .u64 c28, .int .u64 c29, .int .u64 c30, .int .u64 c31, .int .u64 c32, .int .u64 c33, .int .u64 c34, .int .u64 c35, .int .u64 c36, .int .u64 c37, .bool c38, .int .u64 c39, .int .u64 c40], .int .u64 sm, .int .u64 more] w fun e w' => e = .returned (.bool true) ∧ Below w.heap.size w w' := by
  have hu32 := Try.underlying32
  have hu36 := Try.underlying36
  have m01 : max (0 : Int) 1 = 1 := by decide
  have m11 : max (1 : Int) 1 = 1 := by decide
  have n0 : decide (100 < l21.length) = false := by (have := h0; simp at this ⊢; omega)
  have HS := Since.refl w
  go_enter Try.func4, Try.ntmps4
  go_wp2_with (first | ((with_reducible refine gate_dst (N := 3) rfl ?_); go_must (refine seg_new ?hg (N := 3) ?hd (.int .i64 c0 :: .int .u64 c1 :: .int .u64 c2 :: .int .u64 c3 :: .int .u64 c4 :: .int .i64 c5 :: .int .u64 c6 :: .int .u64 c7 :: .int .u64 c8 :: .int .u64 c9 :: .int .u64 c10 :: .int .u64 c11 :: .int .u64 c12 :: .int .u64 c13 :: .int .u64 c14 :: .bool c15 :: .int .u64 c16 :: .int .u64 c17 :: .int .u64 c18 :: .int .u64 c19 :: .int .i64 c20 :: .slice A21 l21.length k21 :: .int .u64 c22 :: .int .u64 c23 :: .int .u64 c24 :: .int .u64 c25 :: .int .u64 c26 :: .int .u64 c27 :: .int .u64 c28 :: .int .u64 c29 :: .int .u64 c30 :: .int .u64 c31 :: .int .u64 c32 :: .int .u64 c33 :: .int .u64 c34 :: .int .u64 c35 :: .int .u64 c36 :: .int .u64 c37 :: .bool c38 :: .int .u64 c39 :: .int .u64 c40 :: []) 36 ?hr ?_; (case hd => rfl); (case hg => rfl); (case hr => first | (go_simp; done) | (go_simp; rfl) | kernel_rfl); intro g0 hg w1 hn hl; have GEg0 := ge_new HS hg; clear hg; replace HS := HS.below hl; have Bg0 := hn; clear hl hn; have kg0_21 : w1.cell? ⟨g0, 21, none⟩ = some (.slice A21 l21.length k21) := (Bg0.cell 21).trans rfl)) | ((go_at_call 8); (with_reducible refine (awake_0 _ (by decide +kernel) (by decide +kernel) (by decide +kernel) (by decide +kernel)).mono ?_); rintro e w2 ⟨rfl, hl⟩; replace Bg0 := Bg0.below hl; replace HS := HS.below hl; clear hl; clear kg0_21; have kg0_21 : w2.cell? ⟨g0, 21, none⟩ = some (.slice A21 l21.length k21) := (Bg0.cell 21).trans rfl))
  all_goals (go_ret; exact ⟨by first | rfl | (simp; done), HS.out⟩)
set_option maxRecDepth 100000 in
set_option maxHeartbeats 4000000 in
theorem rates1_0 (c1 c2 c3 c4 c5 c6 c7 c8 c9 c10 c11 c12 c13 c14 c16 c17 c18 c19 c20 c22 c23 c24 c25 c26 c27 c28 c29 c30 c31 c32 c33 c34 c35 c36 c37 c39 c40 sm more : Int) (c15 c38 : Bool) (A21 : Option Addr) (k21 : Nat) (Wc1 : W64 c1) (Wsm : W64 sm) (Wmore : W64 more) (w : World) (l21 : List S90) (hr21 : Kd.C k90 w A21 l21.length l21) (hc21 : l21.length ≤ k21) (hw21 : SWf l21) (h0 : (decide (100 < (l21.length : Int))) = false) (h1 : (sm == 0) = false) (h2 : (decide (more < sm)) = false) (h3 : (decide (uMulDiv c1 1250 (max more 1) ≤ uMulDiv c1 1250 (max sm 1))) = true) :
    Calls Try.prog 4 #[.agg #[.int .i64 1, .int .u64 c1, .int .u64 c2, .int .u64 c3, .int .u64 c4, .int .i64 c5, .int .u64 c6, .int .u64 c7, .int .u64 c8, .int .u64 c9, .int .u64 c10, .int .u64 c11, .int .u64 c12, .int .u64 c13, .int .u64 c14, .bool c15, .int .u64 c16, .int .u64 c17, .int .u64 c18, .int .u64 c19, .int .i64 c20, .slice A21 l21.length k21, .int .u64 c22, .int .u64 c23, .int .u64 c24, .int .u64 c25, .int .u64 c26, .int .u64 c27, .int .u64 c28, .int .u64 c29, .int .u64 c30, .int .u64 c31, .int .u64 c32, .int .u64 c33, .int .u64 c34, .int .u64 c35, .int .u64 c36, .int .u64 c37, .bool c38, .int .u64 c39, .int .u64 c40], .int .u64 sm, .int .u64 more] w fun e w' => e = .returned (.bool true) ∧ Below w.heap.size w w' := by
  have hu32 := Try.underlying32
  have hu36 := Try.underlying36
  have m01 : max (0 : Int) 1 = 1 := by decide
  have m11 : max (1 : Int) 1 = 1 := by decide
  have n0 : decide (100 < l21.length) = false := by (have := h0; simp at this ⊢; omega)
  have HS := Since.refl w
  go_enter Try.func4, Try.ntmps4
  go_wp2_with (first | ((with_reducible refine gate_dst (N := 3) rfl ?_); go_must (refine seg_new ?hg (N := 3) ?hd (.int .i64 1 :: .int .u64 c1 :: .int .u64 c2 :: .int .u64 c3 :: .int .u64 c4 :: .int .i64 c5 :: .int .u64 c6 :: .int .u64 c7 :: .int .u64 c8 :: .int .u64 c9 :: .int .u64 c10 :: .int .u64 c11 :: .int .u64 c12 :: .int .u64 c13 :: .int .u64 c14 :: .bool c15 :: .int .u64 c16 :: .int .u64 c17 :: .int .u64 c18 :: .int .u64 c19 :: .int .i64 c20 :: .slice A21 l21.length k21 :: .int .u64 c22 :: .int .u64 c23 :: .int .u64 c24 :: .int .u64 c25 :: .int .u64 c26 :: .int .u64 c27 :: .int .u64 c28 :: .int .u64 c29 :: .int .u64 c30 :: .int .u64 c31 :: .int .u64 c32 :: .int .u64 c33 :: .int .u64 c34 :: .int .u64 c35 :: .int .u64 c36 :: .int .u64 c37 :: .bool c38 :: .int .u64 c39 :: .int .u64 c40 :: []) 36 ?hr ?_; (case hd => rfl); (case hg => rfl); (case hr => first | (go_simp; done) | (go_simp; rfl) | kernel_rfl); intro g0 hg w1 hn hl; have GEg0 := ge_new HS hg; clear hg; replace HS := HS.below hl; have Bg0 := hn; clear hl hn; have kg0_21 : w1.cell? ⟨g0, 21, none⟩ = some (.slice A21 l21.length k21) := (Bg0.cell 21).trans rfl)) | ((go_at_call 8); (with_reducible refine (awake_0 _ (by decide +kernel) (by decide +kernel) (by decide +kernel) (by decide +kernel)).mono ?_); rintro e w2 ⟨rfl, hl⟩; replace Bg0 := Bg0.below hl; replace HS := HS.below hl; clear hl; clear kg0_21; have kg0_21 : w2.cell? ⟨g0, 21, none⟩ = some (.slice A21 l21.length k21) := (Bg0.cell 21).trans rfl) | ((with_reducible refine gate_dst (N := 26) rfl ?_); go_must (refine seg_load ?hg (N := 26) ?hd 36 (.tmp 3) ?ho g0 0 (.int .i64 1 :: .int .u64 c1 :: .int .u64 c2 :: .int .u64 c3 :: .int .u64 c4 :: .int .i64 c5 :: .int .u64 c6 :: .int .u64 c7 :: .int .u64 c8 :: .int .u64 c9 :: .int .u64 c10 :: .int .u64 c11 :: .int .u64 c12 :: .int .u64 c13 :: .int .u64 c14 :: .bool c15 :: .int .u64 c16 :: .int .u64 c17 :: .int .u64 c18 :: .int .u64 c19 :: .int .i64 c20 :: .slice A21 l21.length k21 :: .int .u64 c22 :: .int .u64 c23 :: .int .u64 c24 :: .int .u64 c25 :: .int .u64 c26 :: .int .u64 c27 :: .int .u64 c28 :: .int .u64 c29 :: .int .u64 c30 :: .int .u64 c31 :: .int .u64 c32 :: .int .u64 c33 :: .int .u64 c34 :: .int .u64 c35 :: .int .u64 c36 :: .int .u64 c37 :: .bool c38 :: .int .u64 c39 :: .int .u64 c40 :: []) ?hx Bg0 ?hs Try.underlying36 ?ht ?hi ?_; (case hg => rfl); (case hd => rfl); (case ho => rfl); (case hx => first | rfl | (go_simp; done) | (go_simp; rfl)); (case hs => rfl); (case ht => rfl); (case hi => kernel_rfl))) | ((go_at_call 9); (with_reducible refine (rate1_0 c1 c2 c3 c4 c5 c6 c7 c8 c9 c10 c11 c12 c13 c14 c16 c17 c18 c19 c20 c22 c23 c24 c25 c26 c27 c28 c29 c30 c31 c32 c33 c34 c35 c36 c37 c39 c40 sm c15 c38 A21 l21.length k21 Wc1 Wsm _).mono ?_); rintro e w3 ⟨rfl, hl⟩; replace Bg0 := Bg0.below hl; replace HS := HS.below hl; clear hl; clear kg0_21; have kg0_21 : w3.cell? ⟨g0, 21, none⟩ = some (.slice A21 l21.length k21) := (Bg0.cell 21).trans rfl) | ((with_reducible refine gate_dst (N := 29) rfl ?_); go_must (refine seg_load ?hg (N := 29) ?hd 36 (.tmp 3) ?ho g0 0 (.int .i64 1 :: .int .u64 c1 :: .int .u64 c2 :: .int .u64 c3 :: .int .u64 c4 :: .int .i64 c5 :: .int .u64 c6 :: .int .u64 c7 :: .int .u64 c8 :: .int .u64 c9 :: .int .u64 c10 :: .int .u64 c11 :: .int .u64 c12 :: .int .u64 c13 :: .int .u64 c14 :: .bool c15 :: .int .u64 c16 :: .int .u64 c17 :: .int .u64 c18 :: .int .u64 c19 :: .int .i64 c20 :: .slice A21 l21.length k21 :: .int .u64 c22 :: .int .u64 c23 :: .int .u64 c24 :: .int .u64 c25 :: .int .u64 c26 :: .int .u64 c27 :: .int .u64 c28 :: .int .u64 c29 :: .int .u64 c30 :: .int .u64 c31 :: .int .u64 c32 :: .int .u64 c33 :: .int .u64 c34 :: .int .u64 c35 :: .int .u64 c36 :: .int .u64 c37 :: .bool c38 :: .int .u64 c39 :: .int .u64 c40 :: []) ?hx Bg0 ?hs Try.underlying36 ?ht ?hi ?_; (case hg => rfl); (case hd => rfl); (case ho => rfl); (case hx => first | rfl | (go_simp; done) | (go_simp; rfl)); (case hs => rfl); (case ht => rfl); (case hi => kernel_rfl))) | ((go_at_call 9); (with_reducible refine (rate1_0 c1 c2 c3 c4 c5 c6 c7 c8 c9 c10 c11 c12 c13 c14 c16 c17 c18 c19 c20 c22 c23 c24 c25 c26 c27 c28 c29 c30 c31 c32 c33 c34 c35 c36 c37 c39 c40 more c15 c38 A21 l21.length k21 Wc1 Wmore _).mono ?_); rintro e w4 ⟨rfl, hl⟩; replace Bg0 := Bg0.below hl; replace HS := HS.below hl; clear hl; clear kg0_21; have kg0_21 : w4.cell? ⟨g0, 21, none⟩ = some (.slice A21 l21.length k21) := (Bg0.cell 21).trans rfl))
  refine start_ (n := 14) (S := fun w' => Blk w' g0 36 (.int .i64 1 :: .int .u64 c1 :: .int .u64 c2 :: .int .u64 c3 :: .int .u64 c4 :: .int .i64 c5 :: .int .u64 c6 :: .int .u64 c7 :: .int .u64 c8 :: .int .u64 c9 :: .int .u64 c10 :: .int .u64 c11 :: .int .u64 c12 :: .int .u64 c13 :: .int .u64 c14 :: .bool c15 :: .int .u64 c16 :: .int .u64 c17 :: .int .u64 c18 :: .int .u64 c19 :: .int .i64 c20 :: .slice A21 l21.length k21 :: .int .u64 c22 :: .int .u64 c23 :: .int .u64 c24 :: .int .u64 c25 :: .int .u64 c26 :: .int .u64 c27 :: .int .u64 c28 :: .int .u64 c29 :: .int .u64 c30 :: .int .u64 c31 :: .int .u64 c32 :: .int .u64 c33 :: .int .u64 c34 :: .int .u64 c35 :: .int .u64 c36 :: .int .u64 c37 :: .bool c38 :: .int .u64 c39 :: .int .u64 c40 :: [])) (ds := []) #[false, false, false, false, false, false, false, false, false, false, false, false, false, false] (by kernel_rfl) rfl rfl Bg0.drew (fun hHeld => ?_)
  generalize hWd : World.drew w4 = w5 at hHeld ⊢
  have hl : Below w4.heap.size w4 w5 := (by rw [← hWd]; exact below_drew1 (Below.refl _ _))
  clear hWd
  replace Bg0 := Bg0.below hl; replace HS := HS.below hl; clear hl; clear kg0_21; have kg0_21 : w5.cell? ⟨g0, 21, none⟩ = some (.slice A21 l21.length k21) := (Bg0.cell 21).trans rfl
  refine pure_ (i := 0) (N := some 32) (v := ?_) (a' := ?_) #[true, false, false, false, false, false, false, false, false, false, false, false, false, false] rfl rfl (by kernel_rfl) (fun _ _ _ h => h) (Or.inl ⟨by rfl, ?_⟩) ?_ ?_
  rotate_left
  · intro w'
    go_simp
    with_reducible rfl
  rotate_left
  · simp only [Act.put, List.setIfInBounds_toArray, List.set_cons_zero, List.set_cons_succ, i64_w, i32_w]
    rfl
  refine pure_ (i := 1) (N := some 33) (v := ?_) (a' := ?_) #[true, true, false, false, false, false, false, false, false, false, false, false, false, false] rfl rfl (by kernel_rfl) (fun _ _ _ h => h) (Or.inl ⟨by rfl, ?_⟩) ?_ ?_
  rotate_left
  · intro w'
    go_simp
    with_reducible rfl
  rotate_left
  · simp only [Act.put, List.setIfInBounds_toArray, List.set_cons_zero, List.set_cons_succ, i64_w, i32_w]
    rfl
  refine pure_ (i := 2) (N := some 34) (v := ?_) (a' := ?_) #[true, true, true, false, false, false, false, false, false, false, false, false, false, false] rfl rfl (by kernel_rfl) (fun _ _ _ h => h) (Or.inl ⟨by rfl, ?_⟩) ?_ ?_
  rotate_left
  · intro w'
    go_simp
    with_reducible rfl
  rotate_left
  · simp only [Act.put, List.setIfInBounds_toArray, List.set_cons_zero, List.set_cons_succ, i64_w, i32_w]
    rfl
  refine pure_ (i := 3) (N := some 35) (v := ?_) (a' := ?_) #[true, true, true, true, false, false, false, false, false, false, false, false, false, false] rfl rfl (by kernel_rfl) (fun _ _ _ h => h) (Or.inl ⟨by rfl, ?_⟩) ?_ ?_
  rotate_left
  · intro w'
    go_simp
    with_reducible rfl
  rotate_left
  · simp only [Act.put, List.setIfInBounds_toArray, List.set_cons_zero, List.set_cons_succ, i64_w, i32_w]
    rfl
  refine pure_ (i := 4) (N := some 36) (v := ?_) (a' := ?_) #[true, true, true, true, true, false, false, false, false, false, false, false, false, false] rfl rfl (by kernel_rfl) (fun _ _ _ h => h) (Or.inl ⟨by rfl, ?_⟩) ?_ ?_
  rotate_left
  · intro w'
    go_simp
    with_reducible rfl
  rotate_left
  · simp only [Act.put, List.setIfInBounds_toArray, List.set_cons_zero, List.set_cons_succ, i64_w, i32_w]
    rfl
  refine pure_ (i := 5) (N := some 37) (v := ?_) (a' := ?_) #[true, true, true, true, true, true, false, false, false, false, false, false, false, false] rfl rfl (by kernel_rfl) (fun _ _ _ h => h) (Or.inl ⟨by rfl, ?_⟩) ?_ ?_
  rotate_left
  · intro w'
    go_simp
    with_reducible rfl
  rotate_left
  · simp only [Act.put, List.setIfInBounds_toArray, List.set_cons_zero, List.set_cons_succ, i64_w, i32_w]
    rfl
  refine pure_ (i := 6) (N := some 38) (v := ?_) (a' := ?_) #[true, true, true, true, true, true, true, false, false, false, false, false, false, false] rfl rfl (by kernel_rfl) (fun _ _ _ h => h) (Or.inl ⟨by rfl, ?_⟩) ?_ ?_
  rotate_left
  · intro w'
    go_simp
    with_reducible rfl
  rotate_left
  · simp only [Act.put, List.setIfInBounds_toArray, List.set_cons_zero, List.set_cons_succ, i64_w, i32_w]
    rfl
  refine take_ (i := 7) (N := some 39) (v := .agg #[.int .i64 1, .int .u64 c1, .int .u64 c2, .int .u64 c3, .int .u64 c4, .int .i64 c5, .int .u64 c6, .int .u64 c7, .int .u64 c8, .int .u64 c9, .int .u64 c10, .int .u64 c11, .int .u64 c12, .int .u64 c13, .int .u64 c14, .bool c15, .int .u64 c16, .int .u64 c17, .int .u64 c18, .int .u64 c19, .int .i64 c20, .slice A21 l21.length k21, .int .u64 c22, .int .u64 c23, .int .u64 c24, .int .u64 c25, .int .u64 c26, .int .u64 c27, .int .u64 c28, .int .u64 c29, .int .u64 c30, .int .u64 c31, .int .u64 c32, .int .u64 c33, .int .u64 c34, .int .u64 c35, .int .u64 c36, .int .u64 c37, .bool c38, .int .u64 c39, .int .u64 c40]) (a' := ?_) #[true, true, true, true, true, true, true, true, false, false, false, false, false, false] rfl rfl (by kernel_rfl) (fun _ _ _ h => h) (Or.inl ⟨by rfl, ?_⟩) hHeld ?_ ?_
  · intro w' s0
    exact exec_seg_load 36 (.tmp 3) (by rfl) g0 0 (.int .i64 1 :: .int .u64 c1 :: .int .u64 c2 :: .int .u64 c3 :: .int .u64 c4 :: .int .i64 c5 :: .int .u64 c6 :: .int .u64 c7 :: .int .u64 c8 :: .int .u64 c9 :: .int .u64 c10 :: .int .u64 c11 :: .int .u64 c12 :: .int .u64 c13 :: .int .u64 c14 :: .bool c15 :: .int .u64 c16 :: .int .u64 c17 :: .int .u64 c18 :: .int .u64 c19 :: .int .i64 c20 :: .slice A21 l21.length k21 :: .int .u64 c22 :: .int .u64 c23 :: .int .u64 c24 :: .int .u64 c25 :: .int .u64 c26 :: .int .u64 c27 :: .int .u64 c28 :: .int .u64 c29 :: .int .u64 c30 :: .int .u64 c31 :: .int .u64 c32 :: .int .u64 c33 :: .int .u64 c34 :: .int .u64 c35 :: .int .u64 c36 :: .int .u64 c37 :: .bool c38 :: .int .u64 c39 :: .int .u64 c40 :: []) (by rfl) s0 (by rfl) Try.underlying36 (by rfl) (by kernel_rfl)
  rotate_left
  · simp only [Act.put, List.setIfInBounds_toArray, List.set_cons_zero, List.set_cons_succ, i64_w, i32_w]
    rfl
  refine take_ (i := 9) (N := some 41) (v := .agg #[.int .i64 1, .int .u64 c1, .int .u64 c2, .int .u64 c3, .int .u64 c4, .int .i64 c5, .int .u64 c6, .int .u64 c7, .int .u64 c8, .int .u64 c9, .int .u64 c10, .int .u64 c11, .int .u64 c12, .int .u64 c13, .int .u64 c14, .bool c15, .int .u64 c16, .int .u64 c17, .int .u64 c18, .int .u64 c19, .int .i64 c20, .slice A21 l21.length k21, .int .u64 c22, .int .u64 c23, .int .u64 c24, .int .u64 c25, .int .u64 c26, .int .u64 c27, .int .u64 c28, .int .u64 c29, .int .u64 c30, .int .u64 c31, .int .u64 c32, .int .u64 c33, .int .u64 c34, .int .u64 c35, .int .u64 c36, .int .u64 c37, .bool c38, .int .u64 c39, .int .u64 c40]) (a' := ?_) #[true, true, true, true, true, true, true, true, false, true, false, false, false, false] rfl rfl (by kernel_rfl) (fun _ _ _ h => h) (Or.inl ⟨by rfl, ?_⟩) hHeld ?_ ?_
  · intro w' s0
    exact exec_seg_load 36 (.tmp 3) (by rfl) g0 0 (.int .i64 1 :: .int .u64 c1 :: .int .u64 c2 :: .int .u64 c3 :: .int .u64 c4 :: .int .i64 c5 :: .int .u64 c6 :: .int .u64 c7 :: .int .u64 c8 :: .int .u64 c9 :: .int .u64 c10 :: .int .u64 c11 :: .int .u64 c12 :: .int .u64 c13 :: .int .u64 c14 :: .bool c15 :: .int .u64 c16 :: .int .u64 c17 :: .int .u64 c18 :: .int .u64 c19 :: .int .i64 c20 :: .slice A21 l21.length k21 :: .int .u64 c22 :: .int .u64 c23 :: .int .u64 c24 :: .int .u64 c25 :: .int .u64 c26 :: .int .u64 c27 :: .int .u64 c28 :: .int .u64 c29 :: .int .u64 c30 :: .int .u64 c31 :: .int .u64 c32 :: .int .u64 c33 :: .int .u64 c34 :: .int .u64 c35 :: .int .u64 c36 :: .int .u64 c37 :: .bool c38 :: .int .u64 c39 :: .int .u64 c40 :: []) (by rfl) s0 (by rfl) Try.underlying36 (by rfl) (by kernel_rfl)
  rotate_left
  · simp only [Act.put, List.setIfInBounds_toArray, List.set_cons_zero, List.set_cons_succ, i64_w, i32_w]
    rfl
  refine one_ (i := 8) (N := some 40) #[true, true, true, true, true, true, true, true, true, true, false, false, false, false] rfl rfl (by kernel_rfl) (by decide) (fun K hK => ?_)
  refine goes_ Try.func9 (by kernel_rfl) rfl #[.agg #[.int .i64 1, .int .u64 c1, .int .u64 c2, .int .u64 c3, .int .u64 c4, .int .i64 c5, .int .u64 c6, .int .u64 c7, .int .u64 c8, .int .u64 c9, .int .u64 c10, .int .u64 c11, .int .u64 c12, .int .u64 c13, .int .u64 c14, .bool c15, .int .u64 c16, .int .u64 c17, .int .u64 c18, .int .u64 c19, .int .i64 c20, .slice A21 l21.length k21, .int .u64 c22, .int .u64 c23, .int .u64 c24, .int .u64 c25, .int .u64 c26, .int .u64 c27, .int .u64 c28, .int .u64 c29, .int .u64 c30, .int .u64 c31, .int .u64 c32, .int .u64 c33, .int .u64 c34, .int .u64 c35, .int .u64 c36, .int .u64 c37, .bool c38, .int .u64 c39, .int .u64 c40], .int .u64 0] (by rfl) rfl rfl (by simp only [List.map_toArray, List.map_cons, List.map_nil]; rfl) ?_
  with_reducible refine (rate1_0 c1 c2 c3 c4 c5 c6 c7 c8 c9 c10 c11 c12 c13 c14 c16 c17 c18 c19 c20 c22 c23 c24 c25 c26 c27 c28 c29 c30 c31 c32 c33 c34 c35 c36 c37 c39 c40 0 c15 c38 A21 l21.length k21 Wc1 (by decide) _).mono ?_
  rintro e w6 ⟨rfl, hl⟩
  refine ⟨_, rfl, ?_⟩
  replace Bg0 := Bg0.below hl; replace HS := HS.below hl; clear hl; clear kg0_21; have kg0_21 : w6.cell? ⟨g0, 21, none⟩ = some (.slice A21 l21.length k21) := (Bg0.cell 21).trans rfl
  refine hK.out _ _ Bg0 (fun hHeld => ?_)
  clear hK K
  refine norm_ (a' := ?_) ?_ ?_
  rotate_left
  · show Act.put _ (some 40) _ = _
    simp only [Act.put, List.setIfInBounds_toArray, List.set_cons_zero, List.set_cons_succ, i64_w, i32_w]
    rfl
  refine one_ (i := 10) (N := some 42) #[true, true, true, true, true, true, true, true, true, true, true, false, false, false] rfl rfl (by kernel_rfl) (by decide) (fun K hK => ?_)
  refine goes_ Try.func9 (by kernel_rfl) rfl #[.agg #[.int .i64 1, .int .u64 c1, .int .u64 c2, .int .u64 c3, .int .u64 c4, .int .i64 c5, .int .u64 c6, .int .u64 c7, .int .u64 c8, .int .u64 c9, .int .u64 c10, .int .u64 c11, .int .u64 c12, .int .u64 c13, .int .u64 c14, .bool c15, .int .u64 c16, .int .u64 c17, .int .u64 c18, .int .u64 c19, .int .i64 c20, .slice A21 l21.length k21, .int .u64 c22, .int .u64 c23, .int .u64 c24, .int .u64 c25, .int .u64 c26, .int .u64 c27, .int .u64 c28, .int .u64 c29, .int .u64 c30, .int .u64 c31, .int .u64 c32, .int .u64 c33, .int .u64 c34, .int .u64 c35, .int .u64 c36, .int .u64 c37, .bool c38, .int .u64 c39, .int .u64 c40], .int .u64 1] (by rfl) rfl rfl (by simp only [List.map_toArray, List.map_cons, List.map_nil]; rfl) ?_
  with_reducible refine (rate1_0 c1 c2 c3 c4 c5 c6 c7 c8 c9 c10 c11 c12 c13 c14 c16 c17 c18 c19 c20 c22 c23 c24 c25 c26 c27 c28 c29 c30 c31 c32 c33 c34 c35 c36 c37 c39 c40 1 c15 c38 A21 l21.length k21 Wc1 (by decide) _).mono ?_
  rintro e w7 ⟨rfl, hl⟩
  refine ⟨_, rfl, ?_⟩
  replace Bg0 := Bg0.below hl; replace HS := HS.below hl; clear hl; clear kg0_21; have kg0_21 : w7.cell? ⟨g0, 21, none⟩ = some (.slice A21 l21.length k21) := (Bg0.cell 21).trans rfl
  refine hK.out _ _ Bg0 (fun hHeld => ?_)
  clear hK K
  refine norm_ (a' := ?_) ?_ ?_
  rotate_left
  · show Act.put _ (some 42) _ = _
    simp only [Act.put, List.setIfInBounds_toArray, List.set_cons_zero, List.set_cons_succ, i64_w, i32_w]
    rfl
  refine pure_ (i := 11) (N := some 43) (v := ?_) (a' := ?_) #[true, true, true, true, true, true, true, true, true, true, true, true, false, false] rfl rfl (by kernel_rfl) (fun _ _ _ h => h) (Or.inl ⟨by rfl, ?_⟩) ?_ ?_
  rotate_left
  · intro w'
    go_simp
    with_reducible rfl
  rotate_left
  · simp only [Act.put, List.setIfInBounds_toArray, List.set_cons_zero, List.set_cons_succ, i64_w, i32_w]
    rfl
  refine pure_ (i := 12) (N := some 44) (v := ?_) (a' := ?_) #[true, true, true, true, true, true, true, true, true, true, true, true, true, false] rfl rfl (by kernel_rfl) (fun _ _ _ h => h) (Or.inl ⟨by rfl, ?_⟩) ?_ ?_
  rotate_left
  · intro w'
    go_simp
    with_reducible rfl
  rotate_left
  · simp only [Act.put, List.setIfInBounds_toArray, List.set_cons_zero, List.set_cons_succ, i64_w, i32_w]
    rfl
  refine pure_ (i := 13) (N := some 6) (v := ?_) (a' := ?_) #[true, true, true, true, true, true, true, true, true, true, true, true, true, true] rfl rfl (by kernel_rfl) (fun _ _ _ h => h) (Or.inl ⟨by rfl, ?_⟩) ?_ ?_
  rotate_left
  · intro w'
    go_simp
    with_reducible rfl
  rotate_left
  · simp only [Act.put, List.setIfInBounds_toArray, List.set_cons_zero, List.set_cons_succ, i64_w, i32_w]
    rfl
  refine done_ (by kernel_rfl) ?_
  refine letter ?_
  intro w8 hW
  have Bn_ : Blk w8 g0 36 (.int .i64 1 :: .int .u64 c1 :: .int .u64 c2 :: .int .u64 c3 :: .int .u64 c4 :: .int .i64 c5 :: .int .u64 c6 :: .int .u64 c7 :: .int .u64 c8 :: .int .u64 c9 :: .int .u64 c10 :: .int .u64 c11 :: .int .u64 c12 :: .int .u64 c13 :: .int .u64 c14 :: .bool c15 :: .int .u64 c16 :: .int .u64 c17 :: .int .u64 c18 :: .int .u64 c19 :: .int .i64 c20 :: .slice A21 l21.length k21 :: .int .u64 c22 :: .int .u64 c23 :: .int .u64 c24 :: .int .u64 c25 :: .int .u64 c26 :: .int .u64 c27 :: .int .u64 c28 :: .int .u64 c29 :: .int .u64 c30 :: .int .u64 c31 :: .int .u64 c32 :: .int .u64 c33 :: .int .u64 c34 :: .int .u64 c35 :: .int .u64 c36 :: .int .u64 c37 :: .bool c38 :: .int .u64 c39 :: .int .u64 c40 :: []) := (by rw [hW]; (repeat (first | (with_reducible refine Blk.drewN ?_ _) | (with_reducible refine Blk.drew ?_))); exact Bg0)
  replace Bg0 := Bn_
  clear Bn_
  have HS_ : Since w w8 := (by rw [hW]; repeat (first | (with_reducible exact HS) | (with_reducible refine Since.drewN ?_ _) | (with_reducible refine Since.drew ?_)))
  replace HS := HS_
  clear HS_ hW
  clear kg0_21; have kg0_21 : w8.cell? ⟨g0, 21, none⟩ = some (.slice A21 l21.length k21) := (Bg0.cell 21).trans rfl
  go_wp2
  all_goals (go_ret; exact ⟨by first | rfl | (simp; done), HS.out⟩)
set_option maxRecDepth 100000 in
set_option maxHeartbeats 4000000 in
theorem rates2_0 (c1 c2 c3 c4 c5 c6 c7 c8 c9 c10 c11 c12 c13 c14 c16 c17 c18 c19 c20 c22 c23 c24 c25 c26 c27 c28 c29 c30 c31 c32 c33 c34 c35 c36 c37 c39 c40 sm more : Int) (c15 c38 : Bool) (A21 : Option Addr) (k21 : Nat) (Wc12 : W64 c12) (Wsm : W64 sm) (Wmore : W64 more) (w : World) (l21 : List S90) (hr21 : Kd.C k90 w A21 l21.length l21) (hc21 : l21.length ≤ k21) (hw21 : SWf l21) (h0 : (decide (100 < (l21.length : Int))) = false) (h1 : (sm == 0) = false) (h2 : (decide (more < sm)) = false) (h3 : (decide (uMulDiv c12 1250 (max more 1) ≤ uMulDiv c12 1250 (max sm 1))) = true) :
    Calls Try.prog 4 #[.agg #[.int .i64 2, .int .u64 c1, .int .u64 c2, .int .u64 c3, .int .u64 c4, .int .i64 c5, .int .u64 c6, .int .u64 c7, .int .u64 c8, .int .u64 c9, .int .u64 c10, .int .u64 c11, .int .u64 c12, .int .u64 c13, .int .u64 c14, .bool c15, .int .u64 c16, .int .u64 c17, .int .u64 c18, .int .u64 c19, .int .i64 c20, .slice A21 l21.length k21, .int .u64 c22, .int .u64 c23, .int .u64 c24, .int .u64 c25, .int .u64 c26, .int .u64 c27, .int .u64 c28, .int .u64 c29, .int .u64 c30, .int .u64 c31, .int .u64 c32, .int .u64 c33, .int .u64 c34, .int .u64 c35, .int .u64 c36, .int .u64 c37, .bool c38, .int .u64 c39, .int .u64 c40], .int .u64 sm, .int .u64 more] w fun e w' => e = .returned (.bool true) ∧ Below w.heap.size w w' := by
  have hu32 := Try.underlying32
  have hu36 := Try.underlying36
  have m01 : max (0 : Int) 1 = 1 := by decide
  have m11 : max (1 : Int) 1 = 1 := by decide
  have n0 : decide (100 < l21.length) = false := by (have := h0; simp at this ⊢; omega)
  have HS := Since.refl w
  go_enter Try.func4, Try.ntmps4
  go_wp2_with (first | ((with_reducible refine gate_dst (N := 3) rfl ?_); go_must (refine seg_new ?hg (N := 3) ?hd (.int .i64 2 :: .int .u64 c1 :: .int .u64 c2 :: .int .u64 c3 :: .int .u64 c4 :: .int .i64 c5 :: .int .u64 c6 :: .int .u64 c7 :: .int .u64 c8 :: .int .u64 c9 :: .int .u64 c10 :: .int .u64 c11 :: .int .u64 c12 :: .int .u64 c13 :: .int .u64 c14 :: .bool c15 :: .int .u64 c16 :: .int .u64 c17 :: .int .u64 c18 :: .int .u64 c19 :: .int .i64 c20 :: .slice A21 l21.length k21 :: .int .u64 c22 :: .int .u64 c23 :: .int .u64 c24 :: .int .u64 c25 :: .int .u64 c26 :: .int .u64 c27 :: .int .u64 c28 :: .int .u64 c29 :: .int .u64 c30 :: .int .u64 c31 :: .int .u64 c32 :: .int .u64 c33 :: .int .u64 c34 :: .int .u64 c35 :: .int .u64 c36 :: .int .u64 c37 :: .bool c38 :: .int .u64 c39 :: .int .u64 c40 :: []) 36 ?hr ?_; (case hd => rfl); (case hg => rfl); (case hr => first | (go_simp; done) | (go_simp; rfl) | kernel_rfl); intro g0 hg w1 hn hl; have GEg0 := ge_new HS hg; clear hg; replace HS := HS.below hl; have Bg0 := hn; clear hl hn; have kg0_21 : w1.cell? ⟨g0, 21, none⟩ = some (.slice A21 l21.length k21) := (Bg0.cell 21).trans rfl)) | ((go_at_call 8); (with_reducible refine (awake_0 _ (by decide +kernel) (by decide +kernel) (by decide +kernel) (by decide +kernel)).mono ?_); rintro e w2 ⟨rfl, hl⟩; replace Bg0 := Bg0.below hl; replace HS := HS.below hl; clear hl; clear kg0_21; have kg0_21 : w2.cell? ⟨g0, 21, none⟩ = some (.slice A21 l21.length k21) := (Bg0.cell 21).trans rfl) | ((with_reducible refine gate_dst (N := 26) rfl ?_); go_must (refine seg_load ?hg (N := 26) ?hd 36 (.tmp 3) ?ho g0 0 (.int .i64 2 :: .int .u64 c1 :: .int .u64 c2 :: .int .u64 c3 :: .int .u64 c4 :: .int .i64 c5 :: .int .u64 c6 :: .int .u64 c7 :: .int .u64 c8 :: .int .u64 c9 :: .int .u64 c10 :: .int .u64 c11 :: .int .u64 c12 :: .int .u64 c13 :: .int .u64 c14 :: .bool c15 :: .int .u64 c16 :: .int .u64 c17 :: .int .u64 c18 :: .int .u64 c19 :: .int .i64 c20 :: .slice A21 l21.length k21 :: .int .u64 c22 :: .int .u64 c23 :: .int .u64 c24 :: .int .u64 c25 :: .int .u64 c26 :: .int .u64 c27 :: .int .u64 c28 :: .int .u64 c29 :: .int .u64 c30 :: .int .u64 c31 :: .int .u64 c32 :: .int .u64 c33 :: .int .u64 c34 :: .int .u64 c35 :: .int .u64 c36 :: .int .u64 c37 :: .bool c38 :: .int .u64 c39 :: .int .u64 c40 :: []) ?hx Bg0 ?hs Try.underlying36 ?ht ?hi ?_; (case hg => rfl); (case hd => rfl); (case ho => rfl); (case hx => first | rfl | (go_simp; done) | (go_simp; rfl)); (case hs => rfl); (case ht => rfl); (case hi => kernel_rfl))) | ((go_at_call 9); (with_reducible refine (rate2_0 c1 c2 c3 c4 c5 c6 c7 c8 c9 c10 c11 c12 c13 c14 c16 c17 c18 c19 c20 c22 c23 c24 c25 c26 c27 c28 c29 c30 c31 c32 c33 c34 c35 c36 c37 c39 c40 sm c15 c38 A21 l21.length k21 Wc12 Wsm _).mono ?_); rintro e w3 ⟨rfl, hl⟩; replace Bg0 := Bg0.below hl; replace HS := HS.below hl; clear hl; clear kg0_21; have kg0_21 : w3.cell? ⟨g0, 21, none⟩ = some (.slice A21 l21.length k21) := (Bg0.cell 21).trans rfl) | ((with_reducible refine gate_dst (N := 29) rfl ?_); go_must (refine seg_load ?hg (N := 29) ?hd 36 (.tmp 3) ?ho g0 0 (.int .i64 2 :: .int .u64 c1 :: .int .u64 c2 :: .int .u64 c3 :: .int .u64 c4 :: .int .i64 c5 :: .int .u64 c6 :: .int .u64 c7 :: .int .u64 c8 :: .int .u64 c9 :: .int .u64 c10 :: .int .u64 c11 :: .int .u64 c12 :: .int .u64 c13 :: .int .u64 c14 :: .bool c15 :: .int .u64 c16 :: .int .u64 c17 :: .int .u64 c18 :: .int .u64 c19 :: .int .i64 c20 :: .slice A21 l21.length k21 :: .int .u64 c22 :: .int .u64 c23 :: .int .u64 c24 :: .int .u64 c25 :: .int .u64 c26 :: .int .u64 c27 :: .int .u64 c28 :: .int .u64 c29 :: .int .u64 c30 :: .int .u64 c31 :: .int .u64 c32 :: .int .u64 c33 :: .int .u64 c34 :: .int .u64 c35 :: .int .u64 c36 :: .int .u64 c37 :: .bool c38 :: .int .u64 c39 :: .int .u64 c40 :: []) ?hx Bg0 ?hs Try.underlying36 ?ht ?hi ?_; (case hg => rfl); (case hd => rfl); (case ho => rfl); (case hx => first | rfl | (go_simp; done) | (go_simp; rfl)); (case hs => rfl); (case ht => rfl); (case hi => kernel_rfl))) | ((go_at_call 9); (with_reducible refine (rate2_0 c1 c2 c3 c4 c5 c6 c7 c8 c9 c10 c11 c12 c13 c14 c16 c17 c18 c19 c20 c22 c23 c24 c25 c26 c27 c28 c29 c30 c31 c32 c33 c34 c35 c36 c37 c39 c40 more c15 c38 A21 l21.length k21 Wc12 Wmore _).mono ?_); rintro e w4 ⟨rfl, hl⟩; replace Bg0 := Bg0.below hl; replace HS := HS.below hl; clear hl; clear kg0_21; have kg0_21 : w4.cell? ⟨g0, 21, none⟩ = some (.slice A21 l21.length k21) := (Bg0.cell 21).trans rfl))
  refine start_ (n := 14) (S := fun w' => Blk w' g0 36 (.int .i64 2 :: .int .u64 c1 :: .int .u64 c2 :: .int .u64 c3 :: .int .u64 c4 :: .int .i64 c5 :: .int .u64 c6 :: .int .u64 c7 :: .int .u64 c8 :: .int .u64 c9 :: .int .u64 c10 :: .int .u64 c11 :: .int .u64 c12 :: .int .u64 c13 :: .int .u64 c14 :: .bool c15 :: .int .u64 c16 :: .int .u64 c17 :: .int .u64 c18 :: .int .u64 c19 :: .int .i64 c20 :: .slice A21 l21.length k21 :: .int .u64 c22 :: .int .u64 c23 :: .int .u64 c24 :: .int .u64 c25 :: .int .u64 c26 :: .int .u64 c27 :: .int .u64 c28 :: .int .u64 c29 :: .int .u64 c30 :: .int .u64 c31 :: .int .u64 c32 :: .int .u64 c33 :: .int .u64 c34 :: .int .u64 c35 :: .int .u64 c36 :: .int .u64 c37 :: .bool c38 :: .int .u64 c39 :: .int .u64 c40 :: [])) (ds := []) #[false, false, false, false, false, false, false, false, false, false, false, false, false, false] (by kernel_rfl) rfl rfl Bg0.drew (fun hHeld => ?_)
  generalize hWd : World.drew w4 = w5 at hHeld ⊢
  have hl : Below w4.heap.size w4 w5 := (by rw [← hWd]; exact below_drew1 (Below.refl _ _))
  clear hWd
  replace Bg0 := Bg0.below hl; replace HS := HS.below hl; clear hl; clear kg0_21; have kg0_21 : w5.cell? ⟨g0, 21, none⟩ = some (.slice A21 l21.length k21) := (Bg0.cell 21).trans rfl
  refine pure_ (i := 0) (N := some 32) (v := ?_) (a' := ?_) #[true, false, false, false, false, false, false, false, false, false, false, false, false, false] rfl rfl (by kernel_rfl) (fun _ _ _ h => h) (Or.inl ⟨by rfl, ?_⟩) ?_ ?_
  rotate_left
  · intro w'
    go_simp
    with_reducible rfl
  rotate_left
  · simp only [Act.put, List.setIfInBounds_toArray, List.set_cons_zero, List.set_cons_succ, i64_w, i32_w]
    rfl
  refine pure_ (i := 1) (N := some 33) (v := ?_) (a' := ?_) #[true, true, false, false, false, false, false, false, false, false, false, false, false, false] rfl rfl (by kernel_rfl) (fun _ _ _ h => h) (Or.inl ⟨by rfl, ?_⟩) ?_ ?_
  rotate_left
  · intro w'
    go_simp
    with_reducible rfl
  rotate_left
  · simp only [Act.put, List.setIfInBounds_toArray, List.set_cons_zero, List.set_cons_succ, i64_w, i32_w]
    rfl
  refine pure_ (i := 2) (N := some 34) (v := ?_) (a' := ?_) #[true, true, true, false, false, false, false, false, false, false, false, false, false, false] rfl rfl (by kernel_rfl) (fun _ _ _ h => h) (Or.inl ⟨by rfl, ?_⟩) ?_ ?_
  rotate_left
  · intro w'
    go_simp
    with_reducible rfl
  rotate_left
  · simp only [Act.put, List.setIfInBounds_toArray, List.set_cons_zero, List.set_cons_succ, i64_w, i32_w]
    rfl
  refine pure_ (i := 3) (N := some 35) (v := ?_) (a' := ?_) #[true, true, true, true, false, false, false, false, false, false, false, false, false, false] rfl rfl (by kernel_rfl) (fun _ _ _ h => h) (Or.inl ⟨by rfl, ?_⟩) ?_ ?_
  rotate_left
  · intro w'
    go_simp
    with_reducible rfl
  rotate_left
  · simp only [Act.put, List.setIfInBounds_toArray, List.set_cons_zero, List.set_cons_succ, i64_w, i32_w]
    rfl
  refine pure_ (i := 4) (N := some 36) (v := ?_) (a' := ?_) #[true, true, true, true, true, false, false, false, false, false, false, false, false, false] rfl rfl (by kernel_rfl) (fun _ _ _ h => h) (Or.inl ⟨by rfl, ?_⟩) ?_ ?_
  rotate_left
  · intro w'
    go_simp
    with_reducible rfl
  rotate_left
  · simp only [Act.put, List.setIfInBounds_toArray, List.set_cons_zero, List.set_cons_succ, i64_w, i32_w]
    rfl
  refine pure_ (i := 5) (N := some 37) (v := ?_) (a' := ?_) #[true, true, true, true, true, true, false, false, false, false, false, false, false, false] rfl rfl (by kernel_rfl) (fun _ _ _ h => h) (Or.inl ⟨by rfl, ?_⟩) ?_ ?_
  rotate_left
  · intro w'
    go_simp
    with_reducible rfl
  rotate_left
  · simp only [Act.put, List.setIfInBounds_toArray, List.set_cons_zero, List.set_cons_succ, i64_w, i32_w]
    rfl
  refine pure_ (i := 6) (N := some 38) (v := ?_) (a' := ?_) #[true, true, true, true, true, true, true, false, false, false, false, false, false, false] rfl rfl (by kernel_rfl) (fun _ _ _ h => h) (Or.inl ⟨by rfl, ?_⟩) ?_ ?_
  rotate_left
  · intro w'
    go_simp
    with_reducible rfl
  rotate_left
  · simp only [Act.put, List.setIfInBounds_toArray, List.set_cons_zero, List.set_cons_succ, i64_w, i32_w]
    rfl
  refine take_ (i := 7) (N := some 39) (v := .agg #[.int .i64 2, .int .u64 c1, .int .u64 c2, .int .u64 c3, .int .u64 c4, .int .i64 c5, .int .u64 c6, .int .u64 c7, .int .u64 c8, .int .u64 c9, .int .u64 c10, .int .u64 c11, .int .u64 c12, .int .u64 c13, .int .u64 c14, .bool c15, .int .u64 c16, .int .u64 c17, .int .u64 c18, .int .u64 c19, .int .i64 c20, .slice A21 l21.length k21, .int .u64 c22, .int .u64 c23, .int .u64 c24, .int .u64 c25, .int .u64 c26, .int .u64 c27, .int .u64 c28, .int .u64 c29, .int .u64 c30, .int .u64 c31, .int .u64 c32, .int .u64 c33, .int .u64 c34, .int .u64 c35, .int .u64 c36, .int .u64 c37, .bool c38, .int .u64 c39, .int .u64 c40]) (a' := ?_) #[true, true, true, true, true, true, true, true, false, false, false, false, false, false] rfl rfl (by kernel_rfl) (fun _ _ _ h => h) (Or.inl ⟨by rfl, ?_⟩) hHeld ?_ ?_
  · intro w' s0
    exact exec_seg_load 36 (.tmp 3) (by rfl) g0 0 (.int .i64 2 :: .int .u64 c1 :: .int .u64 c2 :: .int .u64 c3 :: .int .u64 c4 :: .int .i64 c5 :: .int .u64 c6 :: .int .u64 c7 :: .int .u64 c8 :: .int .u64 c9 :: .int .u64 c10 :: .int .u64 c11 :: .int .u64 c12 :: .int .u64 c13 :: .int .u64 c14 :: .bool c15 :: .int .u64 c16 :: .int .u64 c17 :: .int .u64 c18 :: .int .u64 c19 :: .int .i64 c20 :: .slice A21 l21.length k21 :: .int .u64 c22 :: .int .u64 c23 :: .int .u64 c24 :: .int .u64 c25 :: .int .u64 c26 :: .int .u64 c27 :: .int .u64 c28 :: .int .u64 c29 :: .int .u64 c30 :: .int .u64 c31 :: .int .u64 c32 :: .int .u64 c33 :: .int .u64 c34 :: .int .u64 c35 :: .int .u64 c36 :: .int .u64 c37 :: .bool c38 :: .int .u64 c39 :: .int .u64 c40 :: []) (by rfl) s0 (by rfl) Try.underlying36 (by rfl) (by kernel_rfl)
  rotate_left
  · simp only [Act.put, List.setIfInBounds_toArray, List.set_cons_zero, List.set_cons_succ, i64_w, i32_w]
    rfl
  refine take_ (i := 9) (N := some 41) (v := .agg #[.int .i64 2, .int .u64 c1, .int .u64 c2, .int .u64 c3, .int .u64 c4, .int .i64 c5, .int .u64 c6, .int .u64 c7, .int .u64 c8, .int .u64 c9, .int .u64 c10, .int .u64 c11, .int .u64 c12, .int .u64 c13, .int .u64 c14, .bool c15, .int .u64 c16, .int .u64 c17, .int .u64 c18, .int .u64 c19, .int .i64 c20, .slice A21 l21.length k21, .int .u64 c22, .int .u64 c23, .int .u64 c24, .int .u64 c25, .int .u64 c26, .int .u64 c27, .int .u64 c28, .int .u64 c29, .int .u64 c30, .int .u64 c31, .int .u64 c32, .int .u64 c33, .int .u64 c34, .int .u64 c35, .int .u64 c36, .int .u64 c37, .bool c38, .int .u64 c39, .int .u64 c40]) (a' := ?_) #[true, true, true, true, true, true, true, true, false, true, false, false, false, false] rfl rfl (by kernel_rfl) (fun _ _ _ h => h) (Or.inl ⟨by rfl, ?_⟩) hHeld ?_ ?_
  · intro w' s0
    exact exec_seg_load 36 (.tmp 3) (by rfl) g0 0 (.int .i64 2 :: .int .u64 c1 :: .int .u64 c2 :: .int .u64 c3 :: .int .u64 c4 :: .int .i64 c5 :: .int .u64 c6 :: .int .u64 c7 :: .int .u64 c8 :: .int .u64 c9 :: .int .u64 c10 :: .int .u64 c11 :: .int .u64 c12 :: .int .u64 c13 :: .int .u64 c14 :: .bool c15 :: .int .u64 c16 :: .int .u64 c17 :: .int .u64 c18 :: .int .u64 c19 :: .int .i64 c20 :: .slice A21 l21.length k21 :: .int .u64 c22 :: .int .u64 c23 :: .int .u64 c24 :: .int .u64 c25 :: .int .u64 c26 :: .int .u64 c27 :: .int .u64 c28 :: .int .u64 c29 :: .int .u64 c30 :: .int .u64 c31 :: .int .u64 c32 :: .int .u64 c33 :: .int .u64 c34 :: .int .u64 c35 :: .int .u64 c36 :: .int .u64 c37 :: .bool c38 :: .int .u64 c39 :: .int .u64 c40 :: []) (by rfl) s0 (by rfl) Try.underlying36 (by rfl) (by kernel_rfl)
  rotate_left
  · simp only [Act.put, List.setIfInBounds_toArray, List.set_cons_zero, List.set_cons_succ, i64_w, i32_w]
    rfl
  refine one_ (i := 8) (N := some 40) #[true, true, true, true, true, true, true, true, true, true, false, false, false, false] rfl rfl (by kernel_rfl) (by decide) (fun K hK => ?_)
  refine goes_ Try.func9 (by kernel_rfl) rfl #[.agg #[.int .i64 2, .int .u64 c1, .int .u64 c2, .int .u64 c3, .int .u64 c4, .int .i64 c5, .int .u64 c6, .int .u64 c7, .int .u64 c8, .int .u64 c9, .int .u64 c10, .int .u64 c11, .int .u64 c12, .int .u64 c13, .int .u64 c14, .bool c15, .int .u64 c16, .int .u64 c17, .int .u64 c18, .int .u64 c19, .int .i64 c20, .slice A21 l21.length k21, .int .u64 c22, .int .u64 c23, .int .u64 c24, .int .u64 c25, .int .u64 c26, .int .u64 c27, .int .u64 c28, .int .u64 c29, .int .u64 c30, .int .u64 c31, .int .u64 c32, .int .u64 c33, .int .u64 c34, .int .u64 c35, .int .u64 c36, .int .u64 c37, .bool c38, .int .u64 c39, .int .u64 c40], .int .u64 0] (by rfl) rfl rfl (by simp only [List.map_toArray, List.map_cons, List.map_nil]; rfl) ?_
  with_reducible refine (rate2_0 c1 c2 c3 c4 c5 c6 c7 c8 c9 c10 c11 c12 c13 c14 c16 c17 c18 c19 c20 c22 c23 c24 c25 c26 c27 c28 c29 c30 c31 c32 c33 c34 c35 c36 c37 c39 c40 0 c15 c38 A21 l21.length k21 Wc12 (by decide) _).mono ?_
  rintro e w6 ⟨rfl, hl⟩
  refine ⟨_, rfl, ?_⟩
  replace Bg0 := Bg0.below hl; replace HS := HS.below hl; clear hl; clear kg0_21; have kg0_21 : w6.cell? ⟨g0, 21, none⟩ = some (.slice A21 l21.length k21) := (Bg0.cell 21).trans rfl
  refine hK.out _ _ Bg0 (fun hHeld => ?_)
  clear hK K
  refine norm_ (a' := ?_) ?_ ?_
  rotate_left
  · show Act.put _ (some 40) _ = _
    simp only [Act.put, List.setIfInBounds_toArray, List.set_cons_zero, List.set_cons_succ, i64_w, i32_w]
    rfl
  refine one_ (i := 10) (N := some 42) #[true, true, true, true, true, true, true, true, true, true, true, false, false, false] rfl rfl (by kernel_rfl) (by decide) (fun K hK => ?_)
  refine goes_ Try.func9 (by kernel_rfl) rfl #[.agg #[.int .i64 2, .int .u64 c1, .int .u64 c2, .int .u64 c3, .int .u64 c4, .int .i64 c5, .int .u64 c6, .int .u64 c7, .int .u64 c8, .int .u64 c9, .int .u64 c10, .int .u64 c11, .int .u64 c12, .int .u64 c13, .int .u64 c14, .bool c15, .int .u64 c16, .int .u64 c17, .int .u64 c18, .int .u64 c19, .int .i64 c20, .slice A21 l21.length k21, .int .u64 c22, .int .u64 c23, .int .u64 c24, .int .u64 c25, .int .u64 c26, .int .u64 c27, .int .u64 c28, .int .u64 c29, .int .u64 c30, .int .u64 c31, .int .u64 c32, .int .u64 c33, .int .u64 c34, .int .u64 c35, .int .u64 c36, .int .u64 c37, .bool c38, .int .u64 c39, .int .u64 c40], .int .u64 1] (by rfl) rfl rfl (by simp only [List.map_toArray, List.map_cons, List.map_nil]; rfl) ?_
  with_reducible refine (rate2_0 c1 c2 c3 c4 c5 c6 c7 c8 c9 c10 c11 c12 c13 c14 c16 c17 c18 c19 c20 c22 c23 c24 c25 c26 c27 c28 c29 c30 c31 c32 c33 c34 c35 c36 c37 c39 c40 1 c15 c38 A21 l21.length k21 Wc12 (by decide) _).mono ?_
  rintro e w7 ⟨rfl, hl⟩
  refine ⟨_, rfl, ?_⟩
  replace Bg0 := Bg0.below hl; replace HS := HS.below hl; clear hl; clear kg0_21; have kg0_21 : w7.cell? ⟨g0, 21, none⟩ = some (.slice A21 l21.length k21) := (Bg0.cell 21).trans rfl
  refine hK.out _ _ Bg0 (fun hHeld => ?_)
  clear hK K
  refine norm_ (a' := ?_) ?_ ?_
  rotate_left
  · show Act.put _ (some 42) _ = _
    simp only [Act.put, List.setIfInBounds_toArray, List.set_cons_zero, List.set_cons_succ, i64_w, i32_w]
    rfl
  refine pure_ (i := 11) (N := some 43) (v := ?_) (a' := ?_) #[true, true, true, true, true, true, true, true, true, true, true, true, false, false] rfl rfl (by kernel_rfl) (fun _ _ _ h => h) (Or.inl ⟨by rfl, ?_⟩) ?_ ?_
  rotate_left
  · intro w'
    go_simp
    with_reducible rfl
  rotate_left
  · simp only [Act.put, List.setIfInBounds_toArray, List.set_cons_zero, List.set_cons_succ, i64_w, i32_w]
    rfl
  refine pure_ (i := 12) (N := some 44) (v := ?_) (a' := ?_) #[true, true, true, true, true, true, true, true, true, true, true, true, true, false] rfl rfl (by kernel_rfl) (fun _ _ _ h => h) (Or.inl ⟨by rfl, ?_⟩) ?_ ?_
  rotate_left
  · intro w'
    go_simp
    with_reducible rfl
  rotate_left
  · simp only [Act.put, List.setIfInBounds_toArray, List.set_cons_zero, List.set_cons_succ, i64_w, i32_w]
    rfl
  refine pure_ (i := 13) (N := some 6) (v := ?_) (a' := ?_) #[true, true, true, true, true, true, true, true, true, true, true, true, true, true] rfl rfl (by kernel_rfl) (fun _ _ _ h => h) (Or.inl ⟨by rfl, ?_⟩) ?_ ?_
  rotate_left
  · intro w'
    go_simp
    with_reducible rfl
  rotate_left
  · simp only [Act.put, List.setIfInBounds_toArray, List.set_cons_zero, List.set_cons_succ, i64_w, i32_w]
    rfl
  refine done_ (by kernel_rfl) ?_
  refine letter ?_
  intro w8 hW
  have Bn_ : Blk w8 g0 36 (.int .i64 2 :: .int .u64 c1 :: .int .u64 c2 :: .int .u64 c3 :: .int .u64 c4 :: .int .i64 c5 :: .int .u64 c6 :: .int .u64 c7 :: .int .u64 c8 :: .int .u64 c9 :: .int .u64 c10 :: .int .u64 c11 :: .int .u64 c12 :: .int .u64 c13 :: .int .u64 c14 :: .bool c15 :: .int .u64 c16 :: .int .u64 c17 :: .int .u64 c18 :: .int .u64 c19 :: .int .i64 c20 :: .slice A21 l21.length k21 :: .int .u64 c22 :: .int .u64 c23 :: .int .u64 c24 :: .int .u64 c25 :: .int .u64 c26 :: .int .u64 c27 :: .int .u64 c28 :: .int .u64 c29 :: .int .u64 c30 :: .int .u64 c31 :: .int .u64 c32 :: .int .u64 c33 :: .int .u64 c34 :: .int .u64 c35 :: .int .u64 c36 :: .int .u64 c37 :: .bool c38 :: .int .u64 c39 :: .int .u64 c40 :: []) := (by rw [hW]; (repeat (first | (with_reducible refine Blk.drewN ?_ _) | (with_reducible refine Blk.drew ?_))); exact Bg0)
  replace Bg0 := Bn_
  clear Bn_
  have HS_ : Since w w8 := (by rw [hW]; repeat (first | (with_reducible exact HS) | (with_reducible refine Since.drewN ?_ _) | (with_reducible refine Since.drew ?_)))
  replace HS := HS_
  clear HS_ hW
  clear kg0_21; have kg0_21 : w8.cell? ⟨g0, 21, none⟩ = some (.slice A21 l21.length k21) := (Bg0.cell 21).trans rfl
  go_wp2
  all_goals (go_ret; exact ⟨by first | rfl | (simp; done), HS.out⟩)
set_option maxRecDepth 100000 in
set_option maxHeartbeats 4000000 in
theorem rates3_0 (c1 c2 c3 c4 c5 c6 c7 c8 c9 c10 c11 c12 c13 c14 c16 c17 c18 c19 c20 c22 c23 c24 c25 c26 c27 c28 c29 c30 c31 c32 c33 c34 c35 c36 c37 c39 c40 sm more : Int) (c15 c38 : Bool) (A21 : Option Addr) (k21 : Nat) (Wc27 : W64 c27) (w : World) (l21 : List S90) (hr21 : Kd.C k90 w A21 l21.length l21) (hc21 : l21.length ≤ k21) (hw21 : SWf l21) (h0 : (decide (100 < (l21.length : Int))) = false) (h1 : (sm == 0) = false) (h2 : (decide (more < sm)) = false) :
    Calls Try.prog 4 #[.agg #[.int .i64 3, .int .u64 c1, .int .u64 c2, .int .u64 c3, .int .u64 c4, .int .i64 c5, .int .u64 c6, .int .u64 c7, .int .u64 c8, .int .u64 c9, .int .u64 c10, .int .u64 c11, .int .u64 c12, .int .u64 c13, .int .u64 c14, .bool c15, .int .u64 c16, .int .u64 c17, .int .u64 c18, .int .u64 c19, .int .i64 c20, .slice A21 l21.length k21, .int .u64 c22, .int .u64 c23, .int .u64 c24, .int .u64 c25, .int .u64 c26, .int .u64 c27, .int .u64 c28, .int .u64 c29, .int .u64 c30, .int .u64 c31, .int .u64 c32, .int .u64 c33, .int .u64 c34, .int .u64 c35, .int .u64 c36, .int .u64 c37, .bool c38, .int .u64 c39, .int .u64 c40], .int .u64 sm, .int .u64 more] w fun e w' => e = .returned (.bool true) ∧ Below w.heap.size w w' := by
  have hu32 := Try.underlying32
  have hu36 := Try.underlying36
  have m01 : max (0 : Int) 1 = 1 := by decide
  have m11 : max (1 : Int) 1 = 1 := by decide
  have n0 : decide (100 < l21.length) = false := by (have := h0; simp at this ⊢; omega)
  have HS := Since.refl w
  go_enter Try.func4, Try.ntmps4
  go_wp2_with (first | ((with_reducible refine gate_dst (N := 3) rfl ?_); go_must (refine seg_new ?hg (N := 3) ?hd (.int .i64 3 :: .int .u64 c1 :: .int .u64 c2 :: .int .u64 c3 :: .int .u64 c4 :: .int .i64 c5 :: .int .u64 c6 :: .int .u64 c7 :: .int .u64 c8 :: .int .u64 c9 :: .int .u64 c10 :: .int .u64 c11 :: .int .u64 c12 :: .int .u64 c13 :: .int .u64 c14 :: .bool c15 :: .int .u64 c16 :: .int .u64 c17 :: .int .u64 c18 :: .int .u64 c19 :: .int .i64 c20 :: .slice A21 l21.length k21 :: .int .u64 c22 :: .int .u64 c23 :: .int .u64 c24 :: .int .u64 c25 :: .int .u64 c26 :: .int .u64 c27 :: .int .u64 c28 :: .int .u64 c29 :: .int .u64 c30 :: .int .u64 c31 :: .int .u64 c32 :: .int .u64 c33 :: .int .u64 c34 :: .int .u64 c35 :: .int .u64 c36 :: .int .u64 c37 :: .bool c38 :: .int .u64 c39 :: .int .u64 c40 :: []) 36 ?hr ?_; (case hd => rfl); (case hg => rfl); (case hr => first | (go_simp; done) | (go_simp; rfl) | kernel_rfl); intro g0 hg w1 hn hl; have GEg0 := ge_new HS hg; clear hg; replace HS := HS.below hl; have Bg0 := hn; clear hl hn; have kg0_21 : w1.cell? ⟨g0, 21, none⟩ = some (.slice A21 l21.length k21) := (Bg0.cell 21).trans rfl)) | ((go_at_call 8); (with_reducible refine (awake_0 _ (by decide +kernel) (by decide +kernel) (by decide +kernel) (by decide +kernel)).mono ?_); rintro e w2 ⟨rfl, hl⟩; replace Bg0 := Bg0.below hl; replace HS := HS.below hl; clear hl; clear kg0_21; have kg0_21 : w2.cell? ⟨g0, 21, none⟩ = some (.slice A21 l21.length k21) := (Bg0.cell 21).trans rfl) | ((with_reducible refine gate_dst (N := 26) rfl ?_); go_must (refine seg_load ?hg (N := 26) ?hd 36 (.tmp 3) ?ho g0 0 (.int .i64 3 :: .int .u64 c1 :: .int .u64 c2 :: .int .u64 c3 :: .int .u64 c4 :: .int .i64 c5 :: .int .u64 c6 :: .int .u64 c7 :: .int .u64 c8 :: .int .u64 c9 :: .int .u64 c10 :: .int .u64 c11 :: .int .u64 c12 :: .int .u64 c13 :: .int .u64 c14 :: .bool c15 :: .int .u64 c16 :: .int .u64 c17 :: .int .u64 c18 :: .int .u64 c19 :: .int .i64 c20 :: .slice A21 l21.length k21 :: .int .u64 c22 :: .int .u64 c23 :: .int .u64 c24 :: .int .u64 c25 :: .int .u64 c26 :: .int .u64 c27 :: .int .u64 c28 :: .int .u64 c29 :: .int .u64 c30 :: .int .u64 c31 :: .int .u64 c32 :: .int .u64 c33 :: .int .u64 c34 :: .int .u64 c35 :: .int .u64 c36 :: .int .u64 c37 :: .bool c38 :: .int .u64 c39 :: .int .u64 c40 :: []) ?hx Bg0 ?hs Try.underlying36 ?ht ?hi ?_; (case hg => rfl); (case hd => rfl); (case ho => rfl); (case hx => first | rfl | (go_simp; done) | (go_simp; rfl)); (case hs => rfl); (case ht => rfl); (case hi => kernel_rfl))) | ((go_at_call 9); (with_reducible refine (rate3_0 c1 c2 c3 c4 c5 c6 c7 c8 c9 c10 c11 c12 c13 c14 c16 c17 c18 c19 c20 c22 c23 c24 c25 c26 c27 c28 c29 c30 c31 c32 c33 c34 c35 c36 c37 c39 c40 sm c15 c38 A21 k21 Wc27 _ l21 (Kd.C_below hr21 HS.out) hc21 hw21).mono ?_); rintro e w3 ⟨rfl, hl⟩; replace Bg0 := Bg0.below hl; replace HS := HS.below hl; clear hl; clear kg0_21; have kg0_21 : w3.cell? ⟨g0, 21, none⟩ = some (.slice A21 l21.length k21) := (Bg0.cell 21).trans rfl) | ((with_reducible refine gate_dst (N := 29) rfl ?_); go_must (refine seg_load ?hg (N := 29) ?hd 36 (.tmp 3) ?ho g0 0 (.int .i64 3 :: .int .u64 c1 :: .int .u64 c2 :: .int .u64 c3 :: .int .u64 c4 :: .int .i64 c5 :: .int .u64 c6 :: .int .u64 c7 :: .int .u64 c8 :: .int .u64 c9 :: .int .u64 c10 :: .int .u64 c11 :: .int .u64 c12 :: .int .u64 c13 :: .int .u64 c14 :: .bool c15 :: .int .u64 c16 :: .int .u64 c17 :: .int .u64 c18 :: .int .u64 c19 :: .int .i64 c20 :: .slice A21 l21.length k21 :: .int .u64 c22 :: .int .u64 c23 :: .int .u64 c24 :: .int .u64 c25 :: .int .u64 c26 :: .int .u64 c27 :: .int .u64 c28 :: .int .u64 c29 :: .int .u64 c30 :: .int .u64 c31 :: .int .u64 c32 :: .int .u64 c33 :: .int .u64 c34 :: .int .u64 c35 :: .int .u64 c36 :: .int .u64 c37 :: .bool c38 :: .int .u64 c39 :: .int .u64 c40 :: []) ?hx Bg0 ?hs Try.underlying36 ?ht ?hi ?_; (case hg => rfl); (case hd => rfl); (case ho => rfl); (case hx => first | rfl | (go_simp; done) | (go_simp; rfl)); (case hs => rfl); (case ht => rfl); (case hi => kernel_rfl))) | ((go_at_call 9); (with_reducible refine (rate3_0 c1 c2 c3 c4 c5 c6 c7 c8 c9 c10 c11 c12 c13 c14 c16 c17 c18 c19 c20 c22 c23 c24 c25 c26 c27 c28 c29 c30 c31 c32 c33 c34 c35 c36 c37 c39 c40 more c15 c38 A21 k21 Wc27 _ l21 (Kd.C_below hr21 HS.out) hc21 hw21).mono ?_); rintro e w4 ⟨rfl, hl⟩; replace Bg0 := Bg0.below hl; replace HS := HS.below hl; clear hl; clear kg0_21; have kg0_21 : w4.cell? ⟨g0, 21, none⟩ = some (.slice A21 l21.length k21) := (Bg0.cell 21).trans rfl))
  refine start_ (n := 14) (S := fun w' => Blk w' g0 36 (.int .i64 3 :: .int .u64 c1 :: .int .u64 c2 :: .int .u64 c3 :: .int .u64 c4 :: .int .i64 c5 :: .int .u64 c6 :: .int .u64 c7 :: .int .u64 c8 :: .int .u64 c9 :: .int .u64 c10 :: .int .u64 c11 :: .int .u64 c12 :: .int .u64 c13 :: .int .u64 c14 :: .bool c15 :: .int .u64 c16 :: .int .u64 c17 :: .int .u64 c18 :: .int .u64 c19 :: .int .i64 c20 :: .slice A21 l21.length k21 :: .int .u64 c22 :: .int .u64 c23 :: .int .u64 c24 :: .int .u64 c25 :: .int .u64 c26 :: .int .u64 c27 :: .int .u64 c28 :: .int .u64 c29 :: .int .u64 c30 :: .int .u64 c31 :: .int .u64 c32 :: .int .u64 c33 :: .int .u64 c34 :: .int .u64 c35 :: .int .u64 c36 :: .int .u64 c37 :: .bool c38 :: .int .u64 c39 :: .int .u64 c40 :: [])) (ds := []) #[false, false, false, false, false, false, false, false, false, false, false, false, false, false] (by kernel_rfl) rfl rfl Bg0.drew (fun hHeld => ?_)
  generalize hWd : World.drew w4 = w5 at hHeld ⊢
  have hl : Below w4.heap.size w4 w5 := (by rw [← hWd]; exact below_drew1 (Below.refl _ _))
  clear hWd
  replace Bg0 := Bg0.below hl; replace HS := HS.below hl; clear hl; clear kg0_21; have kg0_21 : w5.cell? ⟨g0, 21, none⟩ = some (.slice A21 l21.length k21) := (Bg0.cell 21).trans rfl
  refine pure_ (i := 0) (N := some 32) (v := ?_) (a' := ?_) #[true, false, false, false, false, false, false, false, false, false, false, false, false, false] rfl rfl (by kernel_rfl) (fun _ _ _ h => h) (Or.inl ⟨by rfl, ?_⟩) ?_ ?_
  rotate_left
  · intro w'
    go_simp
    with_reducible rfl
  rotate_left
  · simp only [Act.put, List.setIfInBounds_toArray, List.set_cons_zero, List.set_cons_succ, i64_w, i32_w]
    rfl
  refine pure_ (i := 1) (N := some 33) (v := ?_) (a' := ?_) #[true, true, false, false, false, false, false, false, false, false, false, false, false, false] rfl rfl (by kernel_rfl) (fun _ _ _ h => h) (Or.inl ⟨by rfl, ?_⟩) ?_ ?_
  rotate_left
  · intro w'
    go_simp
    with_reducible rfl
  rotate_left
  · simp only [Act.put, List.setIfInBounds_toArray, List.set_cons_zero, List.set_cons_succ, i64_w, i32_w]
    rfl
  refine pure_ (i := 2) (N := some 34) (v := ?_) (a' := ?_) #[true, true, true, false, false, false, false, false, false, false, false, false, false, false] rfl rfl (by kernel_rfl) (fun _ _ _ h => h) (Or.inl ⟨by rfl, ?_⟩) ?_ ?_
  rotate_left
  · intro w'
    go_simp
    with_reducible rfl
  rotate_left
  · simp only [Act.put, List.setIfInBounds_toArray, List.set_cons_zero, List.set_cons_succ, i64_w, i32_w]
    rfl
  refine pure_ (i := 3) (N := some 35) (v := ?_) (a' := ?_) #[true, true, true, true, false, false, false, false, false, false, false, false, false, false] rfl rfl (by kernel_rfl) (fun _ _ _ h => h) (Or.inl ⟨by rfl, ?_⟩) ?_ ?_
  rotate_left
  · intro w'
    go_simp
    with_reducible rfl
  rotate_left
  · simp only [Act.put, List.setIfInBounds_toArray, List.set_cons_zero, List.set_cons_succ, i64_w, i32_w]
    rfl
  refine pure_ (i := 4) (N := some 36) (v := ?_) (a' := ?_) #[true, true, true, true, true, false, false, false, false, false, false, false, false, false] rfl rfl (by kernel_rfl) (fun _ _ _ h => h) (Or.inl ⟨by rfl, ?_⟩) ?_ ?_
  rotate_left
  · intro w'
    go_simp
    with_reducible rfl
  rotate_left
  · simp only [Act.put, List.setIfInBounds_toArray, List.set_cons_zero, List.set_cons_succ, i64_w, i32_w]
    rfl
  refine pure_ (i := 5) (N := some 37) (v := ?_) (a' := ?_) #[true, true, true, true, true, true, false, false, false, false, false, false, false, false] rfl rfl (by kernel_rfl) (fun _ _ _ h => h) (Or.inl ⟨by rfl, ?_⟩) ?_ ?_
  rotate_left
  · intro w'
    go_simp
    with_reducible rfl
  rotate_left
  · simp only [Act.put, List.setIfInBounds_toArray, List.set_cons_zero, List.set_cons_succ, i64_w, i32_w]
    rfl
  refine pure_ (i := 6) (N := some 38) (v := ?_) (a' := ?_) #[true, true, true, true, true, true, true, false, false, false, false, false, false, false] rfl rfl (by kernel_rfl) (fun _ _ _ h => h) (Or.inl ⟨by rfl, ?_⟩) ?_ ?_
  rotate_left
  · intro w'
    go_simp
    with_reducible rfl
  rotate_left
  · simp only [Act.put, List.setIfInBounds_toArray, List.set_cons_zero, List.set_cons_succ, i64_w, i32_w]
    rfl
  refine take_ (i := 7) (N := some 39) (v := .agg #[.int .i64 3, .int .u64 c1, .int .u64 c2, .int .u64 c3, .int .u64 c4, .int .i64 c5, .int .u64 c6, .int .u64 c7, .int .u64 c8, .int .u64 c9, .int .u64 c10, .int .u64 c11, .int .u64 c12, .int .u64 c13, .int .u64 c14, .bool c15, .int .u64 c16, .int .u64 c17, .int .u64 c18, .int .u64 c19, .int .i64 c20, .slice A21 l21.length k21, .int .u64 c22, .int .u64 c23, .int .u64 c24, .int .u64 c25, .int .u64 c26, .int .u64 c27, .int .u64 c28, .int .u64 c29, .int .u64 c30, .int .u64 c31, .int .u64 c32, .int .u64 c33, .int .u64 c34, .int .u64 c35, .int .u64 c36, .int .u64 c37, .bool c38, .int .u64 c39, .int .u64 c40]) (a' := ?_) #[true, true, true, true, true, true, true, true, false, false, false, false, false, false] rfl rfl (by kernel_rfl) (fun _ _ _ h => h) (Or.inl ⟨by rfl, ?_⟩) hHeld ?_ ?_
  · intro w' s0
    exact exec_seg_load 36 (.tmp 3) (by rfl) g0 0 (.int .i64 3 :: .int .u64 c1 :: .int .u64 c2 :: .int .u64 c3 :: .int .u64 c4 :: .int .i64 c5 :: .int .u64 c6 :: .int .u64 c7 :: .int .u64 c8 :: .int .u64 c9 :: .int .u64 c10 :: .int .u64 c11 :: .int .u64 c12 :: .int .u64 c13 :: .int .u64 c14 :: .bool c15 :: .int .u64 c16 :: .int .u64 c17 :: .int .u64 c18 :: .int .u64 c19 :: .int .i64 c20 :: .slice A21 l21.length k21 :: .int .u64 c22 :: .int .u64 c23 :: .int .u64 c24 :: .int .u64 c25 :: .int .u64 c26 :: .int .u64 c27 :: .int .u64 c28 :: .int .u64 c29 :: .int .u64 c30 :: .int .u64 c31 :: .int .u64 c32 :: .int .u64 c33 :: .int .u64 c34 :: .int .u64 c35 :: .int .u64 c36 :: .int .u64 c37 :: .bool c38 :: .int .u64 c39 :: .int .u64 c40 :: []) (by rfl) s0 (by rfl) Try.underlying36 (by rfl) (by kernel_rfl)
  rotate_left
  · simp only [Act.put, List.setIfInBounds_toArray, List.set_cons_zero, List.set_cons_succ, i64_w, i32_w]
    rfl
  refine take_ (i := 9) (N := some 41) (v := .agg #[.int .i64 3, .int .u64 c1, .int .u64 c2, .int .u64 c3, .int .u64 c4, .int .i64 c5, .int .u64 c6, .int .u64 c7, .int .u64 c8, .int .u64 c9, .int .u64 c10, .int .u64 c11, .int .u64 c12, .int .u64 c13, .int .u64 c14, .bool c15, .int .u64 c16, .int .u64 c17, .int .u64 c18, .int .u64 c19, .int .i64 c20, .slice A21 l21.length k21, .int .u64 c22, .int .u64 c23, .int .u64 c24, .int .u64 c25, .int .u64 c26, .int .u64 c27, .int .u64 c28, .int .u64 c29, .int .u64 c30, .int .u64 c31, .int .u64 c32, .int .u64 c33, .int .u64 c34, .int .u64 c35, .int .u64 c36, .int .u64 c37, .bool c38, .int .u64 c39, .int .u64 c40]) (a' := ?_) #[true, true, true, true, true, true, true, true, false, true, false, false, false, false] rfl rfl (by kernel_rfl) (fun _ _ _ h => h) (Or.inl ⟨by rfl, ?_⟩) hHeld ?_ ?_
  · intro w' s0
    exact exec_seg_load 36 (.tmp 3) (by rfl) g0 0 (.int .i64 3 :: .int .u64 c1 :: .int .u64 c2 :: .int .u64 c3 :: .int .u64 c4 :: .int .i64 c5 :: .int .u64 c6 :: .int .u64 c7 :: .int .u64 c8 :: .int .u64 c9 :: .int .u64 c10 :: .int .u64 c11 :: .int .u64 c12 :: .int .u64 c13 :: .int .u64 c14 :: .bool c15 :: .int .u64 c16 :: .int .u64 c17 :: .int .u64 c18 :: .int .u64 c19 :: .int .i64 c20 :: .slice A21 l21.length k21 :: .int .u64 c22 :: .int .u64 c23 :: .int .u64 c24 :: .int .u64 c25 :: .int .u64 c26 :: .int .u64 c27 :: .int .u64 c28 :: .int .u64 c29 :: .int .u64 c30 :: .int .u64 c31 :: .int .u64 c32 :: .int .u64 c33 :: .int .u64 c34 :: .int .u64 c35 :: .int .u64 c36 :: .int .u64 c37 :: .bool c38 :: .int .u64 c39 :: .int .u64 c40 :: []) (by rfl) s0 (by rfl) Try.underlying36 (by rfl) (by kernel_rfl)
  rotate_left
  · simp only [Act.put, List.setIfInBounds_toArray, List.set_cons_zero, List.set_cons_succ, i64_w, i32_w]
    rfl
  refine one_ (i := 8) (N := some 40) #[true, true, true, true, true, true, true, true, true, true, false, false, false, false] rfl rfl (by kernel_rfl) (by decide) (fun K hK => ?_)
  refine goes_ Try.func9 (by kernel_rfl) rfl #[.agg #[.int .i64 3, .int .u64 c1, .int .u64 c2, .int .u64 c3, .int .u64 c4, .int .i64 c5, .int .u64 c6, .int .u64 c7, .int .u64 c8, .int .u64 c9, .int .u64 c10, .int .u64 c11, .int .u64 c12, .int .u64 c13, .int .u64 c14, .bool c15, .int .u64 c16, .int .u64 c17, .int .u64 c18, .int .u64 c19, .int .i64 c20, .slice A21 l21.length k21, .int .u64 c22, .int .u64 c23, .int .u64 c24, .int .u64 c25, .int .u64 c26, .int .u64 c27, .int .u64 c28, .int .u64 c29, .int .u64 c30, .int .u64 c31, .int .u64 c32, .int .u64 c33, .int .u64 c34, .int .u64 c35, .int .u64 c36, .int .u64 c37, .bool c38, .int .u64 c39, .int .u64 c40], .int .u64 0] (by rfl) rfl rfl (by simp only [List.map_toArray, List.map_cons, List.map_nil]; rfl) ?_
  with_reducible refine (rate3_0 c1 c2 c3 c4 c5 c6 c7 c8 c9 c10 c11 c12 c13 c14 c16 c17 c18 c19 c20 c22 c23 c24 c25 c26 c27 c28 c29 c30 c31 c32 c33 c34 c35 c36 c37 c39 c40 0 c15 c38 A21 k21 Wc27 _ l21 (Kd.C_below hr21 HS.out) hc21 hw21).mono ?_
  rintro e w6 ⟨rfl, hl⟩
  refine ⟨_, rfl, ?_⟩
  replace Bg0 := Bg0.below hl; replace HS := HS.below hl; clear hl; clear kg0_21; have kg0_21 : w6.cell? ⟨g0, 21, none⟩ = some (.slice A21 l21.length k21) := (Bg0.cell 21).trans rfl
  refine hK.out _ _ Bg0 (fun hHeld => ?_)
  clear hK K
  refine norm_ (a' := ?_) ?_ ?_
  rotate_left
  · show Act.put _ (some 40) _ = _
    simp only [Act.put, List.setIfInBounds_toArray, List.set_cons_zero, List.set_cons_succ, i64_w, i32_w]
    rfl
  refine one_ (i := 10) (N := some 42) #[true, true, true, true, true, true, true, true, true, true, true, false, false, false] rfl rfl (by kernel_rfl) (by decide) (fun K hK => ?_)
  refine goes_ Try.func9 (by kernel_rfl) rfl #[.agg #[.int .i64 3, .int .u64 c1, .int .u64 c2, .int .u64 c3, .int .u64 c4, .int .i64 c5, .int .u64 c6, .int .u64 c7, .int .u64 c8, .int .u64 c9, .int .u64 c10, .int .u64 c11, .int .u64 c12, .int .u64 c13, .int .u64 c14, .bool c15, .int .u64 c16, .int .u64 c17, .int .u64 c18, .int .u64 c19, .int .i64 c20, .slice A21 l21.length k21, .int .u64 c22, .int .u64 c23, .int .u64 c24, .int .u64 c25, .int .u64 c26, .int .u64 c27, .int .u64 c28, .int .u64 c29, .int .u64 c30, .int .u64 c31, .int .u64 c32, .int .u64 c33, .int .u64 c34, .int .u64 c35, .int .u64 c36, .int .u64 c37, .bool c38, .int .u64 c39, .int .u64 c40], .int .u64 1] (by rfl) rfl rfl (by simp only [List.map_toArray, List.map_cons, List.map_nil]; rfl) ?_
  with_reducible refine (rate3_0 c1 c2 c3 c4 c5 c6 c7 c8 c9 c10 c11 c12 c13 c14 c16 c17 c18 c19 c20 c22 c23 c24 c25 c26 c27 c28 c29 c30 c31 c32 c33 c34 c35 c36 c37 c39 c40 1 c15 c38 A21 k21 Wc27 _ l21 (Kd.C_below hr21 HS.out) hc21 hw21).mono ?_
  rintro e w7 ⟨rfl, hl⟩
  refine ⟨_, rfl, ?_⟩
  replace Bg0 := Bg0.below hl; replace HS := HS.below hl; clear hl; clear kg0_21; have kg0_21 : w7.cell? ⟨g0, 21, none⟩ = some (.slice A21 l21.length k21) := (Bg0.cell 21).trans rfl
  refine hK.out _ _ Bg0 (fun hHeld => ?_)
  clear hK K
  refine norm_ (a' := ?_) ?_ ?_
  rotate_left
  · show Act.put _ (some 42) _ = _
    simp only [Act.put, List.setIfInBounds_toArray, List.set_cons_zero, List.set_cons_succ, i64_w, i32_w]
    rfl
  refine pure_ (i := 11) (N := some 43) (v := ?_) (a' := ?_) #[true, true, true, true, true, true, true, true, true, true, true, true, false, false] rfl rfl (by kernel_rfl) (fun _ _ _ h => h) (Or.inl ⟨by rfl, ?_⟩) ?_ ?_
  rotate_left
  · intro w'
    go_simp
    with_reducible rfl
  rotate_left
  · simp only [Act.put, List.setIfInBounds_toArray, List.set_cons_zero, List.set_cons_succ, i64_w, i32_w]
    rfl
  refine pure_ (i := 12) (N := some 44) (v := ?_) (a' := ?_) #[true, true, true, true, true, true, true, true, true, true, true, true, true, false] rfl rfl (by kernel_rfl) (fun _ _ _ h => h) (Or.inl ⟨by rfl, ?_⟩) ?_ ?_
  rotate_left
  · intro w'
    go_simp
    with_reducible rfl
  rotate_left
  · simp only [Act.put, List.setIfInBounds_toArray, List.set_cons_zero, List.set_cons_succ, i64_w, i32_w]
    rfl
  refine pure_ (i := 13) (N := some 6) (v := ?_) (a' := ?_) #[true, true, true, true, true, true, true, true, true, true, true, true, true, true] rfl rfl (by kernel_rfl) (fun _ _ _ h => h) (Or.inl ⟨by rfl, ?_⟩) ?_ ?_
  rotate_left
  · intro w'
    go_simp
    with_reducible rfl
  rotate_left
  · simp only [Act.put, List.setIfInBounds_toArray, List.set_cons_zero, List.set_cons_succ, i64_w, i32_w]
    rfl
  refine done_ (by kernel_rfl) ?_
  refine letter ?_
  intro w8 hW
  have Bn_ : Blk w8 g0 36 (.int .i64 3 :: .int .u64 c1 :: .int .u64 c2 :: .int .u64 c3 :: .int .u64 c4 :: .int .i64 c5 :: .int .u64 c6 :: .int .u64 c7 :: .int .u64 c8 :: .int .u64 c9 :: .int .u64 c10 :: .int .u64 c11 :: .int .u64 c12 :: .int .u64 c13 :: .int .u64 c14 :: .bool c15 :: .int .u64 c16 :: .int .u64 c17 :: .int .u64 c18 :: .int .u64 c19 :: .int .i64 c20 :: .slice A21 l21.length k21 :: .int .u64 c22 :: .int .u64 c23 :: .int .u64 c24 :: .int .u64 c25 :: .int .u64 c26 :: .int .u64 c27 :: .int .u64 c28 :: .int .u64 c29 :: .int .u64 c30 :: .int .u64 c31 :: .int .u64 c32 :: .int .u64 c33 :: .int .u64 c34 :: .int .u64 c35 :: .int .u64 c36 :: .int .u64 c37 :: .bool c38 :: .int .u64 c39 :: .int .u64 c40 :: []) := (by rw [hW]; (repeat (first | (with_reducible refine Blk.drewN ?_ _) | (with_reducible refine Blk.drew ?_))); exact Bg0)
  replace Bg0 := Bn_
  clear Bn_
  have HS_ : Since w w8 := (by rw [hW]; repeat (first | (with_reducible exact HS) | (with_reducible refine Since.drewN ?_ _) | (with_reducible refine Since.drew ?_)))
  replace HS := HS_
  clear HS_ hW
  clear kg0_21; have kg0_21 : w8.cell? ⟨g0, 21, none⟩ = some (.slice A21 l21.length k21) := (Bg0.cell 21).trans rfl
  go_wp2
  all_goals (go_ret; exact ⟨by first | rfl | (simp; done), HS.out⟩)
set_option maxRecDepth 100000 in
set_option maxHeartbeats 4000000 in
theorem rates4_0 (c1 c2 c3 c4 c5 c6 c7 c8 c9 c10 c11 c12 c13 c14 c16 c17 c18 c19 c20 c22 c23 c24 c25 c26 c27 c28 c29 c30 c31 c32 c33 c34 c35 c36 c37 c39 c40 sm more : Int) (c15 c38 : Bool) (A21 : Option Addr) (k21 : Nat) (Wc30 : W64 c30) (Wsm : W64 sm) (Wmore : W64 more) (w : World) (l21 : List S90) (hr21 : Kd.C k90 w A21 l21.length l21) (hc21 : l21.length ≤ k21) (hw21 : SWf l21) (h0 : (decide (100 < (l21.length : Int))) = false) (h1 : (sm == 0) = false) (h2 : (decide (more < sm)) = false) (h3 : (decide (uMulDiv c30 1250 (max more 1) ≤ uMulDiv c30 1250 (max sm 1))) = true) :
    Calls Try.prog 4 #[.agg #[.int .i64 4, .int .u64 c1, .int .u64 c2, .int .u64 c3, .int .u64 c4, .int .i64 c5, .int .u64 c6, .int .u64 c7, .int .u64 c8, .int .u64 c9, .int .u64 c10, .int .u64 c11, .int .u64 c12, .int .u64 c13, .int .u64 c14, .bool c15, .int .u64 c16, .int .u64 c17, .int .u64 c18, .int .u64 c19, .int .i64 c20, .slice A21 l21.length k21, .int .u64 c22, .int .u64 c23, .int .u64 c24, .int .u64 c25, .int .u64 c26, .int .u64 c27, .int .u64 c28, .int .u64 c29, .int .u64 c30, .int .u64 c31, .int .u64 c32, .int .u64 c33, .int .u64 c34, .int .u64 c35, .int .u64 c36, .int .u64 c37, .bool c38, .int .u64 c39, .int .u64 c40], .int .u64 sm, .int .u64 more] w fun e w' => e = .returned (.bool true) ∧ Below w.heap.size w w' := by
  have hu32 := Try.underlying32
  have hu36 := Try.underlying36
  have m01 : max (0 : Int) 1 = 1 := by decide
  have m11 : max (1 : Int) 1 = 1 := by decide
  have n0 : decide (100 < l21.length) = false := by (have := h0; simp at this ⊢; omega)
  have HS := Since.refl w
  go_enter Try.func4, Try.ntmps4
  go_wp2_with (first | ((with_reducible refine gate_dst (N := 3) rfl ?_); go_must (refine seg_new ?hg (N := 3) ?hd (.int .i64 4 :: .int .u64 c1 :: .int .u64 c2 :: .int .u64 c3 :: .int .u64 c4 :: .int .i64 c5 :: .int .u64 c6 :: .int .u64 c7 :: .int .u64 c8 :: .int .u64 c9 :: .int .u64 c10 :: .int .u64 c11 :: .int .u64 c12 :: .int .u64 c13 :: .int .u64 c14 :: .bool c15 :: .int .u64 c16 :: .int .u64 c17 :: .int .u64 c18 :: .int .u64 c19 :: .int .i64 c20 :: .slice A21 l21.length k21 :: .int .u64 c22 :: .int .u64 c23 :: .int .u64 c24 :: .int .u64 c25 :: .int .u64 c26 :: .int .u64 c27 :: .int .u64 c28 :: .int .u64 c29 :: .int .u64 c30 :: .int .u64 c31 :: .int .u64 c32 :: .int .u64 c33 :: .int .u64 c34 :: .int .u64 c35 :: .int .u64 c36 :: .int .u64 c37 :: .bool c38 :: .int .u64 c39 :: .int .u64 c40 :: []) 36 ?hr ?_; (case hd => rfl); (case hg => rfl); (case hr => first | (go_simp; done) | (go_simp; rfl) | kernel_rfl); intro g0 hg w1 hn hl; have GEg0 := ge_new HS hg; clear hg; replace HS := HS.below hl; have Bg0 := hn; clear hl hn; have kg0_21 : w1.cell? ⟨g0, 21, none⟩ = some (.slice A21 l21.length k21) := (Bg0.cell 21).trans rfl)) | ((go_at_call 8); (with_reducible refine (awake_0 _ (by decide +kernel) (by decide +kernel) (by decide +kernel) (by decide +kernel)).mono ?_); rintro e w2 ⟨rfl, hl⟩; replace Bg0 := Bg0.below hl; replace HS := HS.below hl; clear hl; clear kg0_21; have kg0_21 : w2.cell? ⟨g0, 21, none⟩ = some (.slice A21 l21.length k21) := (Bg0.cell 21).trans rfl) | ((with_reducible refine gate_dst (N := 26) rfl ?_); go_must (refine seg_load ?hg (N := 26) ?hd 36 (.tmp 3) ?ho g0 0 (.int .i64 4 :: .int .u64 c1 :: .int .u64 c2 :: .int .u64 c3 :: .int .u64 c4 :: .int .i64 c5 :: .int .u64 c6 :: .int .u64 c7 :: .int .u64 c8 :: .int .u64 c9 :: .int .u64 c10 :: .int .u64 c11 :: .int .u64 c12 :: .int .u64 c13 :: .int .u64 c14 :: .bool c15 :: .int .u64 c16 :: .int .u64 c17 :: .int .u64 c18 :: .int .u64 c19 :: .int .i64 c20 :: .slice A21 l21.length k21 :: .int .u64 c22 :: .int .u64 c23 :: .int .u64 c24 :: .int .u64 c25 :: .int .u64 c26 :: .int .u64 c27 :: .int .u64 c28 :: .int .u64 c29 :: .int .u64 c30 :: .int .u64 c31 :: .int .u64 c32 :: .int .u64 c33 :: .int .u64 c34 :: .int .u64 c35 :: .int .u64 c36 :: .int .u64 c37 :: .bool c38 :: .int .u64 c39 :: .int .u64 c40 :: []) ?hx Bg0 ?hs Try.underlying36 ?ht ?hi ?_; (case hg => rfl); (case hd => rfl); (case ho => rfl); (case hx => first | rfl | (go_simp; done) | (go_simp; rfl)); (case hs => rfl); (case ht => rfl); (case hi => kernel_rfl))) | ((go_at_call 9); (with_reducible refine (rate4_0 c1 c2 c3 c4 c5 c6 c7 c8 c9 c10 c11 c12 c13 c14 c16 c17 c18 c19 c20 c22 c23 c24 c25 c26 c27 c28 c29 c30 c31 c32 c33 c34 c35 c36 c37 c39 c40 sm c15 c38 A21 l21.length k21 Wc30 Wsm _).mono ?_); rintro e w3 ⟨rfl, hl⟩; replace Bg0 := Bg0.below hl; replace HS := HS.below hl; clear hl; clear kg0_21; have kg0_21 : w3.cell? ⟨g0, 21, none⟩ = some (.slice A21 l21.length k21) := (Bg0.cell 21).trans rfl) | ((with_reducible refine gate_dst (N := 29) rfl ?_); go_must (refine seg_load ?hg (N := 29) ?hd 36 (.tmp 3) ?ho g0 0 (.int .i64 4 :: .int .u64 c1 :: .int .u64 c2 :: .int .u64 c3 :: .int .u64 c4 :: .int .i64 c5 :: .int .u64 c6 :: .int .u64 c7 :: .int .u64 c8 :: .int .u64 c9 :: .int .u64 c10 :: .int .u64 c11 :: .int .u64 c12 :: .int .u64 c13 :: .int .u64 c14 :: .bool c15 :: .int .u64 c16 :: .int .u64 c17 :: .int .u64 c18 :: .int .u64 c19 :: .int .i64 c20 :: .slice A21 l21.length k21 :: .int .u64 c22 :: .int .u64 c23 :: .int .u64 c24 :: .int .u64 c25 :: .int .u64 c26 :: .int .u64 c27 :: .int .u64 c28 :: .int .u64 c29 :: .int .u64 c30 :: .int .u64 c31 :: .int .u64 c32 :: .int .u64 c33 :: .int .u64 c34 :: .int .u64 c35 :: .int .u64 c36 :: .int .u64 c37 :: .bool c38 :: .int .u64 c39 :: .int .u64 c40 :: []) ?hx Bg0 ?hs Try.underlying36 ?ht ?hi ?_; (case hg => rfl); (case hd => rfl); (case ho => rfl); (case hx => first | rfl | (go_simp; done) | (go_simp; rfl)); (case hs => rfl); (case ht => rfl); (case hi => kernel_rfl))) | ((go_at_call 9); (with_reducible refine (rate4_0 c1 c2 c3 c4 c5 c6 c7 c8 c9 c10 c11 c12 c13 c14 c16 c17 c18 c19 c20 c22 c23 c24 c25 c26 c27 c28 c29 c30 c31 c32 c33 c34 c35 c36 c37 c39 c40 more c15 c38 A21 l21.length k21 Wc30 Wmore _).mono ?_); rintro e w4 ⟨rfl, hl⟩; replace Bg0 := Bg0.below hl; replace HS := HS.below hl; clear hl; clear kg0_21; have kg0_21 : w4.cell? ⟨g0, 21, none⟩ = some (.slice A21 l21.length k21) := (Bg0.cell 21).trans rfl))
  refine start_ (n := 14) (S := fun w' => Blk w' g0 36 (.int .i64 4 :: .int .u64 c1 :: .int .u64 c2 :: .int .u64 c3 :: .int .u64 c4 :: .int .i64 c5 :: .int .u64 c6 :: .int .u64 c7 :: .int .u64 c8 :: .int .u64 c9 :: .int .u64 c10 :: .int .u64 c11 :: .int .u64 c12 :: .int .u64 c13 :: .int .u64 c14 :: .bool c15 :: .int .u64 c16 :: .int .u64 c17 :: .int .u64 c18 :: .int .u64 c19 :: .int .i64 c20 :: .slice A21 l21.length k21 :: .int .u64 c22 :: .int .u64 c23 :: .int .u64 c24 :: .int .u64 c25 :: .int .u64 c26 :: .int .u64 c27 :: .int .u64 c28 :: .int .u64 c29 :: .int .u64 c30 :: .int .u64 c31 :: .int .u64 c32 :: .int .u64 c33 :: .int .u64 c34 :: .int .u64 c35 :: .int .u64 c36 :: .int .u64 c37 :: .bool c38 :: .int .u64 c39 :: .int .u64 c40 :: [])) (ds := []) #[false, false, false, false, false, false, false, false, false, false, false, false, false, false] (by kernel_rfl) rfl rfl Bg0.drew (fun hHeld => ?_)
  generalize hWd : World.drew w4 = w5 at hHeld ⊢
  have hl : Below w4.heap.size w4 w5 := (by rw [← hWd]; exact below_drew1 (Below.refl _ _))
  clear hWd
  replace Bg0 := Bg0.below hl; replace HS := HS.below hl; clear hl; clear kg0_21; have kg0_21 : w5.cell? ⟨g0, 21, none⟩ = some (.slice A21 l21.length k21) := (Bg0.cell 21).trans rfl
  refine pure_ (i := 0) (N := some 32) (v := ?_) (a' := ?_) #[true, false, false, false, false, false, false, false, false, false, false, false, false, false] rfl rfl (by kernel_rfl) (fun _ _ _ h => h) (Or.inl ⟨by rfl, ?_⟩) ?_ ?_
  rotate_left
  · intro w'
    go_simp
    with_reducible rfl
  rotate_left
  · simp only [Act.put, List.setIfInBounds_toArray, List.set_cons_zero, List.set_cons_succ, i64_w, i32_w]
    rfl
  refine pure_ (i := 1) (N := some 33) (v := ?_) (a' := ?_) #[true, true, false, false, false, false, false, false, false, false, false, false, false, false] rfl rfl (by kernel_rfl) (fun _ _ _ h => h) (Or.inl ⟨by rfl, ?_⟩) ?_ ?_
  rotate_left
  · intro w'
    go_simp
    with_reducible rfl
  rotate_left
  · simp only [Act.put, List.setIfInBounds_toArray, List.set_cons_zero, List.set_cons_succ, i64_w, i32_w]
    rfl
  refine pure_ (i := 2) (N := some 34) (v := ?_) (a' := ?_) #[true, true, true, false, false, false, false, false, false, false, false, false, false, false] rfl rfl (by kernel_rfl) (fun _ _ _ h => h) (Or.inl ⟨by rfl, ?_⟩) ?_ ?_
  rotate_left
  · intro w'
    go_simp
    with_reducible rfl
  rotate_left
  · simp only [Act.put, List.setIfInBounds_toArray, List.set_cons_zero, List.set_cons_succ, i64_w, i32_w]
    rfl
  refine pure_ (i := 3) (N := some 35) (v := ?_) (a' := ?_) #[true, true, true, true, false, false, false, false, false, false, false, false, false, false] rfl rfl (by kernel_rfl) (fun _ _ _ h => h) (Or.inl ⟨by rfl, ?_⟩) ?_ ?_
  rotate_left
  · intro w'
    go_simp
    with_reducible rfl
  rotate_left
  · simp only [Act.put, List.setIfInBounds_toArray, List.set_cons_zero, List.set_cons_succ, i64_w, i32_w]
    rfl
  refine pure_ (i := 4) (N := some 36) (v := ?_) (a' := ?_) #[true, true, true, true, true, false, false, false, false, false, false, false, false, false] rfl rfl (by kernel_rfl) (fun _ _ _ h => h) (Or.inl ⟨by rfl, ?_⟩) ?_ ?_
  rotate_left
  · intro w'
    go_simp
    with_reducible rfl
  rotate_left
  · simp only [Act.put, List.setIfInBounds_toArray, List.set_cons_zero, List.set_cons_succ, i64_w, i32_w]
    rfl
  refine pure_ (i := 5) (N := some 37) (v := ?_) (a' := ?_) #[true, true, true, true, true, true, false, false, false, false, false, false, false, false] rfl rfl (by kernel_rfl) (fun _ _ _ h => h) (Or.inl ⟨by rfl, ?_⟩) ?_ ?_
  rotate_left
  · intro w'
    go_simp
    with_reducible rfl
  rotate_left
  · simp only [Act.put, List.setIfInBounds_toArray, List.set_cons_zero, List.set_cons_succ, i64_w, i32_w]
    rfl
  refine pure_ (i := 6) (N := some 38) (v := ?_) (a' := ?_) #[true, true, true, true, true, true, true, false, false, false, false, false, false, false] rfl rfl (by kernel_rfl) (fun _ _ _ h => h) (Or.inl ⟨by rfl, ?_⟩) ?_ ?_
  rotate_left
  · intro w'
    go_simp
    with_reducible rfl
  rotate_left
  · simp only [Act.put, List.setIfInBounds_toArray, List.set_cons_zero, List.set_cons_succ, i64_w, i32_w]
    rfl
  refine take_ (i := 7) (N := some 39) (v := .agg #[.int .i64 4, .int .u64 c1, .int .u64 c2, .int .u64 c3, .int .u64 c4, .int .i64 c5, .int .u64 c6, .int .u64 c7, .int .u64 c8, .int .u64 c9, .int .u64 c10, .int .u64 c11, .int .u64 c12, .int .u64 c13, .int .u64 c14, .bool c15, .int .u64 c16, .int .u64 c17, .int .u64 c18, .int .u64 c19, .int .i64 c20, .slice A21 l21.length k21, .int .u64 c22, .int .u64 c23, .int .u64 c24, .int .u64 c25, .int .u64 c26, .int .u64 c27, .int .u64 c28, .int .u64 c29, .int .u64 c30, .int .u64 c31, .int .u64 c32, .int .u64 c33, .int .u64 c34, .int .u64 c35, .int .u64 c36, .int .u64 c37, .bool c38, .int .u64 c39, .int .u64 c40]) (a' := ?_) #[true, true, true, true, true, true, true, true, false, false, false, false, false, false] rfl rfl (by kernel_rfl) (fun _ _ _ h => h) (Or.inl ⟨by rfl, ?_⟩) hHeld ?_ ?_
  · intro w' s0
    exact exec_seg_load 36 (.tmp 3) (by rfl) g0 0 (.int .i64 4 :: .int .u64 c1 :: .int .u64 c2 :: .int .u64 c3 :: .int .u64 c4 :: .int .i64 c5 :: .int .u64 c6 :: .int .u64 c7 :: .int .u64 c8 :: .int .u64 c9 :: .int .u64 c10 :: .int .u64 c11 :: .int .u64 c12 :: .int .u64 c13 :: .int .u64 c14 :: .bool c15 :: .int .u64 c16 :: .int .u64 c17 :: .int .u64 c18 :: .int .u64 c19 :: .int .i64 c20 :: .slice A21 l21.length k21 :: .int .u64 c22 :: .int .u64 c23 :: .int .u64 c24 :: .int .u64 c25 :: .int .u64 c26 :: .int .u64 c27 :: .int .u64 c28 :: .int .u64 c29 :: .int .u64 c30 :: .int .u64 c31 :: .int .u64 c32 :: .int .u64 c33 :: .int .u64 c34 :: .int .u64 c35 :: .int .u64 c36 :: .int .u64 c37 :: .bool c38 :: .int .u64 c39 :: .int .u64 c40 :: []) (by rfl) s0 (by rfl) Try.underlying36 (by rfl) (by kernel_rfl)
  rotate_left
  · simp only [Act.put, List.setIfInBounds_toArray, List.set_cons_zero, List.set_cons_succ, i64_w, i32_w]
    rfl
  refine take_ (i := 9) (N := some 41) (v := .agg #[.int .i64 4, .int .u64 c1, .int .u64 c2, .int .u64 c3, .int .u64 c4, .int .i64 c5, .int .u64 c6, .int .u64 c7, .int .u64 c8, .int .u64 c9, .int .u64 c10, .int .u64 c11, .int .u64 c12, .int .u64 c13, .int .u64 c14, .bool c15, .int .u64 c16, .int .u64 c17, .int .u64 c18, .int .u64 c19, .int .i64 c20, .slice A21 l21.length k21, .int .u64 c22, .int .u64 c23, .int .u64 c24, .int .u64 c25, .int .u64 c26, .int .u64 c27, .int .u64 c28, .int .u64 c29, .int .u64 c30, .int .u64 c31, .int .u64 c32, .int .u64 c33, .int .u64 c34, .int .u64 c35, .int .u64 c36, .int .u64 c37, .bool c38, .int .u64 c39, .int .u64 c40]) (a' := ?_) #[true, true, true, true, true, true, true, true, false, true, false, false, false, false] rfl rfl (by kernel_rfl) (fun _ _ _ h => h) (Or.inl ⟨by rfl, ?_⟩) hHeld ?_ ?_
  · intro w' s0
    exact exec_seg_load 36 (.tmp 3) (by rfl) g0 0 (.int .i64 4 :: .int .u64 c1 :: .int .u64 c2 :: .int .u64 c3 :: .int .u64 c4 :: .int .i64 c5 :: .int .u64 c6 :: .int .u64 c7 :: .int .u64 c8 :: .int .u64 c9 :: .int .u64 c10 :: .int .u64 c11 :: .int .u64 c12 :: .int .u64 c13 :: .int .u64 c14 :: .bool c15 :: .int .u64 c16 :: .int .u64 c17 :: .int .u64 c18 :: .int .u64 c19 :: .int .i64 c20 :: .slice A21 l21.length k21 :: .int .u64 c22 :: .int .u64 c23 :: .int .u64 c24 :: .int .u64 c25 :: .int .u64 c26 :: .int .u64 c27 :: .int .u64 c28 :: .int .u64 c29 :: .int .u64 c30 :: .int .u64 c31 :: .int .u64 c32 :: .int .u64 c33 :: .int .u64 c34 :: .int .u64 c35 :: .int .u64 c36 :: .int .u64 c37 :: .bool c38 :: .int .u64 c39 :: .int .u64 c40 :: []) (by rfl) s0 (by rfl) Try.underlying36 (by rfl) (by kernel_rfl)
  rotate_left
  · simp only [Act.put, List.setIfInBounds_toArray, List.set_cons_zero, List.set_cons_succ, i64_w, i32_w]
    rfl
  refine one_ (i := 8) (N := some 40) #[true, true, true, true, true, true, true, true, true, true, false, false, false, false] rfl rfl (by kernel_rfl) (by decide) (fun K hK => ?_)
  refine goes_ Try.func9 (by kernel_rfl) rfl #[.agg #[.int .i64 4, .int .u64 c1, .int .u64 c2, .int .u64 c3, .int .u64 c4, .int .i64 c5, .int .u64 c6, .int .u64 c7, .int .u64 c8, .int .u64 c9, .int .u64 c10, .int .u64 c11, .int .u64 c12, .int .u64 c13, .int .u64 c14, .bool c15, .int .u64 c16, .int .u64 c17, .int .u64 c18, .int .u64 c19, .int .i64 c20, .slice A21 l21.length k21, .int .u64 c22, .int .u64 c23, .int .u64 c24, .int .u64 c25, .int .u64 c26, .int .u64 c27, .int .u64 c28, .int .u64 c29, .int .u64 c30, .int .u64 c31, .int .u64 c32, .int .u64 c33, .int .u64 c34, .int .u64 c35, .int .u64 c36, .int .u64 c37, .bool c38, .int .u64 c39, .int .u64 c40], .int .u64 0] (by rfl) rfl rfl (by simp only [List.map_toArray, List.map_cons, List.map_nil]; rfl) ?_
  with_reducible refine (rate4_0 c1 c2 c3 c4 c5 c6 c7 c8 c9 c10 c11 c12 c13 c14 c16 c17 c18 c19 c20 c22 c23 c24 c25 c26 c27 c28 c29 c30 c31 c32 c33 c34 c35 c36 c37 c39 c40 0 c15 c38 A21 l21.length k21 Wc30 (by decide) _).mono ?_
  rintro e w6 ⟨rfl, hl⟩
  refine ⟨_, rfl, ?_⟩
  replace Bg0 := Bg0.below hl; replace HS := HS.below hl; clear hl; clear kg0_21; have kg0_21 : w6.cell? ⟨g0, 21, none⟩ = some (.slice A21 l21.length k21) := (Bg0.cell 21).trans rfl
  refine hK.out _ _ Bg0 (fun hHeld => ?_)
  clear hK K
  refine norm_ (a' := ?_) ?_ ?_
  rotate_left
  · show Act.put _ (some 40) _ = _
    simp only [Act.put, List.setIfInBounds_toArray, List.set_cons_zero, List.set_cons_succ, i64_w, i32_w]
    rfl
  refine one_ (i := 10) (N := some 42) #[true, true, true, true, true, true, true, true, true, true, true, false, false, false] rfl rfl (by kernel_rfl) (by decide) (fun K hK => ?_)
  refine goes_ Try.func9 (by kernel_rfl) rfl #[.agg #[.int .i64 4, .int .u64 c1, .int .u64 c2, .int .u64 c3, .int .u64 c4, .int .i64 c5, .int .u64 c6, .int .u64 c7, .int .u64 c8, .int .u64 c9, .int .u64 c10, .int .u64 c11, .int .u64 c12, .int .u64 c13, .int .u64 c14, .bool c15, .int .u64 c16, .int .u64 c17, .int .u64 c18, .int .u64 c19, .int .i64 c20, .slice A21 l21.length k21, .int .u64 c22, .int .u64 c23, .int .u64 c24, .int .u64 c25, .int .u64 c26, .int .u64 c27, .int .u64 c28, .int .u64 c29, .int .u64 c30, .int .u64 c31, .int .u64 c32, .int .u64 c33, .int .u64 c34, .int .u64 c35, .int .u64 c36, .int .u64 c37, .bool c38, .int .u64 c39, .int .u64 c40], .int .u64 1] (by rfl) rfl rfl (by simp only [List.map_toArray, List.map_cons, List.map_nil]; rfl) ?_
  with_reducible refine (rate4_0 c1 c2 c3 c4 c5 c6 c7 c8 c9 c10 c11 c12 c13 c14 c16 c17 c18 c19 c20 c22 c23 c24 c25 c26 c27 c28 c29 c30 c31 c32 c33 c34 c35 c36 c37 c39 c40 1 c15 c38 A21 l21.length k21 Wc30 (by decide) _).mono ?_
  rintro e w7 ⟨rfl, hl⟩
  refine ⟨_, rfl, ?_⟩
  replace Bg0 := Bg0.below hl; replace HS := HS.below hl; clear hl; clear kg0_21; have kg0_21 : w7.cell? ⟨g0, 21, none⟩ = some (.slice A21 l21.length k21) := (Bg0.cell 21).trans rfl
  refine hK.out _ _ Bg0 (fun hHeld => ?_)
  clear hK K
  refine norm_ (a' := ?_) ?_ ?_
  rotate_left
  · show Act.put _ (some 42) _ = _
    simp only [Act.put, List.setIfInBounds_toArray, List.set_cons_zero, List.set_cons_succ, i64_w, i32_w]
    rfl
  refine pure_ (i := 11) (N := some 43) (v := ?_) (a' := ?_) #[true, true, true, true, true, true, true, true, true, true, true, true, false, false] rfl rfl (by kernel_rfl) (fun _ _ _ h => h) (Or.inl ⟨by rfl, ?_⟩) ?_ ?_
  rotate_left
  · intro w'
    go_simp
    with_reducible rfl
  rotate_left
  · simp only [Act.put, List.setIfInBounds_toArray, List.set_cons_zero, List.set_cons_succ, i64_w, i32_w]
    rfl
  refine pure_ (i := 12) (N := some 44) (v := ?_) (a' := ?_) #[true, true, true, true, true, true, true, true, true, true, true, true, true, false] rfl rfl (by kernel_rfl) (fun _ _ _ h => h) (Or.inl ⟨by rfl, ?_⟩) ?_ ?_
  rotate_left
  · intro w'
    go_simp
    with_reducible rfl
  rotate_left
  · simp only [Act.put, List.setIfInBounds_toArray, List.set_cons_zero, List.set_cons_succ, i64_w, i32_w]
    rfl
  refine pure_ (i := 13) (N := some 6) (v := ?_) (a' := ?_) #[true, true, true, true, true, true, true, true, true, true, true, true, true, true] rfl rfl (by kernel_rfl) (fun _ _ _ h => h) (Or.inl ⟨by rfl, ?_⟩) ?_ ?_
  rotate_left
  · intro w'
    go_simp
    with_reducible rfl
  rotate_left
  · simp only [Act.put, List.setIfInBounds_toArray, List.set_cons_zero, List.set_cons_succ, i64_w, i32_w]
    rfl
  refine done_ (by kernel_rfl) ?_
  refine letter ?_
  intro w8 hW
  have Bn_ : Blk w8 g0 36 (.int .i64 4 :: .int .u64 c1 :: .int .u64 c2 :: .int .u64 c3 :: .int .u64 c4 :: .int .i64 c5 :: .int .u64 c6 :: .int .u64 c7 :: .int .u64 c8 :: .int .u64 c9 :: .int .u64 c10 :: .int .u64 c11 :: .int .u64 c12 :: .int .u64 c13 :: .int .u64 c14 :: .bool c15 :: .int .u64 c16 :: .int .u64 c17 :: .int .u64 c18 :: .int .u64 c19 :: .int .i64 c20 :: .slice A21 l21.length k21 :: .int .u64 c22 :: .int .u64 c23 :: .int .u64 c24 :: .int .u64 c25 :: .int .u64 c26 :: .int .u64 c27 :: .int .u64 c28 :: .int .u64 c29 :: .int .u64 c30 :: .int .u64 c31 :: .int .u64 c32 :: .int .u64 c33 :: .int .u64 c34 :: .int .u64 c35 :: .int .u64 c36 :: .int .u64 c37 :: .bool c38 :: .int .u64 c39 :: .int .u64 c40 :: []) := (by rw [hW]; (repeat (first | (with_reducible refine Blk.drewN ?_ _) | (with_reducible refine Blk.drew ?_))); exact Bg0)
  replace Bg0 := Bn_
  clear Bn_
  have HS_ : Since w w8 := (by rw [hW]; repeat (first | (with_reducible exact HS) | (with_reducible refine Since.drewN ?_ _) | (with_reducible refine Since.drew ?_)))
  replace HS := HS_
  clear HS_ hW
  clear kg0_21; have kg0_21 : w8.cell? ⟨g0, 21, none⟩ = some (.slice A21 l21.length k21) := (Bg0.cell 21).trans rfl
  go_wp2
  all_goals (go_ret; exact ⟨by first | rfl | (simp; done), HS.out⟩)
set_option maxRecDepth 100000 in
set_option maxHeartbeats 4000000 in
theorem ratesN_0 (c0 c1 c2 c3 c4 c5 c6 c7 c8 c9 c10 c11 c12 c13 c14 c16 c17 c18 c19 c20 c22 c23 c24 c25 c26 c27 c28 c29 c30 c31 c32 c33 c34 c35 c36 c37 c39 c40 sm more : Int) (c15 c38 : Bool) (A21 : Option Addr) (k21 : Nat)  (w : World) (l21 : List S90) (hr21 : Kd.C k90 w A21 l21.length l21) (hc21 : l21.length ≤ k21) (hw21 : SWf l21) (h0 : (decide (100 < (l21.length : Int))) = false) (h1 : (sm == 0) = false) (h2 : (decide (more < sm)) = false) (h3 : (c0 == 3) = false) (h4 : (c0 == 1) = false) (h5 : (c0 == 2) = false) (h6 : (c0 == 4) = false) :
    Calls Try.prog 4 #[.agg #[.int .i64 c0, .int .u64 c1, .int .u64 c2, .int .u64 c3, .int .u64 c4, .int .i64 c5, .int .u64 c6, .int .u64 c7, .int .u64 c8, .int .u64 c9, .int .u64 c10, .int .u64 c11, .int .u64 c12, .int .u64 c13, .int .u64 c14, .bool c15, .int .u64 c16, .int .u64 c17, .int .u64 c18, .int .u64 c19, .int .i64 c20, .slice A21 l21.length k21, .int .u64 c22, .int .u64 c23, .int .u64 c24, .int .u64 c25, .int .u64 c26, .int .u64 c27, .int .u64 c28, .int .u64 c29, .int .u64 c30, .int .u64 c31, .int .u64 c32, .int .u64 c33, .int .u64 c34, .int .u64 c35, .int .u64 c36, .int .u64 c37, .bool c38, .int .u64 c39, .int .u64 c40], .int .u64 sm, .int .u64 more] w fun e w' => e = .returned (.bool true) ∧ Below w.heap.size w w' := by
  have hu32 := Try.underlying32
  have hu36 := Try.underlying36
  have m01 : max (0 : Int) 1 = 1 := by decide
  have m11 : max (1 : Int) 1 = 1 := by decide
  have n0 : decide (100 < l21.length) = false := by (have := h0; simp at this ⊢; omega)
  have HS := Since.refl w
  go_enter Try.func4, Try.ntmps4
  go_wp2_with (first | ((with_reducible refine gate_dst (N := 3) rfl ?_); go_must (refine seg_new ?hg (N := 3) ?hd (.int .i64 c0 :: .int .u64 c1 :: .int .u64 c2 :: .int .u64 c3 :: .int .u64 c4 :: .int .i64 c5 :: .int .u64 c6 :: .int .u64 c7 :: .int .u64 c8 :: .int .u64 c9 :: .int .u64 c10 :: .int .u64 c11 :: .int .u64 c12 :: .int .u64 c13 :: .int .u64 c14 :: .bool c15 :: .int .u64 c16 :: .int .u64 c17 :: .int .u64 c18 :: .int .u64 c19 :: .int .i64 c20 :: .slice A21 l21.length k21 :: .int .u64 c22 :: .int .u64 c23 :: .int .u64 c24 :: .int .u64 c25 :: .int .u64 c26 :: .int .u64 c27 :: .int .u64 c28 :: .int .u64 c29 :: .int .u64 c30 :: .int .u64 c31 :: .int .u64 c32 :: .int .u64 c33 :: .int .u64 c34 :: .int .u64 c35 :: .int .u64 c36 :: .int .u64 c37 :: .bool c38 :: .int .u64 c39 :: .int .u64 c40 :: []) 36 ?hr ?_; (case hd => rfl); (case hg => rfl); (case hr => first | (go_simp; done) | (go_simp; rfl) | kernel_rfl); intro g0 hg w1 hn hl; have GEg0 := ge_new HS hg; clear hg; replace HS := HS.below hl; have Bg0 := hn; clear hl hn; have kg0_21 : w1.cell? ⟨g0, 21, none⟩ = some (.slice A21 l21.length k21) := (Bg0.cell 21).trans rfl)) | ((go_at_call 8); (with_reducible refine (awake_0 _ (by decide +kernel) (by decide +kernel) (by decide +kernel) (by decide +kernel)).mono ?_); rintro e w2 ⟨rfl, hl⟩; replace Bg0 := Bg0.below hl; replace HS := HS.below hl; clear hl; clear kg0_21; have kg0_21 : w2.cell? ⟨g0, 21, none⟩ = some (.slice A21 l21.length k21) := (Bg0.cell 21).trans rfl) | ((with_reducible refine gate_dst (N := 26) rfl ?_); go_must (refine seg_load ?hg (N := 26) ?hd 36 (.tmp 3) ?ho g0 0 (.int .i64 c0 :: .int .u64 c1 :: .int .u64 c2 :: .int .u64 c3 :: .int .u64 c4 :: .int .i64 c5 :: .int .u64 c6 :: .int .u64 c7 :: .int .u64 c8 :: .int .u64 c9 :: .int .u64 c10 :: .int .u64 c11 :: .int .u64 c12 :: .int .u64 c13 :: .int .u64 c14 :: .bool c15 :: .int .u64 c16 :: .int .u64 c17 :: .int .u64 c18 :: .int .u64 c19 :: .int .i64 c20 :: .slice A21 l21.length k21 :: .int .u64 c22 :: .int .u64 c23 :: .int .u64 c24 :: .int .u64 c25 :: .int .u64 c26 :: .int .u64 c27 :: .int .u64 c28 :: .int .u64 c29 :: .int .u64 c30 :: .int .u64 c31 :: .int .u64 c32 :: .int .u64 c33 :: .int .u64 c34 :: .int .u64 c35 :: .int .u64 c36 :: .int .u64 c37 :: .bool c38 :: .int .u64 c39 :: .int .u64 c40 :: []) ?hx Bg0 ?hs Try.underlying36 ?ht ?hi ?_; (case hg => rfl); (case hd => rfl); (case ho => rfl); (case hx => first | rfl | (go_simp; done) | (go_simp; rfl)); (case hs => rfl); (case ht => rfl); (case hi => kernel_rfl))) | ((go_at_call 9); (with_reducible refine (rateN_0 c0 c1 c2 c3 c4 c5 c6 c7 c8 c9 c10 c11 c12 c13 c14 c16 c17 c18 c19 c20 c22 c23 c24 c25 c26 c27 c28 c29 c30 c31 c32 c33 c34 c35 c36 c37 c39 c40 sm c15 c38 A21 l21.length k21 _ h3 h4 h5 h6).mono ?_); rintro e w3 ⟨rfl, hl⟩; replace Bg0 := Bg0.below hl; replace HS := HS.below hl; clear hl; clear kg0_21; have kg0_21 : w3.cell? ⟨g0, 21, none⟩ = some (.slice A21 l21.length k21) := (Bg0.cell 21).trans rfl) | ((with_reducible refine gate_dst (N := 29) rfl ?_); go_must (refine seg_load ?hg (N := 29) ?hd 36 (.tmp 3) ?ho g0 0 (.int .i64 c0 :: .int .u64 c1 :: .int .u64 c2 :: .int .u64 c3 :: .int .u64 c4 :: .int .i64 c5 :: .int .u64 c6 :: .int .u64 c7 :: .int .u64 c8 :: .int .u64 c9 :: .int .u64 c10 :: .int .u64 c11 :: .int .u64 c12 :: .int .u64 c13 :: .int .u64 c14 :: .bool c15 :: .int .u64 c16 :: .int .u64 c17 :: .int .u64 c18 :: .int .u64 c19 :: .int .i64 c20 :: .slice A21 l21.length k21 :: .int .u64 c22 :: .int .u64 c23 :: .int .u64 c24 :: .int .u64 c25 :: .int .u64 c26 :: .int .u64 c27 :: .int .u64 c28 :: .int .u64 c29 :: .int .u64 c30 :: .int .u64 c31 :: .int .u64 c32 :: .int .u64 c33 :: .int .u64 c34 :: .int .u64 c35 :: .int .u64 c36 :: .int .u64 c37 :: .bool c38 :: .int .u64 c39 :: .int .u64 c40 :: []) ?hx Bg0 ?hs Try.underlying36 ?ht ?hi ?_; (case hg => rfl); (case hd => rfl); (case ho => rfl); (case hx => first | rfl | (go_simp; done) | (go_simp; rfl)); (case hs => rfl); (case ht => rfl); (case hi => kernel_rfl))) | ((go_at_call 9); (with_reducible refine (rateN_0 c0 c1 c2 c3 c4 c5 c6 c7 c8 c9 c10 c11 c12 c13 c14 c16 c17 c18 c19 c20 c22 c23 c24 c25 c26 c27 c28 c29 c30 c31 c32 c33 c34 c35 c36 c37 c39 c40 more c15 c38 A21 l21.length k21 _ h3 h4 h5 h6).mono ?_); rintro e w4 ⟨rfl, hl⟩; replace Bg0 := Bg0.below hl; replace HS := HS.below hl; clear hl; clear kg0_21; have kg0_21 : w4.cell? ⟨g0, 21, none⟩ = some (.slice A21 l21.length k21) := (Bg0.cell 21).trans rfl))
  refine start_ (n := 14) (S := fun w' => Blk w' g0 36 (.int .i64 c0 :: .int .u64 c1 :: .int .u64 c2 :: .int .u64 c3 :: .int .u64 c4 :: .int .i64 c5 :: .int .u64 c6 :: .int .u64 c7 :: .int .u64 c8 :: .int .u64 c9 :: .int .u64 c10 :: .int .u64 c11 :: .int .u64 c12 :: .int .u64 c13 :: .int .u64 c14 :: .bool c15 :: .int .u64 c16 :: .int .u64 c17 :: .int .u64 c18 :: .int .u64 c19 :: .int .i64 c20 :: .slice A21 l21.length k21 :: .int .u64 c22 :: .int .u64 c23 :: .int .u64 c24 :: .int .u64 c25 :: .int .u64 c26 :: .int .u64 c27 :: .int .u64 c28 :: .int .u64 c29 :: .int .u64 c30 :: .int .u64 c31 :: .int .u64 c32 :: .int .u64 c33 :: .int .u64 c34 :: .int .u64 c35 :: .int .u64 c36 :: .int .u64 c37 :: .bool c38 :: .int .u64 c39 :: .int .u64 c40 :: [])) (ds := []) #[false, false, false, false, false, false, false, false, false, false, false, false, false, false] (by kernel_rfl) rfl rfl Bg0.drew (fun hHeld => ?_)
  generalize hWd : World.drew w4 = w5 at hHeld ⊢
  have hl : Below w4.heap.size w4 w5 := (by rw [← hWd]; exact below_drew1 (Below.refl _ _))
  clear hWd
  replace Bg0 := Bg0.below hl; replace HS := HS.below hl; clear hl; clear kg0_21; have kg0_21 : w5.cell? ⟨g0, 21, none⟩ = some (.slice A21 l21.length k21) := (Bg0.cell 21).trans rfl
  refine pure_ (i := 0) (N := some 32) (v := ?_) (a' := ?_) #[true, false, false, false, false, false, false, false, false, false, false, false, false, false] rfl rfl (by kernel_rfl) (fun _ _ _ h => h) (Or.inl ⟨by rfl, ?_⟩) ?_ ?_
  rotate_left
  · intro w'
    go_simp
    with_reducible rfl
  rotate_left
  · simp only [Act.put, List.setIfInBounds_toArray, List.set_cons_zero, List.set_cons_succ, i64_w, i32_w]
    rfl
  refine pure_ (i := 1) (N := some 33) (v := ?_) (a' := ?_) #[true, true, false, false, false, false, false, false, false, false, false, false, false, false] rfl rfl (by kernel_rfl) (fun _ _ _ h => h) (Or.inl ⟨by rfl, ?_⟩) ?_ ?_
  rotate_left
  · intro w'
    go_simp
    with_reducible rfl
  rotate_left
  · simp only [Act.put, List.setIfInBounds_toArray, List.set_cons_zero, List.set_cons_succ, i64_w, i32_w]
    rfl
  refine pure_ (i := 2) (N := some 34) (v := ?_) (a' := ?_) #[true, true, true, false, false, false, false, false, false, false, false, false, false, false] rfl rfl (by kernel_rfl) (fun _ _ _ h => h) (Or.inl ⟨by rfl, ?_⟩) ?_ ?_
  rotate_left
  · intro w'
    go_simp
    with_reducible rfl
  rotate_left
  · simp only [Act.put, List.setIfInBounds_toArray, List.set_cons_zero, List.set_cons_succ, i64_w, i32_w]
    rfl
  refine pure_ (i := 3) (N := some 35) (v := ?_) (a' := ?_) #[true, true, true, true, false, false, false, false, false, false, false, false, false, false] rfl rfl (by kernel_rfl) (fun _ _ _ h => h) (Or.inl ⟨by rfl, ?_⟩) ?_ ?_
  rotate_left
  · intro w'
    go_simp
    with_reducible rfl
  rotate_left
  · simp only [Act.put, List.setIfInBounds_toArray, List.set_cons_zero, List.set_cons_succ, i64_w, i32_w]
    rfl
  refine pure_ (i := 4) (N := some 36) (v := ?_) (a' := ?_) #[true, true, true, true, true, false, false, false, false, false, false, false, false, false] rfl rfl (by kernel_rfl) (fun _ _ _ h => h) (Or.inl ⟨by rfl, ?_⟩) ?_ ?_
  rotate_left
  · intro w'
    go_simp
    with_reducible rfl
  rotate_left
  · simp only [Act.put, List.setIfInBounds_toArray, List.set_cons_zero, List.set_cons_succ, i64_w, i32_w]
    rfl
  refine pure_ (i := 5) (N := some 37) (v := ?_) (a' := ?_) #[true, true, true, true, true, true, false, false, false, false, false, false, false, false] rfl rfl (by kernel_rfl) (fun _ _ _ h => h) (Or.inl ⟨by rfl, ?_⟩) ?_ ?_
  rotate_left
  · intro w'
    go_simp
    with_reducible rfl
  rotate_left
  · simp only [Act.put, List.setIfInBounds_toArray, List.set_cons_zero, List.set_cons_succ, i64_w, i32_w]
    rfl
  refine pure_ (i := 6) (N := some 38) (v := ?_) (a' := ?_) #[true, true, true, true, true, true, true, false, false, false, false, false, false, false] rfl rfl (by kernel_rfl) (fun _ _ _ h => h) (Or.inl ⟨by rfl, ?_⟩) ?_ ?_
  rotate_left
  · intro w'
    go_simp
    with_reducible rfl
  rotate_left
  · simp only [Act.put, List.setIfInBounds_toArray, List.set_cons_zero, List.set_cons_succ, i64_w, i32_w]
    rfl
  refine take_ (i := 7) (N := some 39) (v := .agg #[.int .i64 c0, .int .u64 c1, .int .u64 c2, .int .u64 c3, .int .u64 c4, .int .i64 c5, .int .u64 c6, .int .u64 c7, .int .u64 c8, .int .u64 c9, .int .u64 c10, .int .u64 c11, .int .u64 c12, .int .u64 c13, .int .u64 c14, .bool c15, .int .u64 c16, .int .u64 c17, .int .u64 c18, .int .u64 c19, .int .i64 c20, .slice A21 l21.length k21, .int .u64 c22, .int .u64 c23, .int .u64 c24, .int .u64 c25, .int .u64 c26, .int .u64 c27, .int .u64 c28, .int .u64 c29, .int .u64 c30, .int .u64 c31, .int .u64 c32, .int .u64 c33, .int .u64 c34, .int .u64 c35, .int .u64 c36, .int .u64 c37, .bool c38, .int .u64 c39, .int .u64 c40]) (a' := ?_) #[true, true, true, true, true, true, true, true, false, false, false, false, false, false] rfl rfl (by kernel_rfl) (fun _ _ _ h => h) (Or.inl ⟨by rfl, ?_⟩) hHeld ?_ ?_
  · intro w' s0
    exact exec_seg_load 36 (.tmp 3) (by rfl) g0 0 (.int .i64 c0 :: .int .u64 c1 :: .int .u64 c2 :: .int .u64 c3 :: .int .u64 c4 :: .int .i64 c5 :: .int .u64 c6 :: .int .u64 c7 :: .int .u64 c8 :: .int .u64 c9 :: .int .u64 c10 :: .int .u64 c11 :: .int .u64 c12 :: .int .u64 c13 :: .int .u64 c14 :: .bool c15 :: .int .u64 c16 :: .int .u64 c17 :: .int .u64 c18 :: .int .u64 c19 :: .int .i64 c20 :: .slice A21 l21.length k21 :: .int .u64 c22 :: .int .u64 c23 :: .int .u64 c24 :: .int .u64 c25 :: .int .u64 c26 :: .int .u64 c27 :: .int .u64 c28 :: .int .u64 c29 :: .int .u64 c30 :: .int .u64 c31 :: .int .u64 c32 :: .int .u64 c33 :: .int .u64 c34 :: .int .u64 c35 :: .int .u64 c36 :: .int .u64 c37 :: .bool c38 :: .int .u64 c39 :: .int .u64 c40 :: []) (by rfl) s0 (by rfl) Try.underlying36 (by rfl) (by kernel_rfl)
  rotate_left
  · simp only [Act.put, List.setIfInBounds_toArray, List.set_cons_zero, List.set_cons_succ, i64_w, i32_w]
    rfl
  refine take_ (i := 9) (N := some 41) (v := .agg #[.int .i64 c0, .int .u64 c1, .int .u64 c2, .int .u64 c3, .int .u64 c4, .int .i64 c5, .int .u64 c6, .int .u64 c7, .int .u64 c8, .int .u64 c9, .int .u64 c10, .int .u64 c11, .int .u64 c12, .int .u64 c13, .int .u64 c14, .bool c15, .int .u64 c16, .int .u64 c17, .int .u64 c18, .int .u64 c19, .int .i64 c20, .slice A21 l21.length k21, .int .u64 c22, .int .u64 c23, .int .u64 c24, .int .u64 c25, .int .u64 c26, .int .u64 c27, .int .u64 c28, .int .u64 c29, .int .u64 c30, .int .u64 c31, .int .u64 c32, .int .u64 c33, .int .u64 c34, .int .u64 c35, .int .u64 c36, .int .u64 c37, .bool c38, .int .u64 c39, .int .u64 c40]) (a' := ?_) #[true, true, true, true, true, true, true, true, false, true, false, false, false, false] rfl rfl (by kernel_rfl) (fun _ _ _ h => h) (Or.inl ⟨by rfl, ?_⟩) hHeld ?_ ?_
  · intro w' s0
    exact exec_seg_load 36 (.tmp 3) (by rfl) g0 0 (.int .i64 c0 :: .int .u64 c1 :: .int .u64 c2 :: .int .u64 c3 :: .int .u64 c4 :: .int .i64 c5 :: .int .u64 c6 :: .int .u64 c7 :: .int .u64 c8 :: .int .u64 c9 :: .int .u64 c10 :: .int .u64 c11 :: .int .u64 c12 :: .int .u64 c13 :: .int .u64 c14 :: .bool c15 :: .int .u64 c16 :: .int .u64 c17 :: .int .u64 c18 :: .int .u64 c19 :: .int .i64 c20 :: .slice A21 l21.length k21 :: .int .u64 c22 :: .int .u64 c23 :: .int .u64 c24 :: .int .u64 c25 :: .int .u64 c26 :: .int .u64 c27 :: .int .u64 c28 :: .int .u64 c29 :: .int .u64 c30 :: .int .u64 c31 :: .int .u64 c32 :: .int .u64 c33 :: .int .u64 c34 :: .int .u64 c35 :: .int .u64 c36 :: .int .u64 c37 :: .bool c38 :: .int .u64 c39 :: .int .u64 c40 :: []) (by rfl) s0 (by rfl) Try.underlying36 (by rfl) (by kernel_rfl)
  rotate_left
  · simp only [Act.put, List.setIfInBounds_toArray, List.set_cons_zero, List.set_cons_succ, i64_w, i32_w]
    rfl
  refine one_ (i := 8) (N := some 40) #[true, true, true, true, true, true, true, true, true, true, false, false, false, false] rfl rfl (by kernel_rfl) (by decide) (fun K hK => ?_)
  refine goes_ Try.func9 (by kernel_rfl) rfl #[.agg #[.int .i64 c0, .int .u64 c1, .int .u64 c2, .int .u64 c3, .int .u64 c4, .int .i64 c5, .int .u64 c6, .int .u64 c7, .int .u64 c8, .int .u64 c9, .int .u64 c10, .int .u64 c11, .int .u64 c12, .int .u64 c13, .int .u64 c14, .bool c15, .int .u64 c16, .int .u64 c17, .int .u64 c18, .int .u64 c19, .int .i64 c20, .slice A21 l21.length k21, .int .u64 c22, .int .u64 c23, .int .u64 c24, .int .u64 c25, .int .u64 c26, .int .u64 c27, .int .u64 c28, .int .u64 c29, .int .u64 c30, .int .u64 c31, .int .u64 c32, .int .u64 c33, .int .u64 c34, .int .u64 c35, .int .u64 c36, .int .u64 c37, .bool c38, .int .u64 c39, .int .u64 c40], .int .u64 0] (by rfl) rfl rfl (by simp only [List.map_toArray, List.map_cons, List.map_nil]; rfl) ?_
  with_reducible refine (rateN_0 c0 c1 c2 c3 c4 c5 c6 c7 c8 c9 c10 c11 c12 c13 c14 c16 c17 c18 c19 c20 c22 c23 c24 c25 c26 c27 c28 c29 c30 c31 c32 c33 c34 c35 c36 c37 c39 c40 0 c15 c38 A21 l21.length k21 _ h3 h4 h5 h6).mono ?_
  rintro e w6 ⟨rfl, hl⟩
  refine ⟨_, rfl, ?_⟩
  replace Bg0 := Bg0.below hl; replace HS := HS.below hl; clear hl; clear kg0_21; have kg0_21 : w6.cell? ⟨g0, 21, none⟩ = some (.slice A21 l21.length k21) := (Bg0.cell 21).trans rfl
  refine hK.out _ _ Bg0 (fun hHeld => ?_)
  clear hK K
  refine norm_ (a' := ?_) ?_ ?_
  rotate_left
  · show Act.put _ (some 40) _ = _
    simp only [Act.put, List.setIfInBounds_toArray, List.set_cons_zero, List.set_cons_succ, i64_w, i32_w]
    rfl
  refine one_ (i := 10) (N := some 42) #[true, true, true, true, true, true, true, true, true, true, true, false, false, false] rfl rfl (by kernel_rfl) (by decide) (fun K hK => ?_)
  refine goes_ Try.func9 (by kernel_rfl) rfl #[.agg #[.int .i64 c0, .int .u64 c1, .int .u64 c2, .int .u64 c3, .int .u64 c4, .int .i64 c5, .int .u64 c6, .int .u64 c7, .int .u64 c8, .int .u64 c9, .int .u64 c10, .int .u64 c11, .int .u64 c12, .int .u64 c13, .int .u64 c14, .bool c15, .int .u64 c16, .int .u64 c17, .int .u64 c18, .int .u64 c19, .int .i64 c20, .slice A21 l21.length k21, .int .u64 c22, .int .u64 c23, .int .u64 c24, .int .u64 c25, .int .u64 c26, .int .u64 c27, .int .u64 c28, .int .u64 c29, .int .u64 c30, .int .u64 c31, .int .u64 c32, .int .u64 c33, .int .u64 c34, .int .u64 c35, .int .u64 c36, .int .u64 c37, .bool c38, .int .u64 c39, .int .u64 c40], .int .u64 1] (by rfl) rfl rfl (by simp only [List.map_toArray, List.map_cons, List.map_nil]; rfl) ?_
  with_reducible refine (rateN_0 c0 c1 c2 c3 c4 c5 c6 c7 c8 c9 c10 c11 c12 c13 c14 c16 c17 c18 c19 c20 c22 c23 c24 c25 c26 c27 c28 c29 c30 c31 c32 c33 c34 c35 c36 c37 c39 c40 1 c15 c38 A21 l21.length k21 _ h3 h4 h5 h6).mono ?_
  rintro e w7 ⟨rfl, hl⟩
  refine ⟨_, rfl, ?_⟩
  replace Bg0 := Bg0.below hl; replace HS := HS.below hl; clear hl; clear kg0_21; have kg0_21 : w7.cell? ⟨g0, 21, none⟩ = some (.slice A21 l21.length k21) := (Bg0.cell 21).trans rfl
  refine hK.out _ _ Bg0 (fun hHeld => ?_)
  clear hK K
  refine norm_ (a' := ?_) ?_ ?_
  rotate_left
  · show Act.put _ (some 42) _ = _
    simp only [Act.put, List.setIfInBounds_toArray, List.set_cons_zero, List.set_cons_succ, i64_w, i32_w]
    rfl
  refine pure_ (i := 11) (N := some 43) (v := ?_) (a' := ?_) #[true, true, true, true, true, true, true, true, true, true, true, true, false, false] rfl rfl (by kernel_rfl) (fun _ _ _ h => h) (Or.inl ⟨by rfl, ?_⟩) ?_ ?_
  rotate_left
  · intro w'
    go_simp
    with_reducible rfl
  rotate_left
  · simp only [Act.put, List.setIfInBounds_toArray, List.set_cons_zero, List.set_cons_succ, i64_w, i32_w]
    rfl
  refine pure_ (i := 12) (N := some 44) (v := ?_) (a' := ?_) #[true, true, true, true, true, true, true, true, true, true, true, true, true, false] rfl rfl (by kernel_rfl) (fun _ _ _ h => h) (Or.inl ⟨by rfl, ?_⟩) ?_ ?_
  rotate_left
  · intro w'
    go_simp
    with_reducible rfl
  rotate_left
  · simp only [Act.put, List.setIfInBounds_toArray, List.set_cons_zero, List.set_cons_succ, i64_w, i32_w]
    rfl
  refine pure_ (i := 13) (N := some 6) (v := ?_) (a' := ?_) #[true, true, true, true, true, true, true, true, true, true, true, true, true, true] rfl rfl (by kernel_rfl) (fun _ _ _ h => h) (Or.inl ⟨by rfl, ?_⟩) ?_ ?_
  rotate_left
  · intro w'
    go_simp
    with_reducible rfl
  rotate_left
  · simp only [Act.put, List.setIfInBounds_toArray, List.set_cons_zero, List.set_cons_succ, i64_w, i32_w]
    rfl
  refine done_ (by kernel_rfl) ?_
  refine letter ?_
  intro w8 hW
  have Bn_ : Blk w8 g0 36 (.int .i64 c0 :: .int .u64 c1 :: .int .u64 c2 :: .int .u64 c3 :: .int .u64 c4 :: .int .i64 c5 :: .int .u64 c6 :: .int .u64 c7 :: .int .u64 c8 :: .int .u64 c9 :: .int .u64 c10 :: .int .u64 c11 :: .int .u64 c12 :: .int .u64 c13 :: .int .u64 c14 :: .bool c15 :: .int .u64 c16 :: .int .u64 c17 :: .int .u64 c18 :: .int .u64 c19 :: .int .i64 c20 :: .slice A21 l21.length k21 :: .int .u64 c22 :: .int .u64 c23 :: .int .u64 c24 :: .int .u64 c25 :: .int .u64 c26 :: .int .u64 c27 :: .int .u64 c28 :: .int .u64 c29 :: .int .u64 c30 :: .int .u64 c31 :: .int .u64 c32 :: .int .u64 c33 :: .int .u64 c34 :: .int .u64 c35 :: .int .u64 c36 :: .int .u64 c37 :: .bool c38 :: .int .u64 c39 :: .int .u64 c40 :: []) := (by rw [hW]; (repeat (first | (with_reducible refine Blk.drewN ?_ _) | (with_reducible refine Blk.drew ?_))); exact Bg0)
  replace Bg0 := Bn_
  clear Bn_
  have HS_ : Since w w8 := (by rw [hW]; repeat (first | (with_reducible exact HS) | (with_reducible refine Since.drewN ?_ _) | (with_reducible refine Since.drew ?_)))
  replace HS := HS_
  clear HS_ hW
  clear kg0_21; have kg0_21 : w8.cell? ⟨g0, 21, none⟩ = some (.slice A21 l21.length k21) := (Bg0.cell 21).trans rfl
  go_wp2
  all_goals (go_ret; exact ⟨by first | rfl | (simp; done), HS.out⟩)
end Go.Proofs.Ytpgffmnbdggpnaa.PCtl
