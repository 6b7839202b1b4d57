/- A controller that is past its slow start does just what its own window's chapter says of packets that came, and one of a kind leaves all other windows as they were: for every controller of at most a hundred rates, with no condition. -/
import Derived.Deep.DeepMust
import Derived.Test.YtpgffmnbdggpnaaCtlM
import Derived.Test.YtpgffmnbdggpnaaCtlM3
import Derived.Test.YtpgffmnbdggpnaaPCvEv90
namespace Go.Proofs.Ytpgffmnbdggpnaa.PCv
open Go.RowKit Go.Proofs.YtpgffmnbdggpnaaW.PrintWords Go.Proofs.YtpgffmnbdggpnaaW.PrintLast Go.Proofs.YtpgffmnbdggpnaaW.PrintMore
set_option linter.unusedVariables false
set_option linter.unusedSimpArgs false
theorem same_law (c0 : Int) (c1 : Int) (c2 : Int) (c3 : Int) (c4 : Int) (c5 : Int) (c6 : Int) (c7 : Int) (c8 : Int) (c9 : Int) (c10 : Int) (c11 : Int) (c12 : Int) (c13 : Int) (c14 : Int) (c15 : Bool) (c16 : Int) (c17 : Int) (c18 : Int) (c19 : Int) (c20 : Int) (A21 : Option Addr) (k21 : Nat) (l21 : List S90) (c22 : Int) (c23 : Int) (c24 : Int) (c25 : Int) (c26 : Int) (c27 : Int) (c28 : Int) (c29 : Int) (c30 : Int) (c31 : Int) (c32 : Int) (c33 : Int) (c34 : Int) (c35 : Int) (c36 : Int) (c37 : Int) (c38 : Bool) (c39 : Int) (c40 : Int) (g_0 g_1 g_2 g_3 g_4 g_5 g_6 g_7 : Int) (g_8 g_9 : Bool) (v0 : (Lit.int .i64 c0).wf = true) (v1 : (Lit.int .u64 c1).wf = true) (v2 : (Lit.int .u64 c2).wf = true) (v3 : (Lit.int .u64 c3).wf = true) (v4 : (Lit.int .u64 c4).wf = true) (v5 : (Lit.int .i64 c5).wf = true) (v6 : (Lit.int .u64 c6).wf = true) (v7 : (Lit.int .u64 c7).wf = true) (v8 : (Lit.int .u64 c8).wf = true) (v9 : (Lit.int .u64 c9).wf = true) (v10 : (Lit.int .u64 c10).wf = true) (v11 : (Lit.int .u64 c11).wf = true) (v12 : (Lit.int .u64 c12).wf = true) (v13 : (Lit.int .u64 c13).wf = true) (v14 : (Lit.int .u64 c14).wf = true) (v16 : (Lit.int .u64 c16).wf = true) (v17 : (Lit.int .u64 c17).wf = true) (v18 : (Lit.int .u64 c18).wf = true) (v19 : (Lit.int .u64 c19).wf = true) (v20 : (Lit.int .i64 c20).wf = true) (x21 : ∀ x ∈ l21, WfS90 x) (v22 : (Lit.int .u64 c22).wf = true) (v23 : (Lit.int .u64 c23).wf = true) (v24 : (Lit.int .u64 c24).wf = true) (v25 : (Lit.int .u64 c25).wf = true) (v26 : (Lit.int .u64 c26).wf = true) (v27 : (Lit.int .u64 c27).wf = true) (v28 : (Lit.int .u64 c28).wf = true) (v29 : (Lit.int .u64 c29).wf = true) (v30 : (Lit.int .u64 c30).wf = true) (v31 : (Lit.int .u64 c31).wf = true) (v32 : (Lit.int .u64 c32).wf = true) (v33 : (Lit.int .u64 c33).wf = true) (v34 : (Lit.int .u64 c34).wf = true) (v35 : (Lit.int .u64 c35).wf = true) (v36 : (Lit.int .u64 c36).wf = true) (v37 : (Lit.int .u64 c37).wf = true) (v39 : (Lit.int .u64 c39).wf = true) (v40 : (Lit.int .u64 c40).wf = true) (y0 : (Lit.int .u64 g_0).wf = true) (y1 : (Lit.int .u64 g_1).wf = true) (y2 : (Lit.int .u64 g_2).wf = true) (y3 : (Lit.int .u64 g_3).wf = true) (y4 : (Lit.int .u64 g_4).wf = true) (y5 : (Lit.int .u64 g_5).wf = true) (y6 : (Lit.int .u64 g_6).wf = true) (y7 : (Lit.int .u64 g_7).wf = true) (w : World) (hr21 : Kd.C k90 w A21 l21.length l21) (hc21 : l21.length ≤ k21) :
    Calls Try.prog 5 #[.agg #[.int .i64 c0, .int .u64 c1, .int .u64 c2, .int .u64 c3, .int .u64 c4, .int .i64 c5, .int .u64 c6, .int .u64 c7, .int .u64 c8, .int .u64 c9, .int .u64 c10, .int .u64 c11, .int .u64 c12, .int .u64 c13, .int .u64 c14, .bool c15, .int .u64 c16, .int .u64 c17, .int .u64 c18, .int .u64 c19, .int .i64 c20, .slice A21 l21.length k21, .int .u64 c22, .int .u64 c23, .int .u64 c24, .int .u64 c25, .int .u64 c26, .int .u64 c27, .int .u64 c28, .int .u64 c29, .int .u64 c30, .int .u64 c31, .int .u64 c32, .int .u64 c33, .int .u64 c34, .int .u64 c35, .int .u64 c36, .int .u64 c37, .bool c38, .int .u64 c39, .int .u64 c40], .agg #[.int .u64 g_0, .int .u64 g_1, .int .u64 g_2, .int .u64 g_3, .int .u64 g_4, .int .u64 g_5, .int .u64 g_6, .int .u64 g_7, .bool g_8, .bool g_9]] w fun e w' => e = .returned (.bool true) ∧ Below w.heap.size w w' := by
  have Wc1 := wf64 v1
  have Wc2 := wf64 v2
  have Wc3 := wf64 v3
  have Wc4 := wf64 v4
  have Wc6 := wf64 v6
  have Wc7 := wf64 v7
  have Wc8 := wf64 v8
  have Wc9 := wf64 v9
  have Wc10 := wf64 v10
  have Wc11 := wf64 v11
  have Wc12 := wf64 v12
  have Wc13 := wf64 v13
  have Wc14 := wf64 v14
  have Wc16 := wf64 v16
  have Wc17 := wf64 v17
  have Wc18 := wf64 v18
  have Wc19 := wf64 v19
  have Wc22 := wf64 v22
  have Wc23 := wf64 v23
  have Wc24 := wf64 v24
  have Wc25 := wf64 v25
  have Wc26 := wf64 v26
  have Wc27 := wf64 v27
  have Wc28 := wf64 v28
  have Wc29 := wf64 v29
  have Wc30 := wf64 v30
  have Wc31 := wf64 v31
  have Wc32 := wf64 v32
  have Wc33 := wf64 v33
  have Wc34 := wf64 v34
  have Wc35 := wf64 v35
  have Wc36 := wf64 v36
  have Wc37 := wf64 v37
  have Wc39 := wf64 v39
  have Wc40 := wf64 v40
  have Wg_0 := wf64 y0
  have Wg_1 := wf64 y1
  have Wg_2 := wf64 y2
  have Wg_3 := wf64 y3
  have Wg_4 := wf64 y4
  have Wg_5 := wf64 y5
  have Wg_6 := wf64 y6
  have Wg_7 := wf64 y7
  have hw21 : SWf l21 := fun x hx => ⟨wf64 (x21 x hx).1, wf64 (x21 x hx).2⟩
  by_cases e1 : 100 < (l21.length : Int)
  · have f0 := decide_eq_true e1
    exact sameE_0 c0 c1 c2 c3 c4 c5 c6 c7 c8 c9 c10 c11 c12 c13 c14 c16 c17 c18 c19 c20 c22 c23 c24 c25 c26 c27 c28 c29 c30 c31 c32 c33 c34 c35 c36 c37 c39 c40 g_0 g_1 g_2 g_3 g_4 g_5 g_6 g_7 c15 c38 g_8 g_9 A21 k21 w l21 hr21 hc21 hw21 f0
  have f0 := decide_eq_false e1
  by_cases e2 : c0 < 1
  · have g1 := decide_eq_true e2
    exact sameE_1 c0 c1 c2 c3 c4 c5 c6 c7 c8 c9 c10 c11 c12 c13 c14 c16 c17 c18 c19 c20 c22 c23 c24 c25 c26 c27 c28 c29 c30 c31 c32 c33 c34 c35 c36 c37 c39 c40 g_0 g_1 g_2 g_3 g_4 g_5 g_6 g_7 c15 c38 g_8 g_9 A21 k21 w l21 hr21 hc21 hw21 f0 g1
  have g1 := decide_eq_false e2
  by_cases e3 : 4 < c0
  · have g2 := decide_eq_true e3
    exact sameE_2 c0 c1 c2 c3 c4 c5 c6 c7 c8 c9 c10 c11 c12 c13 c14 c16 c17 c18 c19 c20 c22 c23 c24 c25 c26 c27 c28 c29 c30 c31 c32 c33 c34 c35 c36 c37 c39 c40 g_0 g_1 g_2 g_3 g_4 g_5 g_6 g_7 c15 c38 g_8 g_9 A21 k21 w l21 hr21 hc21 hw21 f0 g1 g2
  by_cases z1 : c0 = 1
  · subst z1
    exact same1_0 c1 c2 c3 c4 c5 c6 c7 c8 c9 c10 c11 c12 c13 c14 c16 c17 c18 c19 c20 c22 c23 c24 c25 c26 c27 c28 c29 c30 c31 c32 c33 c34 c35 c36 c37 c39 c40 g_0 g_1 g_2 g_3 g_4 g_5 g_6 g_7 c15 c38 g_8 g_9 A21 k21 Wc1 Wc4 Wg_1 w l21 hr21 hc21 hw21 f0
  by_cases z2 : c0 = 2
  · subst z2
    exact same2_0 c1 c2 c3 c4 c5 c6 c7 c8 c9 c10 c11 c12 c13 c14 c16 c17 c18 c19 c20 c22 c23 c24 c25 c26 c27 c28 c29 c30 c31 c32 c33 c34 c35 c36 c37 c39 c40 g_0 g_1 g_2 g_3 g_4 g_5 g_6 g_7 c15 c38 g_8 g_9 A21 k21 Wc12 Wc13 Wc14 Wc16 Wc17 Wc18 Wc19 Wg_0 Wg_1 Wg_5 w l21 hr21 hc21 hw21 f0
  by_cases z3 : c0 = 3
  · subst z3
    exact same3_0 c1 c2 c3 c4 c5 c6 c7 c8 c9 c10 c11 c12 c13 c14 c16 c17 c18 c19 c20 c22 c23 c24 c25 c26 c27 c28 c29 c30 c31 c32 c33 c34 c35 c36 c37 c39 c40 g_0 g_1 g_2 g_3 g_4 g_5 g_6 g_7 c15 c38 g_8 g_9 A21 k21 Wc22 Wc23 Wc24 Wc25 Wc26 Wc27 Wc28 Wc29 Wg_5 Wg_7 w l21 hr21 hc21 hw21 f0
  have z4 : c0 = 4 := by omega
  subst z4
  exact same4_0 c1 c2 c3 c4 c5 c6 c7 c8 c9 c10 c11 c12 c13 c14 c16 c17 c18 c19 c20 c22 c23 c24 c25 c26 c27 c28 c29 c30 c31 c32 c33 c34 c35 c36 c37 c39 c40 g_0 g_1 g_2 g_3 g_4 g_5 g_6 g_7 c15 c38 g_8 g_9 A21 k21 Wc30 Wc31 Wc32 Wc33 Wc34 Wc35 Wc36 Wc37 Wg_1 Wg_4 w l21 hr21 hc21 hw21 f0
end Go.Proofs.Ytpgffmnbdggpnaa.PCv
