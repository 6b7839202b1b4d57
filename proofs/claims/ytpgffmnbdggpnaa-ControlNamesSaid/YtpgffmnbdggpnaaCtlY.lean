/- A rate rises as the time that an answer takes falls: for every controller of at most a hundred rates, with no condition. -/
import Derived.Deep.DeepMust
import Derived.Test.YtpgffmnbdggpnaaCtlX
import Derived.Test.YtpgffmnbdggpnaaPCtlEv90
namespace Go.Proofs.Ytpgffmnbdggpnaa.PCtl
open Go.RowKit Go.Proofs.YtpgffmnbdggpnaaW.PrintWords Go.Proofs.YtpgffmnbdggpnaaW.PrintLast Go.Proofs.YtpgffmnbdggpnaaW.PrintMore
set_option linter.unusedVariables false
set_option linter.unusedSimpArgs false
/-- The greater the divisor, the less is left. -/
theorem uMulDiv_anti {a b c d : Int} (ha : W64 a) (hb : W64 b) (hc : W64 c) (hd : W64 d) (h1 : 1 ≤ c) (h : c ≤ d) : uMulDiv a b d ≤ uMulDiv a b c := by
  have hp := Int.mul_nonneg ha.1 hb.1
  have w1 := (uMulDiv_w ha hb hd).2
  unfold uMulDiv at *
  generalize a * b = p at *
  by_cases hz : p = 0
  · rw [if_pos hz, if_pos hz]; exact Int.le_refl _
  · rw [if_neg hz] at w1 ⊢
    rw [if_neg hz]
    by_cases hq : c * 18446744073709551616 ≤ p
    · rw [if_pos hq]; exact w1
    · rw [if_neg hq, if_neg (by omega)]
      refine Int.le_ediv_of_mul_le (by omega) ?_
      have h2 : p / d * c ≤ p / d * d := Int.mul_le_mul_of_nonneg_left h (Int.ediv_nonneg hp (by omega))
      have h3 := Int.ediv_mul_le p (show d ≠ 0 by omega)
      omega
theorem rates_fall {x sm more : Int} (hx : W64 x) (hs : W64 sm) (hm : W64 more) (h : sm ≤ more) : decide (uMulDiv x 1250 (max more 1) ≤ uMulDiv x 1250 (max sm 1)) = true :=
  decide_eq_true (uMulDiv_anti hx (by decide) (max_w hs (by decide)) (max_w hm (by decide)) (by omega) (by omega))
theorem rates_law (c0 : Int) (c1 : Int) (c2 : Int) (c3 : Int) (c4 : Int) (c5 : Int) (c6 : Int) (c7 : Int) (c8 : Int) (c9 : Int) (c10 : Int) (c11 : Int) (c12 : Int) (c13 : Int) (c14 : Int) (c15 : Bool) (c16 : Int) (c17 : Int) (c18 : Int) (c19 : Int) (c20 : Int) (A21 : Option Addr) (k21 : Nat) (l21 : List S90) (c22 : Int) (c23 : Int) (c24 : Int) (c25 : Int) (c26 : Int) (c27 : Int) (c28 : Int) (c29 : Int) (c30 : Int) (c31 : Int) (c32 : Int) (c33 : Int) (c34 : Int) (c35 : Int) (c36 : Int) (c37 : Int) (c38 : Bool) (c39 : Int) (c40 : Int) (sm more : Int) (v0 : (Lit.int .i64 c0).wf = true) (v1 : (Lit.int .u64 c1).wf = true) (v2 : (Lit.int .u64 c2).wf = true) (v3 : (Lit.int .u64 c3).wf = true) (v4 : (Lit.int .u64 c4).wf = true) (v5 : (Lit.int .i64 c5).wf = true) (v6 : (Lit.int .u64 c6).wf = true) (v7 : (Lit.int .u64 c7).wf = true) (v8 : (Lit.int .u64 c8).wf = true) (v9 : (Lit.int .u64 c9).wf = true) (v10 : (Lit.int .u64 c10).wf = true) (v11 : (Lit.int .u64 c11).wf = true) (v12 : (Lit.int .u64 c12).wf = true) (v13 : (Lit.int .u64 c13).wf = true) (v14 : (Lit.int .u64 c14).wf = true) (v16 : (Lit.int .u64 c16).wf = true) (v17 : (Lit.int .u64 c17).wf = true) (v18 : (Lit.int .u64 c18).wf = true) (v19 : (Lit.int .u64 c19).wf = true) (v20 : (Lit.int .i64 c20).wf = true) (x21 : ∀ x ∈ l21, WfS90 x) (v22 : (Lit.int .u64 c22).wf = true) (v23 : (Lit.int .u64 c23).wf = true) (v24 : (Lit.int .u64 c24).wf = true) (v25 : (Lit.int .u64 c25).wf = true) (v26 : (Lit.int .u64 c26).wf = true) (v27 : (Lit.int .u64 c27).wf = true) (v28 : (Lit.int .u64 c28).wf = true) (v29 : (Lit.int .u64 c29).wf = true) (v30 : (Lit.int .u64 c30).wf = true) (v31 : (Lit.int .u64 c31).wf = true) (v32 : (Lit.int .u64 c32).wf = true) (v33 : (Lit.int .u64 c33).wf = true) (v34 : (Lit.int .u64 c34).wf = true) (v35 : (Lit.int .u64 c35).wf = true) (v36 : (Lit.int .u64 c36).wf = true) (v37 : (Lit.int .u64 c37).wf = true) (v39 : (Lit.int .u64 c39).wf = true) (v40 : (Lit.int .u64 c40).wf = true) (vsm : (Lit.int .u64 sm).wf = true) (vmore : (Lit.int .u64 more).wf = true) (w : World) (hr21 : Kd.C k90 w A21 l21.length l21) (hc21 : l21.length ≤ k21) :
    Calls Try.prog 4 #[.agg #[.int .i64 c0, .int .u64 c1, .int .u64 c2, .int .u64 c3, .int .u64 c4, .int .i64 c5, .int .u64 c6, .int .u64 c7, .int .u64 c8, .int .u64 c9, .int .u64 c10, .int .u64 c11, .int .u64 c12, .int .u64 c13, .int .u64 c14, .bool c15, .int .u64 c16, .int .u64 c17, .int .u64 c18, .int .u64 c19, .int .i64 c20, .slice A21 l21.length k21, .int .u64 c22, .int .u64 c23, .int .u64 c24, .int .u64 c25, .int .u64 c26, .int .u64 c27, .int .u64 c28, .int .u64 c29, .int .u64 c30, .int .u64 c31, .int .u64 c32, .int .u64 c33, .int .u64 c34, .int .u64 c35, .int .u64 c36, .int .u64 c37, .bool c38, .int .u64 c39, .int .u64 c40], .int .u64 sm, .int .u64 more] w fun e w' => e = .returned (.bool true) ∧ Below w.heap.size w w' := by
  have Wc1 := wf64 v1
  have Wc2 := wf64 v2
  have Wc3 := wf64 v3
  have Wc4 := wf64 v4
  have Wc6 := wf64 v6
  have Wc7 := wf64 v7
  have Wc8 := wf64 v8
  have Wc9 := wf64 v9
  have Wc10 := wf64 v10
  have Wc11 := wf64 v11
  have Wc12 := wf64 v12
  have Wc13 := wf64 v13
  have Wc14 := wf64 v14
  have Wc16 := wf64 v16
  have Wc17 := wf64 v17
  have Wc18 := wf64 v18
  have Wc19 := wf64 v19
  have Wc22 := wf64 v22
  have Wc23 := wf64 v23
  have Wc24 := wf64 v24
  have Wc25 := wf64 v25
  have Wc26 := wf64 v26
  have Wc27 := wf64 v27
  have Wc28 := wf64 v28
  have Wc29 := wf64 v29
  have Wc30 := wf64 v30
  have Wc31 := wf64 v31
  have Wc32 := wf64 v32
  have Wc33 := wf64 v33
  have Wc34 := wf64 v34
  have Wc35 := wf64 v35
  have Wc36 := wf64 v36
  have Wc37 := wf64 v37
  have Wc39 := wf64 v39
  have Wc40 := wf64 v40
  have hw21 : SWf l21 := fun x hx => ⟨wf64 (x21 x hx).1, wf64 (x21 x hx).2⟩
  have Wsm := wf64 vsm
  have Wmore := wf64 vmore
  by_cases e1 : 100 < (l21.length : Int)
  · exact ratesE_0 c0 c1 c2 c3 c4 c5 c6 c7 c8 c9 c10 c11 c12 c13 c14 c16 c17 c18 c19 c20 c22 c23 c24 c25 c26 c27 c28 c29 c30 c31 c32 c33 c34 c35 c36 c37 c39 c40 sm more c15 c38 A21 k21 w l21 hr21 hc21 hw21 (decide_eq_true e1)
  have f1 := decide_eq_false e1
  by_cases e2 : sm = 0
  · have f2 : (sm == 0) = true := by simpa using e2
    exact ratesE_1 c0 c1 c2 c3 c4 c5 c6 c7 c8 c9 c10 c11 c12 c13 c14 c16 c17 c18 c19 c20 c22 c23 c24 c25 c26 c27 c28 c29 c30 c31 c32 c33 c34 c35 c36 c37 c39 c40 sm more c15 c38 A21 k21 w l21 hr21 hc21 hw21 f1 f2
  have f2 : (sm == 0) = false := by simpa using e2
  by_cases e3 : more < sm
  · exact ratesE_2 c0 c1 c2 c3 c4 c5 c6 c7 c8 c9 c10 c11 c12 c13 c14 c16 c17 c18 c19 c20 c22 c23 c24 c25 c26 c27 c28 c29 c30 c31 c32 c33 c34 c35 c36 c37 c39 c40 sm more c15 c38 A21 k21 w l21 hr21 hc21 hw21 f1 f2 (decide_eq_true e3)
  have f3 := decide_eq_false e3
  by_cases z1 : c0 = 1
  · subst z1
    exact rates1_0 c1 c2 c3 c4 c5 c6 c7 c8 c9 c10 c11 c12 c13 c14 c16 c17 c18 c19 c20 c22 c23 c24 c25 c26 c27 c28 c29 c30 c31 c32 c33 c34 c35 c36 c37 c39 c40 sm more c15 c38 A21 k21 Wc1 Wsm Wmore w l21 hr21 hc21 hw21 f1 f2 f3 (rates_fall Wc1 Wsm Wmore (by omega))
  by_cases z2 : c0 = 2
  · subst z2
    exact rates2_0 c1 c2 c3 c4 c5 c6 c7 c8 c9 c10 c11 c12 c13 c14 c16 c17 c18 c19 c20 c22 c23 c24 c25 c26 c27 c28 c29 c30 c31 c32 c33 c34 c35 c36 c37 c39 c40 sm more c15 c38 A21 k21 Wc12 Wsm Wmore w l21 hr21 hc21 hw21 f1 f2 f3 (rates_fall Wc12 Wsm Wmore (by omega))
  by_cases z4 : c0 = 4
  · subst z4
    exact rates4_0 c1 c2 c3 c4 c5 c6 c7 c8 c9 c10 c11 c12 c13 c14 c16 c17 c18 c19 c20 c22 c23 c24 c25 c26 c27 c28 c29 c30 c31 c32 c33 c34 c35 c36 c37 c39 c40 sm more c15 c38 A21 k21 Wc30 Wsm Wmore w l21 hr21 hc21 hw21 f1 f2 f3 (rates_fall Wc30 Wsm Wmore (by omega))
  by_cases z3 : c0 = 3
  · subst z3
    exact rates3_0 c1 c2 c3 c4 c5 c6 c7 c8 c9 c10 c11 c12 c13 c14 c16 c17 c18 c19 c20 c22 c23 c24 c25 c26 c27 c28 c29 c30 c31 c32 c33 c34 c35 c36 c37 c39 c40 sm more c15 c38 A21 k21 Wc27 w l21 hr21 hc21 hw21 f1 f2 f3
  have y1 : (c0 == 1) = false := by simpa using z1
  have y2 : (c0 == 2) = false := by simpa using z2
  have y3 : (c0 == 3) = false := by simpa using z3
  have y4 : (c0 == 4) = false := by simpa using z4
  exact ratesN_0 c0 c1 c2 c3 c4 c5 c6 c7 c8 c9 c10 c11 c12 c13 c14 c16 c17 c18 c19 c20 c22 c23 c24 c25 c26 c27 c28 c29 c30 c31 c32 c33 c34 c35 c36 c37 c39 c40 sm more c15 c38 A21 k21 w l21 hr21 hc21 hw21 f1 f2 f3 y3 y1 y2 y4
theorem names_law (w : World) : Calls Try.prog 3 #[] w fun e w' => e = .returned (.bool true) ∧ Below w.heap.size w w' := names_0 w
end Go.Proofs.Ytpgffmnbdggpnaa.PCtl
