/- A window that began as it should stays within the least and the greatest, its share of marks at most the whole, bytes never let it fall, marks and losses never rise, and between two rounds' ends marks let it fall once: for every beginning and every list of events, with no condition. -/
import Derived.Test.YtaaieijkmhmecaaPragueEqH
import Derived.Test.YtaaieijkmhmecaaPPrHEv40
namespace Go.Proofs.Ytaaieijkmhmecaa.Pure
open Go.RowKit Go.Proofs.Ytaaieijkmhmecaa.PPrH Go.Proofs.Ytaaieijkmhmecaa.PragueEqH Go.Proofs.YtaaieijkmhmecaaW.PrintWords Go.Proofs.YtaaieijkmhmecaaW.PrintLast

theorem PragueHolds : ∀ (a0 : Int) (l : List S40), (Lit.int .u64 a0).wf = true → (∀ x ∈ l, WfS40 x) → ∃ k, wigwaglaw14_PragueHolds.f k a0 l = some true := by
  intro a0 l hw hl
  have awake_ := awake_eq
  have wa := wf64 hw
  have key : ∀ (n : Nat) (i b0 b1 b2 b3 al ac mk en : Int) (ct : Bool), 0 ≤ i → i + n = 200 → 2400 ≤ b0 → b0 ≤ 16777216 → W64 b3 → 0 ≤ al → al ≤ 1048576 → W64 ac → W64 mk → ∃ k, wigwaglaw14_PragueHolds.l0 k l true i b0 b1 b2 b3 al ac mk en ct = some true := by
    intro n
    induction n with
    | zero =>
      intro i b0 b1 b2 b3 al ac mk en ct h0 hn _ _ _ _ _ _ _
      refine ⟨1 + 1, ?_⟩
      simp only [wigwaglaw14_PragueHolds.l0, wigwaglaw14_PragueHolds.j1]
      by_cases h1 : i < (l.length : Int)
      · rw [if_pos h1, decide_eq_false (show ¬ i < 200 by omega)]; rfl
      · rw [if_neg h1]; rfl
    | succ n ih =>
      intro i b0 b1 b2 b3 al ac mk en ct h0 hn i0 i1 i3 i4 i5 i6 i7
      by_cases h1 : i < (l.length : Int)
      · have hw : wrap64 (i + 1) = i + 1 := wrap64_small (by omega) (by omega)
        have hm : rd_T40 l i ∈ l := by
          unfold rd_T40
          rw [List.getD_eq_getElem?_getD, List.getElem?_eq_getElem (by omega)]
          exact List.getElem_mem _
        have we := hl _ hm
        unfold WfS40 at we
        obtain ⟨_, wn, wb, _, _, _, _, _, _, w2, w3⟩ := we
        replace wn := wf64 wn
        replace wb := wf64 wb
        replace w2 := wf64 w2
        generalize he : rd_T40 l i = e at *
        have hd : decide (i < 200) = true := decide_eq_true (by omega)
        by_cases k1 : e.f0 = 1
        · have ha := ack_eq (b1 := b1) (b2 := b2) (en := en) (t := e.f1.f2) (lg := e.f1.f3) (sn := e.f1.f4) (g0 := e.f1.f0) (g5 := e.f1.f5) (g6 := e.f1.f6) (g7 := e.f1.f7) (ct := ct) (l := e.f1.f8) (u := e.f1.f9) (show W64 b0 by omega) i3 (show W64 al by omega) i6 i7 wb
          obtain ⟨d0, d3, er, r0, r1, r2, r3⟩ := renoack_tells (c1 := b1) (c2 := b2) (t := e.f1.f2) (l := e.f1.f8) i0 i1 i3 wb
          have hac := uAdd_w i6 wb
          have hal := uAlpha_le (m := mk) i4 i5 i7 hac
          unfold uPAck at ha
          rw [er] at ha
          by_cases hr : e.f1.f3 ≥ en
          · rw [if_pos hr] at ha
            obtain ⟨k, hk⟩ := ih (i + 1) d0 b1 b2 d3 (uAlpha al mk (uAdd ac e.f1.f1)) 0 0 e.f1.f4 false (by omega) (by omega) r1 r2 r3 hal.1 hal.2 (by omega) (by omega)
            refine ⟨k + 1 + 1, ?_⟩
            simp only [wigwaglaw14_PragueHolds.l0, wigwaglaw14_PragueHolds.j1]
            rw [if_pos h1, hd, if_pos rfl, if_pos h0, if_pos h1, he, if_pos k1, ha, hw]
            simp only [Option.bind_some]
            rw [if_neg (by omega), if_neg (by omega), if_neg (by omega), if_neg (by omega)]
            exact hk
          · rw [if_neg hr] at ha
            obtain ⟨k, hk⟩ := ih (i + 1) d0 b1 b2 d3 al (uAdd ac e.f1.f1) mk en ct (by omega) (by omega) r1 r2 r3 i4 i5 hac i7
            refine ⟨k + 1 + 1, ?_⟩
            simp only [wigwaglaw14_PragueHolds.l0, wigwaglaw14_PragueHolds.j1]
            rw [if_pos h1, hd, if_pos rfl, if_pos h0, if_pos h1, he, if_pos k1, ha, hw]
            simp only [Option.bind_some]
            rw [if_neg (by omega), if_neg (by omega), if_neg (by omega), if_neg (by omega)]
            exact hk
        · by_cases k2 : e.f0 = 2
          · have ha := mark_eq (b1 := b1) (b2 := b2) (b3 := b3) (ac := ac) (en := en) (t := e.f3) (ct := ct) (show W64 b0 by omega) (show W64 al by omega) i7 w2
            have hmk := uAdd_w i7 w2
            unfold uMark at ha
            by_cases hs : ct = true ∨ e.f3 < b2
            · rw [if_pos hs] at ha
              obtain ⟨k, hk⟩ := ih (i + 1) b0 b1 b2 b3 al ac (uAdd mk e.f2) en ct (by omega) (by omega) i0 i1 i3 i4 i5 i6 hmk
              refine ⟨k + 1 + 1 + 1, ?_⟩
              simp only [wigwaglaw14_PragueHolds.l0, wigwaglaw14_PragueHolds.j1, wigwaglaw14_PragueHolds.j2]
              rw [if_pos h1, hd, if_pos rfl, if_pos h0, if_pos h1, he, if_neg k1, if_pos k2, ha, hw]
              simp only [Option.bind_some]
              rw [if_neg (Int.lt_irrefl _)]
              simp only [beq_self_eq_true, Bool.not_true, Bool.or_self, bne_self_eq_false, Bool.false_eq_true, if_false, ite_self]
              rw [if_neg (by omega), if_neg (by omega), if_neg (by omega)]
              exact hk
            · rw [if_neg hs] at ha
              have hct : ct = false := by simp only [not_or] at hs; simpa using hs.1
              subst hct
              have hin := uHeld_in (uSub b0 (uMulDiv b0 al 2097152))
              have hmd := (uMulDiv_w (a := b0) (b := al) (c := 2097152) (by omega) (by omega) (by omega)).1
              have hle : uLess b0 al ≤ b0 := uHeld_le i0 (uSub_le (by omega) hmd)
              have g1 : 2400 ≤ uLess b0 al := hin.1
              have g2 : uLess b0 al ≤ 16777216 := hin.2
              obtain ⟨k, hk⟩ := ih (i + 1) (uLess b0 al) (uLess b0 al) b2 0 al ac (uAdd mk e.f2) en true (by omega) (by omega) g1 g2 (by omega) i4 i5 i6 hmk
              refine ⟨k + 1 + 1 + 1, ?_⟩
              simp only [wigwaglaw14_PragueHolds.l0, wigwaglaw14_PragueHolds.j1, wigwaglaw14_PragueHolds.j2]
              rw [if_pos h1, hd, if_pos rfl, if_pos h0, if_pos h1, he, if_neg k1, if_pos k2, ha, hw]
              simp only [Option.bind_some]
              rw [if_neg (by omega)]
              simp only [bne_self_eq_false, Bool.false_eq_true, if_false]
              rw [if_neg (by omega), if_neg (by omega), if_neg (by omega)]
              exact hk
          · by_cases k3 : e.f0 = 3
            · obtain ⟨d0, d1, d2, d3, ha, q0, q1, q2, q3⟩ := loss_eq (b1 := b1) (b2 := b2) (b3 := b3) (al := al) (ac := ac) (mk := mk) (en := en) (t := e.f3) (ct := ct) i0 i1 wn
              obtain ⟨k, hk⟩ := ih (i + 1) d0 d1 d2 d3 al ac mk en ct (by omega) (by omega) q1 q2 (by omega) i4 i5 i6 i7
              refine ⟨k + 1 + 1, ?_⟩
              simp only [wigwaglaw14_PragueHolds.l0, wigwaglaw14_PragueHolds.j1]
              rw [if_pos h1, hd, if_pos rfl, if_pos h0, if_pos h1, he, if_neg k1, if_neg k2, if_pos k3, ha, hw]
              simp only [Option.bind_some]
              rw [if_neg (by omega), if_neg (by omega), if_neg (by omega), if_neg (by omega)]
              exact hk
            · by_cases k4 : e.f0 = 4
              · obtain ⟨k, hk⟩ := ih (i + 1) 2400 b1 0 0 al ac mk en ct (by omega) (by omega) (by omega) (by omega) (by omega) i4 i5 i6 i7
                refine ⟨k + 1 + 1, ?_⟩
                simp only [wigwaglaw14_PragueHolds.l0, wigwaglaw14_PragueHolds.j1]
                rw [if_pos h1, hd, if_pos rfl, if_pos h0, if_pos h1, he, if_neg k1, if_neg k2, if_neg k3, if_pos k4, hw]
                simp only [prague_Collapse.f, reno_Collapse.f, Option.bind_some]
                rw [if_neg (by omega), if_neg (by omega), if_neg (by omega)]
                exact hk
              · obtain ⟨k, hk⟩ := ih (i + 1) b0 b1 b2 b3 al ac mk en ct (by omega) (by omega) i0 i1 i3 i4 i5 i6 i7
                refine ⟨k + 1 + 1, ?_⟩
                simp only [wigwaglaw14_PragueHolds.l0, wigwaglaw14_PragueHolds.j1]
                rw [if_pos h1, hd, if_pos rfl, if_pos h0, if_pos h1, he, if_neg k1, if_neg k2, if_neg k3, if_neg k4, hw]
                rw [if_neg (by omega), if_neg (by omega), if_neg (by omega)]
                exact hk
      · refine ⟨1 + 1, ?_⟩
        simp only [wigwaglaw14_PragueHolds.l0, wigwaglaw14_PragueHolds.j1]
        rw [if_neg h1]; rfl
  obtain ⟨k, hk⟩ := key 200 0 12000 16777216 0 0 1048576 0 0 a0 false (by omega) (by omega) (by omega) (by omega) (by omega) (by omega) (by omega) (by omega) (by omega)
  refine ⟨k, ?_⟩
  unfold wigwaglaw14_PragueHolds.f prague_New.f reno_New.f
  rw [awake_]
  simp only [Option.bind_some]
  exact hk
end Go.Proofs.Ytaaieijkmhmecaa.Pure
