/- Without marks a window does just what chapter 10's does, and its share of marks falls by a sixteenth with each round: for every beginning and every list of events, with no condition. -/
import Derived.Test.YtaaieijkmhmecaaPragueEqC
import Derived.Test.YtaaieijkmhmecaaPPrCEv40
namespace Go.Proofs.Ytaaieijkmhmecaa.Pure
open Go.RowKit Go.Proofs.Ytaaieijkmhmecaa.PPrC Go.Proofs.Ytaaieijkmhmecaa.PragueEqC Go.Proofs.YtaaieijkmhmecaaW.PrintWords Go.Proofs.YtaaieijkmhmecaaW.PrintLast

theorem PragueCalm : ∀ (a0 : Int) (l : List S40), (Lit.int .u64 a0).wf = true → (∀ x ∈ l, WfS40 x) → ∃ k, wigwaglaw14_PragueCalm.f k a0 l = some true := by
  intro a0 l hw hl
  have awake_ := awake_eq
  have key : ∀ (n : Nat) (i b0 b1 b2 b3 al ac en : Int) (ct : Bool), 0 ≤ i → i + n = 200 → 2400 ≤ b0 → b0 ≤ 16777216 → W64 b3 → W64 al → W64 ac → ∃ k, wigwaglaw14_PragueCalm.l0 k l true i b0 b1 b2 b3 al ac 0 en ct b0 b1 b2 b3 = some true := by
    intro n
    induction n with
    | zero =>
      intro i b0 b1 b2 b3 al ac en ct h0 hn _ _ _ _ _
      refine ⟨1 + 1, ?_⟩
      simp only [wigwaglaw14_PragueCalm.l0, wigwaglaw14_PragueCalm.j1]
      by_cases h1 : i < (l.length : Int)
      · rw [if_pos h1, decide_eq_false (show ¬ i < 200 by omega)]; rfl
      · rw [if_neg h1]; rfl
    | succ n ih =>
      intro i b0 b1 b2 b3 al ac en ct h0 hn i0 i1 i3 i4 i6
      by_cases h1 : i < (l.length : Int)
      · have hw : wrap64 (i + 1) = i + 1 := wrap64_small (by omega) (by omega)
        have hm : rd_T40 l i ∈ l := by
          unfold rd_T40
          rw [List.getD_eq_getElem?_getD, List.getElem?_eq_getElem (by omega)]
          exact List.getElem_mem _
        have we := hl _ hm
        unfold WfS40 at we
        obtain ⟨_, wn, wb, _⟩ := we
        replace wn := wf64 wn
        replace wb := wf64 wb
        generalize he : rd_T40 l i = e at *
        have hd : decide (i < 200) = true := decide_eq_true (by omega)
        by_cases k1 : e.f0 = 1
        · have ha := ack_eq (b1 := b1) (b2 := b2) (en := en) (t := e.f1.f2) (lg := e.f1.f3) (sn := e.f1.f4) (g0 := e.f1.f0) (g5 := e.f1.f5) (g6 := e.f1.f6) (g7 := e.f1.f7) (ct := ct) (l := e.f1.f8) (u := e.f1.f9) (show W64 b0 by omega) i3 i4 i6 (show W64 0 by omega) wb
          have hb := renoack_eq (c1 := b1) (c2 := b2) (t := e.f1.f2) (l := e.f1.f8) (show W64 b0 by omega) i3 wb
          obtain ⟨d0, d3, er, r0, r1, r2, r3⟩ := renoack_tells (c1 := b1) (c2 := b2) (t := e.f1.f2) (l := e.f1.f8) i0 i1 i3 wb
          have hac := uAdd_w i6 wb
          have hal := uAlpha_calm i4 hac
          unfold uPAck at ha
          rw [er] at ha hb
          by_cases hr : e.f1.f3 ≥ en
          · rw [if_pos hr] at ha
            obtain ⟨k, hk⟩ := ih (i + 1) d0 b1 b2 d3 (al - al / 16) 0 e.f1.f4 false (by omega) (by omega) r1 r2 r3 (by omega) (by omega)
            refine ⟨k + 1 + 1 + 1, ?_⟩
            simp only [wigwaglaw14_PragueCalm.l0, wigwaglaw14_PragueCalm.j1, wigwaglaw14_PragueCalm.j2]
            rw [if_pos h1, hd, if_pos rfl, if_pos h0, if_pos h1, he, if_pos k1, ha, hb, hw]
            simp only [Option.bind_some]
            rw [if_pos hr, hal, fall16 i4, if_pos rfl, if_pos hr]
            simpa using hk
          · rw [if_neg hr] at ha
            obtain ⟨k, hk⟩ := ih (i + 1) d0 b1 b2 d3 al (uAdd ac e.f1.f1) en ct (by omega) (by omega) r1 r2 r3 i4 hac
            refine ⟨k + 1 + 1 + 1, ?_⟩
            simp only [wigwaglaw14_PragueCalm.l0, wigwaglaw14_PragueCalm.j1, wigwaglaw14_PragueCalm.j2]
            rw [if_pos h1, hd, if_pos rfl, if_pos h0, if_pos h1, he, if_pos k1, ha, hb, hw]
            simp only [Option.bind_some]
            rw [if_neg hr, if_neg hr]
            simpa using hk
        · by_cases k3 : e.f0 = 3
          · obtain ⟨d0, d1, d2, d3, ha, q1, q2, q3⟩ := rloss_eq (b1 := b1) (b2 := b2) (b3 := b3) (t := e.f3) i0 i1 wn
            obtain ⟨k, hk⟩ := ih (i + 1) d0 d1 d2 d3 al ac en ct (by omega) (by omega) q1 q2 (by omega) i4 i6
            refine ⟨k + 1 + 1, ?_⟩
            simp only [wigwaglaw14_PragueCalm.l0, wigwaglaw14_PragueCalm.j1]
            rw [if_pos h1, hd, if_pos rfl, if_pos h0, if_pos h1, he, if_neg k1, if_pos k3]
            unfold prague_Loss.f
            rw [ha, hw]
            simpa using hk
          · by_cases k4 : e.f0 = 4
            · obtain ⟨k, hk⟩ := ih (i + 1) 2400 b1 0 0 al ac en ct (by omega) (by omega) (by omega) (by omega) (by omega) i4 i6
              refine ⟨k + 1 + 1, ?_⟩
              simp only [wigwaglaw14_PragueCalm.l0, wigwaglaw14_PragueCalm.j1]
              rw [if_pos h1, hd, if_pos rfl, if_pos h0, if_pos h1, he, if_neg k1, if_neg k3, if_pos k4, hw]
              simp only [prague_Collapse.f, reno_Collapse.f, Option.bind_some]
              simpa using hk
            · obtain ⟨k, hk⟩ := ih (i + 1) b0 b1 b2 b3 al ac en ct (by omega) (by omega) i0 i1 i3 i4 i6
              refine ⟨k + 1 + 1, ?_⟩
              simp only [wigwaglaw14_PragueCalm.l0, wigwaglaw14_PragueCalm.j1]
              rw [if_pos h1, hd, if_pos rfl, if_pos h0, if_pos h1, he, if_neg k1, if_neg k3, if_neg k4, hw]
              simpa using hk
      · refine ⟨1 + 1, ?_⟩
        simp only [wigwaglaw14_PragueCalm.l0, wigwaglaw14_PragueCalm.j1]
        rw [if_neg h1]; rfl
  obtain ⟨k, hk⟩ := key 200 0 12000 16777216 0 0 1048576 0 a0 false (by omega) (by omega) (by omega) (by omega) (by omega) (by omega) (by omega)
  refine ⟨k, ?_⟩
  unfold wigwaglaw14_PragueCalm.f prague_New.f reno_New.f
  rw [awake_]
  simp only [Option.bind_some]
  exact hk
end Go.Proofs.Ytaaieijkmhmecaa.Pure
