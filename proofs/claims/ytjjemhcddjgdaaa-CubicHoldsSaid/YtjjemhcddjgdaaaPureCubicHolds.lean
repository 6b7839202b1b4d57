/- A window that began as it should stays within the least and the greatest, bytes never let it fall, losses never let it rise: for every list of events, with no condition. -/
import Derived.Test.YtjjemhcddjgdaaaCubicEq
import Derived.Test.YtjjemhcddjgdaaaPCubx8
import Derived.Test.YtjjemhcddjgdaaaPCubEv29
namespace Go.Proofs.Ytjjemhcddjgdaaa.Pure
open Go.RowKit Go.Proofs.Ytjjemhcddjgdaaa.PCub Go.Proofs.Ytjjemhcddjgdaaa.CubicEq Go.Proofs.YtjjemhcddjgdaaaW.PrintWords Go.Proofs.YtjjemhcddjgdaaaW.PrintLast

theorem CubicHolds : ∀ l : List S29, (∀ x ∈ l, WfS29 x) → ∃ k, wigwaglaw12_CubicHolds.f k l = some true := by
  intro l hl
  have awake_ := awake_eq
  have key : ∀ (n : Nat) (i c0 c1 c2 c4 c5 c6 c7 : Int) (c3 : Bool), 0 ≤ i → i + n = 200 → Inv c0 c1 c2 c4 c5 c6 c7 → ∃ k, wigwaglaw12_CubicHolds.l0 k l true i c0 c1 c2 c3 c4 c5 c6 c7 = some true := by
    intro n
    induction n with
    | zero =>
      intro i c0 c1 c2 c4 c5 c6 c7 c3 h0 hn _
      refine ⟨1, ?_⟩
      simp only [wigwaglaw12_CubicHolds.l0]
      by_cases h1 : i < (l.length : Int)
      · rw [if_pos h1, if_neg (by omega)]
      · rw [if_neg h1]
    | succ n ih =>
      intro i c0 c1 c2 c4 c5 c6 c7 c3 h0 hn hI
      by_cases h1 : i < (l.length : Int)
      · have hw : wrap64 (i + 1) = i + 1 := wrap64_small (by omega) (by omega)
        have hm : rd_T29 l i ∈ l := by
          unfold rd_T29
          rw [List.getD_eq_getElem?_getD, List.getElem?_eq_getElem (by omega)]
          exact List.getElem_mem _
        obtain ⟨_, we1, we2, we3, we4⟩ := hl _ hm
        generalize he : rd_T29 l i = e at *
        obtain ⟨i0, i1, i2, i3, i4⟩ := id hI
        by_cases k1 : e.f0 = 1
        · obtain ⟨d0, d3, d4, d5, d6, d7, ha, hle, hD⟩ := ack_tells (c3 := c3) (t := e.f2) (lim := e.f5) hI (wf64 we1) (wf64 we3) (wf64 we4)
          obtain ⟨k, hk⟩ := ih (i + 1) d0 c1 c2 d4 d5 d6 d7 d3 (by omega) (by omega) hD
          refine ⟨k + 1, ?_⟩
          obtain ⟨j0, j1, _⟩ := hD
          simp only [wigwaglaw12_CubicHolds.l0]
          rw [if_pos h1, if_pos (by omega), if_pos h0, he, if_pos k1, ha, hw]
          simp only [Option.bind_some]
          rw [if_neg (by omega)]
          try simp only [if_true]
          rw [if_neg (by omega), if_neg (by omega), if_neg (by omega), if_neg (by omega)]
          exact hk
        · by_cases k2 : e.f0 = 2
          · have ha := loss_eq (c0 := c0) (c1 := c1) (c2 := c2) (c3 := c3) (c4 := c4) (c5 := c5) (c6 := c6) (c7 := c7) (t := e.f2) (s := e.f3) (by omega) (wf64 we3)
            by_cases hs : e.f2 < c2
            · rw [if_pos hs] at ha
              obtain ⟨k, hk⟩ := ih (i + 1) c0 c1 c2 c4 c5 c6 c7 c3 (by omega) (by omega) hI
              refine ⟨k + 1, ?_⟩
              simp only [wigwaglaw12_CubicHolds.l0]
              rw [if_pos h1, if_pos (by omega), if_pos h0, he, if_neg k1, if_pos k2, ha, hw]
              simp only [Option.bind_some]
              rw [if_neg (by omega), if_neg (by omega), if_neg (by omega), if_neg (by omega), if_neg (by omega)]
              exact hk
            · rw [if_neg hs] at ha
              have hin := uHeld_in (uMulDiv c0 7 10)
              have hlost : uLost c0 ≤ c0 := by
                have hq : uMulDiv c0 7 10 ≤ c0 := by
                  unfold uMulDiv
                  rw [if_neg (by omega), if_neg (by omega)]
                  omega
                unfold uLost
                generalize uMulDiv c0 7 10 = x at *
                unfold uHeld
                split
                · omega
                · split <;> omega
              have hmost : W64 (uMost c0 c5) := by
                unfold uMost; split
                · exact uMulDiv_w (by omega) (by omega) (by omega)
                · omega
              have hIn : Inv (uLost c0) (uLost c0) (uAdd e.f3 1) 0 (uMost c0 c5) 0 0 := ⟨hin.1, hin.2, hin.1, hin.2, uAdd_w (wf64 we3) (by omega), by omega, hmost, by omega, by omega⟩
              obtain ⟨k, hk⟩ := ih (i + 1) (uLost c0) (uLost c0) (uAdd e.f3 1) 0 (uMost c0 c5) 0 0 false (by omega) (by omega) hIn
              obtain ⟨j0, j1, _⟩ := hIn
              refine ⟨k + 1, ?_⟩
              simp only [wigwaglaw12_CubicHolds.l0]
              rw [if_pos h1, if_pos (by omega), if_pos h0, he, if_neg k1, if_pos k2, ha, hw]
              simp only [Option.bind_some]
              rw [if_neg (by omega), if_neg (by omega), if_neg (by omega), if_neg (by omega), if_neg (by omega)]
              exact hk
          · by_cases k3 : e.f0 = 3
            · have hIn : Inv 2400 c1 0 0 c5 0 0 := ⟨by omega, by omega, by omega, by omega, by omega, by omega, by omega, by omega, by omega⟩
              obtain ⟨k, hk⟩ := ih (i + 1) 2400 c1 0 0 c5 0 0 false (by omega) (by omega) hIn
              refine ⟨k + 1, ?_⟩
              simp only [wigwaglaw12_CubicHolds.l0]
              rw [if_pos h1, if_pos (by omega), if_pos h0, he, if_neg k1, if_neg k2, if_pos k3, hw]
              simp only [cubic_Collapse.f, Option.bind_some]
              rw [if_neg (by omega), if_neg (by omega), if_neg (by omega), if_neg (by omega)]
              exact hk
            · obtain ⟨k, hk⟩ := ih (i + 1) c0 c1 c2 c4 c5 c6 c7 c3 (by omega) (by omega) hI
              refine ⟨k + 1, ?_⟩
              simp only [wigwaglaw12_CubicHolds.l0]
              rw [if_pos h1, if_pos (by omega), if_pos h0, he, if_neg k1, if_neg k2, if_neg k3, hw]
              rw [if_neg (by omega), if_neg (by omega), if_neg (by omega), if_neg (by omega)]
              exact hk
      · refine ⟨1, ?_⟩
        simp only [wigwaglaw12_CubicHolds.l0]
        rw [if_neg h1]
  obtain ⟨k, hk⟩ := key 200 0 12000 16777216 0 0 0 0 0 false (by omega) (by omega) ⟨by omega, by omega, by omega, by omega, by omega, by omega, by omega, by omega, by omega⟩
  refine ⟨k, ?_⟩
  unfold wigwaglaw12_CubicHolds.f cubic_New.f
  rw [awake_]
  simp only [Option.bind_some]
  exact hk
end Go.Proofs.Ytjjemhcddjgdaaa.Pure
