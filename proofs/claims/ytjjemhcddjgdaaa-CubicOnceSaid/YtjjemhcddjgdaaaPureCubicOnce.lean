/- Behind a loss neither a loss nor bytes of a packet that was sent before it change the window again, and a second loss is remembered as less: for all states and times, with no condition. -/
import Derived.Test.YtjjemhcddjgdaaaCubicEq
import Derived.Test.YtjjemhcddjgdaaaPCubx7
namespace Go.Proofs.Ytjjemhcddjgdaaa.Pure
open Go.RowKit Go.Proofs.Ytjjemhcddjgdaaa.PCub Go.Proofs.Ytjjemhcddjgdaaa.CubicEq Go.Proofs.YtjjemhcddjgdaaaW.PrintWords Go.Proofs.YtjjemhcddjgdaaaW.PrintLast

theorem CubicOnce : wigwaglaw12_CubicOnce.Pure := by
  intro c0 c1 c2 c3 c4 c5 c6 c7 a1 a2 a3 a4 w0 w1 w2 w4 w5 w6 w7 x1 x2 x3 x4
  have k0 := wf64 w0
  have q1 := wf32 x1
  have q2 := wf32 x2
  have q3 := wf32 x3
  unfold wigwaglaw12_CubicOnce.f
  rw [awake_eq, w64 (x := a1) (by omega), w64 (x := a2) (by omega), w64 (x := a3) (by omega), loss_eq k0 (by omega)]
  simp only [Option.bind_some]
  by_cases h1 : a1 < c2
  · simp only [if_pos h1, if_true]
    simp
  · simp only [if_neg h1]
    have e1 : uAdd a2 1 = a2 + 1 := by unfold uAdd; rw [if_pos (by omega)]
    have hmn : mn a3 a2 ≤ a2 := by unfold mn; split <;> omega
    rw [e1, w64 (x := a2 + 1) (by omega), w64 (x := a2 + 2) (by omega), w64 (x := a2 + 5) (by omega)]
    have hlw := uLost_w c0
    rw [loss_eq hlw (by omega), loss_eq hlw (by omega)]
    simp only [Option.bind_some, if_neg (Int.lt_irrefl _), if_pos (show mn a3 a2 < a2 + 1 by omega)]
    have hA : cubic_Ack.f (uLost c0) (uLost c0) (a2 + 1) false 0 (uMost c0 c5) 0 0 a4 (mn a3 a2) a2 5 false = some (uLost c0, uLost c0, a2 + 1, false, 0, uMost c0 c5, 0, 0) := by
      unfold cubic_Ack.f
      rw [if_neg (by simp), if_pos (by omega)]
    have hB : cubic_Ack.f c0 c1 c2 c3 c4 c5 c6 c7 a4 a1 a2 5 true = some (c0, c1, c2, c3, c4, c5, c6, c7) := by
      unfold cubic_Ack.f
      rw [if_pos rfl]
    rw [hA, hB]
    simp only [Option.bind_some, beq_self_eq_true, Bool.and_self, if_true]
    by_cases h2 : uMost (uLost c0) (uMost c0 c5) ≤ uMost c0 c5
    · simp [h2]
    · have h3 : uLost c0 ≥ uMost c0 c5 := by
        by_cases h : uLost c0 < uMost c0 c5
        · exfalso
          apply h2
          have e : uMost (uLost c0) (uMost c0 c5) = uMulDiv (uLost c0) 17 20 := if_pos h
          rw [e]
          have : uMulDiv (uLost c0) 17 20 ≤ uLost c0 := by
            unfold uMulDiv
            split
            · exact hlw.1
            · rw [if_neg (by omega)]; omega
          omega
        · omega
      simp [h2, h3]
end Go.Proofs.Ytjjemhcddjgdaaa.Pure
