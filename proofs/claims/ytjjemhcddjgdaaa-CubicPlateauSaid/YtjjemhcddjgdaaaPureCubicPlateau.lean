/- The target of the time K is the greatest window that was, between the window and half as much more; before it it is no more, behind it no less: for all states and times, with no condition. -/
import Derived.Test.YtjjemhcddjgdaaaCubicEq
namespace Go.Proofs.Ytjjemhcddjgdaaa.Pure
open Go.RowKit Go.Proofs.Ytjjemhcddjgdaaa.PCub Go.Proofs.Ytjjemhcddjgdaaa.CubicEq Go.Proofs.YtjjemhcddjgdaaaW.PrintWords Go.Proofs.YtjjemhcddjgdaaaW.PrintLast

theorem CubicPlateau : wigwaglaw12_CubicPlateau.Pure := by
  intro c0 c1 c2 c3 c4 c5 c6 c7 a1 a2 w0 w1 w2 w4 w5 w6 w7 x1 x2
  have k0 := wf64 w0
  have k5 := wf64 w5
  have k6 := wf64 w6
  have q1 := wf64 x1
  have q2 := wf64 x2
  unfold wigwaglaw12_CubicPlateau.f
  rw [awake_eq]
  simp only [Option.bind_some, if_true]
  by_cases h1 : c0 > 1099511627776
  · rw [if_pos h1]
  · rw [if_neg h1]
    by_cases h2 : a1 > c6
    · rw [if_pos h2]
    · rw [if_neg h2]
      by_cases h3 : a2 < c6
      · rw [if_pos h3]
      · rw [if_neg h3, target_eq k0 k5 k6 k6, target_eq k0 k5 k6 q1, target_eq k0 k5 k6 q2]
        have m1 := uOut_mono k5 k6 q1 k6 (by omega)
        have m2 := uOut_mono k5 k6 k6 q2 (by omega)
        rw [uOut_at k5] at m1 m2
        rw [uOut_at k5]
        have ha : uAdd c0 (c0 / 2) = c0 + c0 / 2 := by unfold uAdd; rw [if_pos (by omega)]
        rw [ha, Int.tdiv_eq_ediv_of_nonneg k0.1, w64 (x := c0 / 2) (by omega), w64 (by omega)]
        have hf : mn (mx c5 c0) (c0 + c0 / 2) = min (max c5 c0) (c0 + c0 / 2) := by unfold mn mx; split <;> split <;> omega
        rw [hf]
        simp only [Option.bind_some]
        generalize uOut c5 c6 a1 = u at *
        generalize uOut c5 c6 a2 = v at *
        try simp only [if_true]
        rw [if_pos (by omega), decide_eq_true (by omega)]
end Go.Proofs.Ytjjemhcddjgdaaa.Pure
