/- The share that is kept falls where nothing was marked, stays within one part in 2^16 where all was, never passes the whole, and lies between the two at marks between: for all states, with no condition. -/
import Derived.Test.YtaaieijkmhmecaaPragueEq
namespace Go.Proofs.Ytaaieijkmhmecaa.Pure
open Go.RowKit Go.Proofs.Ytaaieijkmhmecaa.PPra Go.Proofs.Ytaaieijkmhmecaa.PragueEq Go.Proofs.YtaaieijkmhmecaaW.PrintWords Go.Proofs.YtaaieijkmhmecaaW.PrintLast

theorem PragueShare : wigwaglaw14_PragueShare.Pure := by
  intro b0 b1 b2 b3 al ac mk en ct a1 a2 w0 w1 w2 w3 w4 w5 w6 w7 v1 v2
  have k0 := wf64 w0
  have k3 := wf64 w3
  have k4 := wf64 w4
  have q1 := wf32 v1
  have q2 := wf32 v2
  have hm : W64 (mn al 1048576) ∧ mn al 1048576 ≤ 1048576 := by unfold mn; split <;> omega
  unfold wigwaglaw14_PragueShare.f
  rw [w64 (x := a1) (by omega), w64 (x := a2) (by omega)]
  generalize mn al 1048576 = x at *
  rw [awake_eq, ack_eq k0 k3 hm.1 (by omega) (by omega) (by omega), ack_eq k0 k3 hm.1 (by omega) (by omega) (by omega), ack_eq k0 k3 hm.1 (by omega) (by omega) (by omega)]
  have sh : ∀ m : Int, 0 ≤ m → m ≤ 4294967295 → uShare m a1 = (if a1 = 0 then 0 else min m a1 * 1048576 / a1) := by
    intro m h0 h1
    unfold uShare uMulDiv
    split
    · rfl
    · split
      · rename_i h; rw [h]; simp
      · rw [if_neg (by omega)]
  have s0 : uShare 0 a1 = 0 := by
    rw [sh 0 (by omega) (by omega)]; split
    · rfl
    · rw [show min 0 a1 = 0 by omega]; simp
  have s1 : uShare a1 a1 = if a1 = 0 then 0 else 1048576 := by
    rw [sh a1 q1.1 q1.2]; split
    · rfl
    · rw [show min a1 a1 = a1 by omega, Int.mul_ediv_cancel_left _ (by assumption)]
  have s2 : 0 ≤ uShare a2 a1 ∧ uShare a2 a1 ≤ uShare a1 a1 := by
    rw [s1, sh a2 q2.1 q2.2]; split
    · omega
    · constructor
      · exact Int.ediv_nonneg (by omega) q1.1
      · have h : min a2 a1 * 1048576 ≤ a1 * 1048576 := by omega
        have := Int.ediv_le_ediv (show 0 < a1 by omega) h
        rw [Int.mul_ediv_cancel_left _ (by assumption)] at this
        exact this
  have e0 : uAdd 0 a1 = a1 := by unfold uAdd; rw [if_pos (by omega)]; omega
  have s1' : 0 ≤ uShare a1 a1 ∧ uShare a1 a1 ≤ 1048576 ∧ (a1 ≠ 0 → uShare a1 a1 = 1048576) := by rw [s1]; split <;> omega
  have hD : ∀ S : Int, 0 ≤ S → S ≤ 1048576 → uAdd (x - x / 16) (S / 16) = x - x / 16 + S / 16 := by intro S h0 h1; unfold uAdd; rw [if_pos (by omega)]
  have d0 : uAlpha x 0 (uAdd 0 a1) = x - x / 16 := by unfold uAlpha; rw [e0, s0, hD 0 (by omega) (by omega)]; omega
  have d1 : uAlpha x a1 (uAdd 0 a1) = x - x / 16 + uShare a1 a1 / 16 := by unfold uAlpha; rw [e0, hD _ (by omega) (by omega)]
  have d2 : uAlpha x a2 (uAdd 0 a1) = x - x / 16 + uShare a2 a1 / 16 := by unfold uAlpha; rw [e0, hD _ (by omega) (by omega)]
  simp only [uPAck, ge_iff_le, Int.le_refl, if_true, Option.bind_some, d0, d1, d2]
  generalize uShare a1 a1 = S1 at *
  generalize uShare a2 a1 = S2 at *
  rw [w64 (by omega)]
  repeat' split
  all_goals first | rfl | (exfalso; omega)
end Go.Proofs.Ytaaieijkmhmecaa.Pure
