/- A mark in a window that is not cut takes half where all was marked, nothing where nothing was: for all states, with no condition. -/
import Derived.Test.YtaaieijkmhmecaaPragueEq
namespace Go.Proofs.Ytaaieijkmhmecaa.Pure
open Go.RowKit Go.Proofs.Ytaaieijkmhmecaa.PPra Go.Proofs.Ytaaieijkmhmecaa.PragueEq Go.Proofs.YtaaieijkmhmecaaW.PrintWords Go.Proofs.YtaaieijkmhmecaaW.PrintLast

theorem PragueHalves : wigwaglaw14_PragueHalves.Pure := by
  intro b0 b1 b2 b3 al ac mk en ct a1 w0 w1 w2 w3 w4 w5 w6 w7 v1
  have k0 := wf64 w0
  have k6 := wf64 w6
  have kb := wf64 v1
  have hW : 4800 ≤ mn (mx b0 4800) 16777216 ∧ mn (mx b0 4800) 16777216 ≤ 16777216 := by unfold mn mx; split <;> split <;> omega
  unfold wigwaglaw14_PragueHalves.f
  generalize mn (mx b0 4800) 16777216 = x at *
  have z1 : uMulDiv x 1048576 2097152 = x / 2 := by unfold uMulDiv; rw [if_neg (by omega), if_neg (by omega)]; omega
  have z0 : uMulDiv x 0 2097152 = 0 := by unfold uMulDiv; rw [if_pos (by omega)]
  have l1 : uLess x 1048576 = x - x / 2 := by unfold uLess; rw [z1, show uSub x (x / 2) = x - x / 2 from if_pos (by omega)]; unfold uHeld; rw [if_neg (by omega), if_neg (by omega)]
  have l0 : uLess x 0 = x := by unfold uLess; rw [z0, show uSub x 0 = x - 0 from if_pos (by omega)]; unfold uHeld; rw [if_neg (by omega), if_neg (by omega)]; omega
  rw [awake_eq, mark_eq (by omega) (by omega) k6 kb, mark_eq (by omega) (by omega) k6 kb]
  simp [uMark, l1, l0]
end Go.Proofs.Ytaaieijkmhmecaa.Pure
