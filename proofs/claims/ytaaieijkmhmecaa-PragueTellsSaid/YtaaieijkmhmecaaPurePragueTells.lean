/- The program's answers to bytes, to marks, to losses and to a collapse are the document's: for all states, with no condition. -/
import Derived.Test.YtaaieijkmhmecaaPragueEqT
namespace Go.Proofs.Ytaaieijkmhmecaa.Pure
open Go.RowKit Go.Proofs.Ytaaieijkmhmecaa.PPrT Go.Proofs.Ytaaieijkmhmecaa.PragueEqT Go.Proofs.YtaaieijkmhmecaaW.PrintWords Go.Proofs.YtaaieijkmhmecaaW.PrintLast

theorem PragueTells : wigwaglaw14_PragueTells.Pure := by
  intro b0 b1 b2 b3 al ac mk en ct g0 b t lg sn g5 g6 g7 l u a2 a3 a4 w0 w1 w2 w3 w4 w5 w6 w7 v0 v1 v2 v3 v4 v5 v6 v7 x2 x3 x4
  have k0 := wf64 w0
  have k3 := wf64 w3
  have k4 := wf64 w4
  have k5 := wf64 w5
  have k6 := wf64 w6
  have kb := wf64 v1
  have kx := wf64 x2
  have ky := wf64 x4
  have kz := wf64 x3
  unfold wigwaglaw14_PragueTells.f prague_Loss.f wigwagref14_Loss.f prague_Collapse.f wigwagref14_Collapse.f prague_New.f wigwagref14_New.f
  rw [awake_eq, ack_eq k0 k3 k4 k5 k6 kb, rack_eq k0 k3 k4 k5 k6 kb, mark_eq k0 k4 k6 kx, rmark_eq k0 k4 k6 kx]
  simp only [Option.bind_some, if_true, beq_self_eq_true, Bool.and_self]
  first
    | rw [loss_eq k0 ky, rloss_eq k0 ky]
    | rw [loss_eq k0 kz, rloss_eq k0 kz]
  simp [reno_Collapse.f, wigwagref10_Collapse.f, reno_New.f, wigwagref10_New.f]
end Go.Proofs.Ytaaieijkmhmecaa.Pure
