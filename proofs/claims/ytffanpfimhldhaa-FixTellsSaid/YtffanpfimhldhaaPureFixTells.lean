/- The program's sums, differences, products, products through a number, gains and roots of any numbers of 64 bits are the document's: for all three numbers, with no condition. -/
import Derived.Test.YtffanpfimhldhaaFixEq
namespace Go.Proofs.Ytffanpfimhldhaa.Pure
open Go.RowKit Go.Proofs.Ytffanpfimhldhaa.PFix Go.Proofs.Ytffanpfimhldhaa.FixEq Go.Proofs.YtffanpfimhldhaaW.PrintWords Go.Proofs.YtffanpfimhldhaaW.PrintLast

theorem FixTells : wigwaglaw01_FixTells.Pure := by
  intro a b c h1 h2 h3
  have ha := wf64 h1
  have hb := wf64 h2
  have hc := wf64 h3
  refine ⟨1, ?_⟩
  unfold wigwaglaw01_FixTells.f
  rw [awake_eq, add_eq ha hb, radd_eq ha hb, sub_eq ha hb, rsub_eq ha hb, mul_eq ha hb, rmul_eq ha hb]
  simp only [Option.bind_some, if_true, wigwaglaw01_FixTells.j0]
  rw [muldiv_eq ha hb hc, rmuldiv_eq ha hb hc, gain_eq ha hb, rgain_eq ha hb, cbrt_eq ha, rcbrt_eq ha]
  simp
end Go.Proofs.Ytffanpfimhldhaa.Pure
