/- Orders of sums and products do not matter, and nothing falls where its first number rises: for all four numbers of 64 bits, with no condition. -/
import Derived.Test.YtffanpfimhldhaaFixEq
namespace Go.Proofs.Ytffanpfimhldhaa.Pure
open Go.RowKit Go.Proofs.Ytffanpfimhldhaa.PFix Go.Proofs.Ytffanpfimhldhaa.FixEq Go.Proofs.YtffanpfimhldhaaW.PrintWords Go.Proofs.YtffanpfimhldhaaW.PrintLast

theorem FixOrders : wigwaglaw01_FixOrders.Pure := by
  intro a b c d h1 h2 h3 h4
  have ha := wf64 h1
  have hb := wf64 h2
  have hc := wf64 h3
  have hd := wf64 h4
  have hl : W64 (mn a d) := by unfold mn; split <;> omega
  have hm : W64 (mx a d) := by unfold mx; split <;> omega
  have hle : mn a d ≤ mx a d := by unfold mn mx; split <;> split <;> omega
  refine ⟨2, ?_⟩
  unfold wigwaglaw01_FixOrders.f
  generalize mn a d = l at *
  generalize mx a d = m at *
  rw [awake_eq, add_eq hl hb, add_eq hb hl, uAdd_comm b l, mul_eq hl hb, mul_eq hb hl, uMul_comm b l, muldiv_eq hl hb hc, muldiv_eq hb hl hc, uMulDiv_comm b l]
  simp only [Option.bind_some, if_true, wigwaglaw01_FixOrders.j0]
  rw [add_eq hl hb, add_eq hm hb, sub_eq hl hb, sub_eq hm hb, mul_eq hl hb, mul_eq hm hb]
  simp only [Option.bind_some]
  rw [if_pos (uAdd_mono b hle), if_pos (uSub_mono b hle), decide_eq_true (uMul_mono hb.1 hle)]
  simp only [wigwaglaw01_FixOrders.j1]
  rw [muldiv_eq hl hb hc, muldiv_eq hm hb hc, gain_eq hl hb, gain_eq hm hb, cbrt_eq hl, cbrt_eq hm]
  simp only [Option.bind_some, beq_self_eq_true, if_true]
  rw [if_pos (uMulDiv_mono hl.1 hm hb hc hle), if_pos (uMulDiv_mono hl.1 hm hb (by omega) hle), decide_eq_true (uCbrt_mono hl hm hle)]
end Go.Proofs.Ytffanpfimhldhaa.Pure
