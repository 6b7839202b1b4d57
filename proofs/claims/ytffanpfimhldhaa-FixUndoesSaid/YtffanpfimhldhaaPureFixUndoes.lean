/- What is added is taken away, unless it was too much, and a product through one of its numbers is the other one: for both numbers of 64 bits, with no condition. -/
import Derived.Test.YtffanpfimhldhaaFixEq
namespace Go.Proofs.Ytffanpfimhldhaa.Pure
open Go.RowKit Go.Proofs.Ytffanpfimhldhaa.PFix Go.Proofs.Ytffanpfimhldhaa.FixEq Go.Proofs.YtffanpfimhldhaaW.PrintWords Go.Proofs.YtffanpfimhldhaaW.PrintLast

theorem FixUndoes : wigwaglaw01_FixUndoes.Pure := by
  intro a b h1 h2
  have ha := wf64 h1
  have hb := wf64 h2
  have hs := uAdd_w ha hb
  have g1 : uSub a 0 = a := by unfold uSub; rw [if_pos ha.1]; omega
  have g2 : ∀ c, uMulDiv a 0 c = 0 := by intro c; unfold uMulDiv; rw [if_pos (by omega)]
  have g3 : uMulDiv a 256 256 = a := by unfold uMulDiv; split <;> (try split) <;> omega
  have g4 : uAdd a b ≥ a := by unfold uAdd; split <;> omega
  have g5 : uAdd a b ≥ b := by unfold uAdd; split <;> omega
  have hj : ∀ z, z = true → wigwaglaw01_FixUndoes.j0 1 a b true (uAdd a b) z = some true := by
    rintro z rfl
    simp only [wigwaglaw01_FixUndoes.j0]
    rw [sub_eq ha (show W64 0 by omega), muldiv_eq ha (show W64 0 by omega) hb, gain_eq ha (show W64 256 by omega), g1, g2, g3]
    simp only [Option.bind_some, if_true]
    rw [if_pos g4, decide_eq_true g5]
    by_cases hz : b = 0
    · rw [if_pos hz]
    · have g6 : uMulDiv a b b = a := by
        unfold uMulDiv
        by_cases ha0 : a = 0
        · subst ha0; rw [if_pos (by omega)]
        · have hp : 0 < a * b := Int.mul_pos (by omega) (by omega)
          have hlt : a * b < 18446744073709551616 * b := Int.mul_lt_mul_of_pos_right (by omega) (by omega)
          rw [if_neg (by omega), if_neg (by omega), Int.mul_ediv_cancel _ hz]
      rw [if_neg hz, muldiv_eq ha hb hb, g6]
      simp
  refine ⟨1, ?_⟩
  unfold wigwaglaw01_FixUndoes.f
  rw [awake_eq, add_eq ha hb]
  simp only [Option.bind_some]
  rw [sub_eq hs hb]
  simp only [Option.bind_some]
  by_cases hc : uSub (uAdd a b) b = a
  · rw [if_pos hc]; exact hj _ rfl
  · rw [if_neg hc]
    refine hj _ ?_
    unfold uSub uAdd at hc
    unfold uAdd
    by_cases ho : a + b ≤ 18446744073709551615
    · rw [if_pos ho] at hc
      exact absurd (by rw [if_pos (by omega)]; omega) hc
    · rw [if_neg ho]; rfl
end Go.Proofs.Ytffanpfimhldhaa.Pure
