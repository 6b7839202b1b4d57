/- Brackets do not matter to sums and products, what is taken away twice is taken away together, and gains of none and of two are none and twice as much: for all three numbers of 64 bits, with no condition. -/
import Derived.Test.YtffanpfimhldhaaFixEq
namespace Go.Proofs.Ytffanpfimhldhaa.Pure
open Go.RowKit Go.Proofs.Ytffanpfimhldhaa.PFix Go.Proofs.Ytffanpfimhldhaa.FixEq Go.Proofs.YtffanpfimhldhaaW.PrintWords Go.Proofs.YtffanpfimhldhaaW.PrintLast

theorem FixBrackets : wigwaglaw01_FixBrackets.Pure := by
  intro a b c h1 h2 h3
  have ha := wf64 h1
  have hb := wf64 h2
  have hc := wf64 h3
  have hab := uAdd_w ha hb
  have hbc := uAdd_w hb hc
  have mab := uMul_w ha hb
  have mbc := uMul_w hb hc
  have sab := uSub_w ha hb
  have g1 : uAdd (uAdd a b) c = uAdd a (uAdd b c) := by unfold uAdd; split <;> split <;> (try split) <;> omega
  have g2 : uMul (uMul a b) c = uMul a (uMul b c) := by
    have hp := Int.mul_nonneg ha.1 hb.1
    have hq := Int.mul_nonneg hb.1 hc.1
    unfold uMul
    by_cases x : a * b ≤ 18446744073709551615
    · by_cases y : b * c ≤ 18446744073709551615
      · rw [if_pos x, if_pos y, Int.mul_assoc]
      · rw [if_pos x, if_neg y]
        rcases Int.lt_or_le 0 a with hpos | h0
        · have e1 : 1 * (b * c) ≤ a * (b * c) := Int.mul_le_mul_of_nonneg_right (by omega) hq
          have e2 : 1 * 18446744073709551615 ≤ a * 18446744073709551615 := Int.mul_le_mul_of_nonneg_right (by omega) (by omega)
          rw [Int.mul_assoc, if_neg (by omega)]
          split <;> omega
        · obtain rfl : a = 0 := by omega
          simp
    · by_cases y : b * c ≤ 18446744073709551615
      · rw [if_neg x, if_pos y, ← Int.mul_assoc]
        rcases Int.lt_or_le 0 c with hpos | h0
        · have e1 : a * b * 1 ≤ a * b * c := Int.mul_le_mul_of_nonneg_left (by omega) hp
          rw [if_neg (show ¬ a * b * c ≤ 18446744073709551615 by omega)]
          split <;> omega
        · obtain rfl : c = 0 := by omega
          simp
      · have hapos : 1 ≤ a := by
          rcases Int.lt_or_le 0 a with hh | hh
          · omega
          · obtain rfl : a = 0 := by omega
            simp at x
        have hcpos : 1 ≤ c := by
          rcases Int.lt_or_le 0 c with hh | hh
          · omega
          · obtain rfl : c = 0 := by omega
            simp at y
        rw [if_neg x, if_neg y]
        split <;> split <;> omega
  have g3 : uSub (uSub a b) c = uSub a (uAdd b c) := by unfold uSub uAdd; split <;> split <;> (try split) <;> (try split) <;> omega
  have g4 : uMulDiv a 0 256 = 0 := by unfold uMulDiv; rw [if_pos (by omega)]
  have g5 : uMulDiv a 512 256 = uMul a 2 := by unfold uMulDiv uMul; split <;> (try split) <;> (try split) <;> omega
  refine ⟨1, ?_⟩
  unfold wigwaglaw01_FixBrackets.f
  rw [awake_eq, add_eq ha hb]
  simp only [Option.bind_some]
  rw [add_eq hab hc, add_eq hb hc]
  simp only [Option.bind_some]
  rw [add_eq ha hbc, mul_eq ha hb, mul_eq hb hc]
  simp only [Option.bind_some]
  rw [mul_eq mab hc, mul_eq ha mbc, g1, g2]
  simp only [Option.bind_some, beq_self_eq_true, if_true, wigwaglaw01_FixBrackets.j0]
  rw [sub_eq ha hb]
  simp only [Option.bind_some]
  rw [sub_eq sab hc, add_eq hb hc]
  simp only [Option.bind_some]
  rw [sub_eq ha hbc, g3, gain_eq ha (show W64 0 by omega), gain_eq ha (show W64 512 by omega), mul_eq ha (show W64 2 by omega), g4, g5]
  simp
end Go.Proofs.Ytffanpfimhldhaa.Pure
