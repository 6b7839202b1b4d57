/- A product through a number is what is left of the product by so many times that number: for two numbers of 32 bits and one of 64, with no condition. -/
import Derived.Test.YtffanpfimhldhaaFixEq
namespace Go.Proofs.Ytffanpfimhldhaa.Pure
open Go.RowKit Go.Proofs.Ytffanpfimhldhaa.PFix Go.Proofs.Ytffanpfimhldhaa.FixEq Go.Proofs.YtffanpfimhldhaaW.PrintWords Go.Proofs.YtffanpfimhldhaaW.PrintLast

theorem FixParts : wigwaglaw01_FixParts.Pure := by
  intro a b c h1 h2 h3
  have ha := wf32 h1
  have hb := wf32 h2
  have hc := wf64 h3
  have hp := mul_bd (a := a) (b := b) (A := 4294967295) (B := 4294967295) (by omega) (by omega) (by omega) (by omega)
  have hm : uMul a b = a * b := by unfold uMul; rw [if_pos (by omega)]
  unfold wigwaglaw01_FixParts.f
  rw [w64 (x := a) (by omega), w64 (x := b) (by omega), w64 (x := a * b) (by omega), awake_eq, muldiv_eq (by omega) (by omega) hc, mul_eq (by omega) (by omega), hm]
  simp only [Option.bind_some, if_true]
  unfold uMulDiv
  generalize a * b = p at *
  by_cases hz : c = 0
  · subst hz
    rw [if_pos rfl]
    by_cases hp0 : p = 0
    · subst hp0; rfl
    · rw [if_neg hp0, if_pos (by omega)]
      simp [hp0]
  · have hd0 : 0 ≤ p / c := Int.ediv_nonneg hp.1 hc.1
    have hd1 : p / c ≤ p := Int.ediv_le_self c hp.1
    rw [if_neg hz, Int.tdiv_eq_ediv_of_nonneg hp.1, w64 (x := p / c) (by omega)]
    have e : (if p = 0 then 0 else if c * 18446744073709551616 ≤ p then 18446744073709551615 else p / c) = p / c := by
      by_cases hp0 : p = 0
      · subst hp0; simp
      · rw [if_neg hp0, if_neg (by omega)]
    rw [e]
    simp
end Go.Proofs.Ytffanpfimhldhaa.Pure
