/- What the functions of layer 1 answer at numbers of 64 bits, in plain words: shared by the seven statements. -/
import Derived.Test.YtffanpfimhldhaaPFixx
namespace Go.Proofs.Ytffanpfimhldhaa.FixEq
open Go.RowKit Go.Proofs.Ytffanpfimhldhaa.PFix Go.Proofs.YtffanpfimhldhaaW.PrintWords Go.Proofs.YtffanpfimhldhaaW.PrintLast

theorem wf64 {a : Int} (h : (Lit.int .u64 a).wf = true) : W64 a := by
  have e1 : IntKind.u64.min = 0 := rfl
  have e2 : IntKind.u64.max = 18446744073709551615 := rfl
  simp [Lit.wf, e1, e2] at h
  omega
theorem wf32 {a : Int} (h : (Lit.int .u32 a).wf = true) : 0 ≤ a ∧ a ≤ 4294967295 := by
  have e1 : IntKind.u32.min = 0 := rfl
  have e2 : IntKind.u32.max = 4294967295 := rfl
  simp [Lit.wf, e1, e2] at h
  omega
theorem add_eq {a b : Int} (ha : W64 a) (hb : W64 b) : fix_Add.f a b = some (uAdd a b) := by unfold fix_Add.f; rw [if_pos ⟨ha, hb⟩]
theorem sub_eq {a b : Int} (ha : W64 a) (hb : W64 b) : fix_SubT.f a b = some (uSub a b) := by unfold fix_SubT.f; rw [if_pos ⟨ha, hb⟩]
theorem mul_eq {a b : Int} (ha : W64 a) (hb : W64 b) : fix_MulT.f a b = some (uMul a b) := by unfold fix_MulT.f; rw [if_pos ⟨ha, hb⟩]
theorem muldiv_eq {a b c : Int} (ha : W64 a) (hb : W64 b) (hc : W64 c) : fix_MulDivT.f a b c = some (uMulDiv a b c) := by unfold fix_MulDivT.f; rw [if_pos ⟨ha, hb, hc⟩]
theorem gain_eq {a b : Int} (ha : W64 a) (hb : W64 b) : fix_Gain.f a b = some (uMulDiv a b 256) := by unfold fix_Gain.f; rw [muldiv_eq ha hb (by omega)]; rfl
theorem cbrt_eq {a : Int} (ha : W64 a) : fix_Cbrt.f a = some (uCbrt a) := by unfold fix_Cbrt.f; rw [if_pos ha]
theorem radd_eq {a b : Int} (ha : W64 a) (hb : W64 b) : wigwagref01_AddT.f a b = some (uAdd a b) := by unfold wigwagref01_AddT.f; rw [if_pos ⟨ha, hb⟩]
theorem rsub_eq {a b : Int} (ha : W64 a) (hb : W64 b) : wigwagref01_SubT.f a b = some (uSub a b) := by unfold wigwagref01_SubT.f; rw [if_pos ⟨ha, hb⟩]
theorem rmul_eq {a b : Int} (ha : W64 a) (hb : W64 b) : wigwagref01_MulT.f a b = some (uMul a b) := by unfold wigwagref01_MulT.f; rw [if_pos ⟨ha, hb⟩]
theorem rmuldiv_eq {a b c : Int} (ha : W64 a) (hb : W64 b) (hc : W64 c) : wigwagref01_MulDivT.f a b c = some (uMulDiv a b c) := by unfold wigwagref01_MulDivT.f; rw [if_pos ⟨ha, hb, hc⟩]
theorem rgain_eq {a b : Int} (ha : W64 a) (hb : W64 b) : wigwagref01_Gain.f a b = some (uMulDiv a b 256) := by unfold wigwagref01_Gain.f; rw [rmuldiv_eq ha hb (by omega)]; rfl
theorem rcbrt_eq {a : Int} (ha : W64 a) : wigwagref01_CbrtT.f a = some (uCbrt a) := by unfold wigwagref01_CbrtT.f; rw [if_pos ha]
theorem awake_eq : wigwaglaw01_awake.f = some true := by decide +kernel

theorem uAdd_comm (a b : Int) : uAdd a b = uAdd b a := by unfold uAdd; rw [Int.add_comm]
theorem uMul_comm (a b : Int) : uMul a b = uMul b a := by unfold uMul; rw [Int.mul_comm]
theorem uMulDiv_comm (a b c : Int) : uMulDiv a b c = uMulDiv b a c := by unfold uMulDiv; rw [Int.mul_comm]
theorem uAdd_mono {a d : Int} (b : Int) (h : a ≤ d) : uAdd a b ≤ uAdd d b := by unfold uAdd; split <;> split <;> omega
theorem uSub_mono {a d : Int} (b : Int) (h : a ≤ d) : uSub a b ≤ uSub d b := by unfold uSub; split <;> split <;> omega
theorem uMul_mono {a d b : Int} (hb : 0 ≤ b) (h : a ≤ d) : uMul a b ≤ uMul d b := by
  have := Int.mul_le_mul_of_nonneg_right h hb
  unfold uMul; split <;> split <;> omega
theorem uMulDiv_mono {a d b c : Int} (ha : 0 ≤ a) (hd : W64 d) (hb : W64 b) (hc : W64 c) (h : a ≤ d) : uMulDiv a b c ≤ uMulDiv d b c := by
  have h1 := Int.mul_le_mul_of_nonneg_right h hb.1
  have h0 := Int.mul_nonneg ha hb.1
  have hw := (uMulDiv_w (a := d) (b := b) (c := c) hd hb hc).1
  have hw' := (uMulDiv_w (a := a) (b := b) (c := c) (by omega) hb hc).2
  unfold uMulDiv at *
  generalize a * b = p at *
  generalize d * b = q at *
  by_cases hz : p = 0
  · rw [if_pos hz]; exact hw
  · rw [if_neg hz, if_neg (show ¬ q = 0 by omega)] at *
    by_cases hq : c * 18446744073709551616 ≤ q
    · rw [if_pos hq]; exact hw'
    · rw [if_neg hq, if_neg (by omega)]
      exact Int.ediv_le_ediv (by omega) h1
theorem uCbrt_mono {a d : Int} (ha : W64 a) (hd : W64 d) (h : a ≤ d) : uCbrt a ≤ uCbrt d := by
  obtain ⟨a0, a1, a2, a3⟩ := uCbrt_tells ha
  obtain ⟨d0, d1, d2, d3⟩ := uCbrt_tells hd
  by_cases hc : uCbrt a ≤ uCbrt d
  · exact hc
  · have := d3 (uCbrt a) (by omega); omega
end Go.Proofs.Ytffanpfimhldhaa.FixEq
