/- Of numbers of 32 bits sums, differences and products are as Go reckons them, and the root of a cube is its number: for both numbers, with no condition. -/
import Derived.Test.YtffanpfimhldhaaFixEq
namespace Go.Proofs.Ytffanpfimhldhaa.Pure
open Go.RowKit Go.Proofs.Ytffanpfimhldhaa.PFix Go.Proofs.Ytffanpfimhldhaa.FixEq Go.Proofs.YtffanpfimhldhaaW.PrintWords Go.Proofs.YtffanpfimhldhaaW.PrintLast

theorem FixSmall : wigwaglaw01_FixSmall.Pure := by
  intro a b h1 h2
  have ha := wf32 h1
  have hb := wf32 h2
  have hp := mul_bd (a := a) (b := b) (A := 4294967295) (B := 4294967295) (by omega) (by omega) (by omega) (by omega)
  have hm : uMul a b = a * b := by unfold uMul; rw [if_pos (by omega)]
  have hs : uAdd a b = a + b := by unfold uAdd; rw [if_pos (by omega)]
  have ht : Int.tmod a 2048 = a % 2048 := Int.tmod_eq_emod_of_nonneg ha.1
  obtain ⟨r, hr⟩ : ∃ r, a % 2048 = r := ⟨_, rfl⟩
  have e1 := mul_bd (a := r) (b := r) (A := 2047) (B := 2047) (by omega) (by omega) (by omega) (by omega)
  have e2 := mul_bd (a := r * r) (b := r) (A := 4190209) (B := 2047) (by omega) (by omega) (by omega) (by omega)
  have hcb : uCbrt (r * r * r) = r := uCbrt_only (by omega) (by omega) (by omega) (cube_lt (by omega) (by omega))
  have hj : ∀ z, z = uSub a b → wigwaglaw01_FixSmall.j0 1 a true a b z = some true := by
    rintro z rfl
    simp only [wigwaglaw01_FixSmall.j0]
    rw [ht, hr, w64 (x := r) (by omega), w64 (x := r * r) (by omega), w64 (x := r * r * r) (by omega), w64 (x := a + b) (by omega), w64 (x := a * b) (by omega)]
    rw [add_eq (by omega) (by omega), mul_eq (by omega) (by omega), sub_eq (by omega) (by omega), cbrt_eq (by omega), hm, hs, hcb]
    simp
  refine ⟨1, ?_⟩
  unfold wigwaglaw01_FixSmall.f
  rw [w64 (x := a) (by omega), w64 (x := b) (by omega), awake_eq]
  simp only [Option.bind_some]
  unfold uSub at hj
  by_cases hc : a > b
  · rw [if_pos hc, w64 (by omega)]; exact hj _ (by rw [if_pos (by omega)])
  · rw [if_neg hc]; exact hj _ (by split <;> omega)
end Go.Proofs.Ytffanpfimhldhaa.Pure
