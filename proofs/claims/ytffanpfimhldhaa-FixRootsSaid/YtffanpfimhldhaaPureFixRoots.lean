/- A root's cube is at most the number, and the next one's is above it: for every number of 64 bits, with no condition. -/
import Derived.Test.YtffanpfimhldhaaFixEq
namespace Go.Proofs.Ytffanpfimhldhaa.Pure
open Go.RowKit Go.Proofs.Ytffanpfimhldhaa.PFix Go.Proofs.Ytffanpfimhldhaa.FixEq Go.Proofs.YtffanpfimhldhaaW.PrintWords Go.Proofs.YtffanpfimhldhaaW.PrintLast

theorem FixRoots : wigwaglaw01_FixRoots.Pure := by
  intro a h1
  have ha := wf64 h1
  obtain ⟨r0, r1, r2, r3⟩ := uCbrt_tells ha
  have r4 := r3 (uCbrt a + 1) (by omega)
  unfold wigwaglaw01_FixRoots.f
  rw [awake_eq, cbrt_eq ha]
  simp only [Option.bind_some, if_true]
  generalize uCbrt a = r at *
  have e1 := mul_bd (A := 2642245) (B := 2642245) r0 r1 r0 r1
  have e2 := mul_bd (a := r * r) (b := r) (A := 6981458640025) (B := 2642245) (by omega) (by omega) r0 r1
  rw [w64 (x := r * r) (by omega), w64 (x := r * r * r) (by omega), if_neg (by omega)]
  by_cases hm : r = 2642245
  · rw [if_pos hm, if_pos r2]
  · have e3 := mul_bd (a := r + 1) (b := r + 1) (A := 2642245) (B := 2642245) (by omega) (by omega) (by omega) (by omega)
    have e4 := mul_bd (a := (r + 1) * (r + 1)) (b := r + 1) (A := 6981458640025) (B := 2642245) (by omega) (by omega) (by omega) (by omega)
    rw [if_neg hm, w64 (x := r + 1) (by omega), w64 (x := (r + 1) * (r + 1)) (by omega), w64 (x := (r + 1) * (r + 1) * (r + 1)) (by omega), decide_eq_true r4, if_pos r2]
end Go.Proofs.Ytffanpfimhldhaa.Pure
