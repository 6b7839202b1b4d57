/- A row's struct out of its leaves. -/
import Derived.Test.YtpgffmnbdggpnaaPCvx0
import Derived.Test.YtpgffmnbdggpnaaOpen
namespace Go.Proofs.Ytpgffmnbdggpnaa.PCv
open Go.RowKit Go.Proofs.YtpgffmnbdggpnaaW.PrintWords
instance : Inhabited S90 := ⟨z90⟩
/-- The numbers of a row's struct are of their kinds. -/
def WfS90 (x : S90) : Prop := (Lit.int .u64 x.f0).wf = true ∧ (Lit.int .u64 x.f1).wf = true
theorem dec90 (w : World) (cs : List Value) (lv : IsLv [some .u64, some .u64] cs) : ∃ y : S90, k90.K w y cs ∧ WfS90 y := by
  obtain ⟨a0, l0, rfl, w0, lv0⟩ := lv_int lv
  obtain ⟨a1, l1, rfl, w1, lv1⟩ := lv_int lv0
  have e_ := lv_nil lv1
  subst e_
  exact ⟨⟨a0, a1⟩, k90_mk w ⟨a0, a1⟩, w0, w1⟩
end Go.Proofs.Ytpgffmnbdggpnaa.PCv
