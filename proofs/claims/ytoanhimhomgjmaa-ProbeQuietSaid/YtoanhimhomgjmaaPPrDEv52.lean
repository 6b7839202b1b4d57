/- A row's struct out of its leaves. -/
import Derived.Test.YtoanhimhomgjmaaPPrDx0
import Derived.Test.YtoanhimhomgjmaaOpen
namespace Go.Proofs.Ytoanhimhomgjmaa.PPrD
open Go.RowKit Go.Proofs.YtoanhimhomgjmaaW.PrintWords
instance : Inhabited S52 := ⟨z52⟩
/-- The numbers of a row's struct are of their kinds. -/
def WfS52 (x : S52) : Prop := (Lit.int .u64 x.f0).wf = true ∧ (Lit.int .u64 x.f1).wf = true
theorem dec52 (w : World) (cs : List Value) (lv : IsLv [some .u64, some .u64] cs) : ∃ y : S52, k52.K w y cs ∧ WfS52 y := by
  obtain ⟨a0, l0, rfl, w0, lv0⟩ := lv_int lv
  obtain ⟨a1, l1, rfl, w1, lv1⟩ := lv_int lv0
  have e_ := lv_nil lv1
  subst e_
  exact ⟨⟨a0, a1⟩, k52_mk w ⟨a0, a1⟩, w0, w1⟩
end Go.Proofs.Ytoanhimhomgjmaa.PPrD
