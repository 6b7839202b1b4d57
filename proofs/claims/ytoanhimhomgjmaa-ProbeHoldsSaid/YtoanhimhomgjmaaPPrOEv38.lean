/- A row's struct out of its leaves. -/
import Derived.Test.YtoanhimhomgjmaaPPrOx0
import Derived.Test.YtoanhimhomgjmaaOpen
namespace Go.Proofs.Ytoanhimhomgjmaa.PPrO
open Go.RowKit Go.Proofs.YtoanhimhomgjmaaW.PrintWords
instance : Inhabited S38 := ⟨z38⟩
/-- The numbers of a row's struct are of their kinds. -/
def WfS38 (x : S38) : Prop := (Lit.int .u64 x.f1.f0).wf = true ∧ (Lit.int .u64 x.f1.f1).wf = true ∧ (Lit.int .u64 x.f1.f2).wf = true ∧ (Lit.int .u64 x.f1.f3).wf = true ∧ (Lit.int .u64 x.f1.f4).wf = true ∧ (Lit.int .u64 x.f1.f5).wf = true ∧ (Lit.int .u64 x.f1.f6).wf = true ∧ (Lit.int .u64 x.f1.f7).wf = true
theorem dec38 (w : World) (cs : List Value) (lv : IsLv [none, some .u64, some .u64, some .u64, some .u64, some .u64, some .u64, some .u64, some .u64, none, none] cs) : ∃ y : S38, k38.K w y cs ∧ WfS38 y := by
  obtain ⟨a0, l0, rfl, lv0⟩ := lv_bool lv
  obtain ⟨a1, l1, rfl, w1, lv1⟩ := lv_int lv0
  obtain ⟨a2, l2, rfl, w2, lv2⟩ := lv_int lv1
  obtain ⟨a3, l3, rfl, w3, lv3⟩ := lv_int lv2
  obtain ⟨a4, l4, rfl, w4, lv4⟩ := lv_int lv3
  obtain ⟨a5, l5, rfl, w5, lv5⟩ := lv_int lv4
  obtain ⟨a6, l6, rfl, w6, lv6⟩ := lv_int lv5
  obtain ⟨a7, l7, rfl, w7, lv7⟩ := lv_int lv6
  obtain ⟨a8, l8, rfl, w8, lv8⟩ := lv_int lv7
  obtain ⟨a9, l9, rfl, lv9⟩ := lv_bool lv8
  obtain ⟨a10, l10, rfl, lv10⟩ := lv_bool lv9
  have e_ := lv_nil lv10
  subst e_
  exact ⟨⟨a0, ⟨a1, a2, a3, a4, a5, a6, a7, a8, a9, a10⟩⟩, k38_mk w ⟨a0, ⟨a1, a2, a3, a4, a5, a6, a7, a8, a9, a10⟩⟩, w1, w2, w3, w4, w5, w6, w7, w8⟩
end Go.Proofs.Ytoanhimhomgjmaa.PPrO
