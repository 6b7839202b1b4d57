/- A row's struct out of its leaves. -/
import Derived.Test.YtjjemhcddjgdaaaPCubx0
import Derived.Test.YtjjemhcddjgdaaaOpen
namespace Go.Proofs.Ytjjemhcddjgdaaa.PCub
open Go.RowKit Go.Proofs.YtjjemhcddjgdaaaW.PrintWords
instance : Inhabited S29 := ⟨z29⟩
/-- The numbers of a row's struct are of their kinds. -/
def WfS29 (x : S29) : Prop := (Lit.int .i64 x.f0).wf = true ∧ (Lit.int .u64 x.f1).wf = true ∧ (Lit.int .u64 x.f2).wf = true ∧ (Lit.int .u64 x.f3).wf = true ∧ (Lit.int .u64 x.f4).wf = true
theorem dec29 (w : World) (cs : List Value) (lv : IsLv [some .i64, some .u64, some .u64, some .u64, some .u64, none] cs) : ∃ y : S29, k29.K w y cs ∧ WfS29 y := by
  obtain ⟨a0, l0, rfl, w0, lv0⟩ := lv_int lv
  obtain ⟨a1, l1, rfl, w1, lv1⟩ := lv_int lv0
  obtain ⟨a2, l2, rfl, w2, lv2⟩ := lv_int lv1
  obtain ⟨a3, l3, rfl, w3, lv3⟩ := lv_int lv2
  obtain ⟨a4, l4, rfl, w4, lv4⟩ := lv_int lv3
  obtain ⟨a5, l5, rfl, lv5⟩ := lv_bool lv4
  have e_ := lv_nil lv5
  subst e_
  exact ⟨⟨a0, a1, a2, a3, a4, a5⟩, k29_mk w ⟨a0, a1, a2, a3, a4, a5⟩, w0, w1, w2, w3, w4⟩
end Go.Proofs.Ytjjemhcddjgdaaa.PCub
