/- Rows of structs of numbers and bools: what their reading says of their cells. No program in sight: for every program. -/
import Derived.Deep.Slices
import Derived.Test.YtoanhimhomgjmaaWWords
import Derived.Test.YtoanhimhomgjmaaOpen
namespace Go.Proofs.Ytoanhimhomgjmaa
open Go.ChangeShapes Go.WideShapes Go.ChangeAt Go.RowKit Go.Proofs.YtoanhimhomgjmaaW.PrintWords

theorem open_structs {H : Type} {enc : TypeId × Value → H} {P : Program} {w : World} {base : Nat} {spare : Nat → Bool} {held : Bool} {α : Type} [Inhabited α] {d : Kd α} {Wf : α → Prop} {ls : List (Option IntKind)} {t e : TypeId} {m fuel : Nat} {A : Option Addr} {len cap : Nat} {x : DataW H × List MemPlace}
    (hdec : ∀ cs, IsLv ls cs → ∃ y, d.K w y cs ∧ Wf y) (ht : P.underlying t = some (.slice e)) (hl : leavesOf P m e = some ls) (hs : d.sz = P.cellsOf e)
    (h : DataW.trod enc P w base spare held fuel t [.slice A len cap] = some x) : ∃ ys : List α, ys.length = len ∧ len ≤ cap ∧ d.C w A len ys ∧ ∀ y ∈ ys, Wf y := by
  rcases Go.Deep.open_slice ht h with ⟨h0, _⟩ | ⟨a, len', cap', m', n, D, Pl, hcs, _, hle, hmx, hm, _, hx⟩
  · simp only [List.cons.injEq, Value.slice.injEq, and_true] at h0
    obtain ⟨rfl, rfl, rfl⟩ := h0
    exact ⟨[], rfl, Nat.le_refl _, Kd.C_nil d w, by simp⟩
  · simp only [List.cons.injEq, Value.slice.injEq, and_true] at hcs
    obtain ⟨rfl, rfl, rfl⟩ := hcs
    have hlm : len ≤ m' := by rw [hm]; split <;> omega
    have each : ∀ i, i < len → ∃ y, (∃ cs, d.K w y cs ∧ ∀ j u, cs[j]? = some u → w.cell? (a.add (i * d.sz + j)) = some u) ∧ Wf y := by
      intro i hi
      obtain ⟨cs', h1, h2⟩ := hx i (by omega)
      obtain ⟨_, hlen, hcell⟩ := World.cells?_some h1
      obtain ⟨y, hK, hW⟩ := hdec cs' (leavesOf_tells m e ls cs' hl hlen ⟨_, _, h2⟩)
      refine ⟨y, ⟨cs', hK, fun j u hu => ?_⟩, hW⟩
      have hj : j < P.cellsOf e := by
        have := (List.getElem?_eq_some_iff.1 hu).1
        omega
      rw [hs, ← Go.Deep.add_add, hcell j hj, hu]
    obtain ⟨Y, hY⟩ := Go.Deep.choose_lt each
    have hmax : cap ≤ 9223372036854775807 := hmx
    refine ⟨(List.range len).map Y, by simp, hle, ⟨by simp, by omega, fun _ => ⟨a, rfl, fun j p hp => ?_⟩⟩, fun y hy => ?_⟩
    · obtain ⟨h1, h2⟩ := List.getElem?_eq_some_iff.1 hp
      have hj : j < len := by simpa using h1
      have e : p = Y j := by rw [← h2]; simp
      subst e
      obtain ⟨⟨cs, hK, hcell⟩, _⟩ := hY j hj
      exact ⟨cs, d.K_len hK, hK, hcell⟩
    · obtain ⟨i, hi, rfl⟩ := List.mem_map.1 hy
      exact (hY i (List.mem_range.1 hi)).2
end Go.Proofs.Ytoanhimhomgjmaa
