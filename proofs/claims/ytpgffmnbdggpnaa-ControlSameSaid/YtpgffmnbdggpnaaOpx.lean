/- Arguments that are structs of numbers, bools and rows: what their reading says of their cells. No program in sight: for every program. -/
import Derived.Deep.Slices
import Derived.WalkKit
import Derived.ProofKit
import Derived.KernelRfl
namespace Go.Proofs.Ytpgffmnbdggpnaa
open Go.ChangeShapes Go.WideShapes Go.ChangeAt Go.RowKit

inductive Leaf where
  | num (k : IntKind)
  | truth
  | row (t : TypeId)
section
variable {H : Type} {enc : TypeId × Value → H} {P : Program} {w : World} {base : Nat} {spare : Nat → Bool} {held : Bool}
/-- What is read of a row that stands in a struct. -/
def IsRow (enc : TypeId × Value → H) (P : Program) (w : World) (base : Nat) (spare : Nat → Bool) (held : Bool) (t : TypeId) (v : Value) : Prop := ∃ n y, DataW.trod enc P w base spare held n t [v] = some y
/-- The leaves of a struct's cells: a whole number of a kind, a bool, or a row. -/
def IsLx (R : TypeId → Value → Prop) : List Leaf → List Value → Prop
  | [], [] => True
  | .num k :: ls, v :: vs => (∃ n, v = .int k n ∧ (Lit.int k n).wf = true) ∧ IsLx R ls vs
  | .truth :: ls, v :: vs => (∃ b, v = .bool b) ∧ IsLx R ls vs
  | .row t :: ls, v :: vs => R t v ∧ IsLx R ls vs
  | _, _ => False
theorem IsLx.append {R : TypeId → Value → Prop} : ∀ {l1 l2 : List Leaf} {v1 v2 : List Value}, IsLx R l1 v1 → IsLx R l2 v2 → IsLx R (l1 ++ l2) (v1 ++ v2)
  | [], _, [], _, _, h => h
  | .num _ :: _, _, _ :: _, _, h1, h2 => ⟨h1.1, IsLx.append h1.2 h2⟩
  | .truth :: _, _, _ :: _, _, h1, h2 => ⟨h1.1, IsLx.append h1.2 h2⟩
  | .row _ :: _, _, _ :: _, _, h1, h2 => ⟨h1.1, IsLx.append h1.2 h2⟩
theorem lx_int {R : TypeId → Value → Prop} {k : IntKind} {ls : List Leaf} {cs : List Value} (h : IsLx R (.num k :: ls) cs) : ∃ n cs', cs = .int k n :: cs' ∧ (Lit.int k n).wf = true ∧ IsLx R ls cs' := by
  cases cs with
  | nil => exact h.elim
  | cons v vs =>
    obtain ⟨⟨n, rfl, hw⟩, h⟩ := h
    exact ⟨n, vs, rfl, hw, h⟩
theorem lx_bool {R : TypeId → Value → Prop} {ls : List Leaf} {cs : List Value} (h : IsLx R (.truth :: ls) cs) : ∃ b cs', cs = .bool b :: cs' ∧ IsLx R ls cs' := by
  cases cs with
  | nil => exact h.elim
  | cons v vs =>
    obtain ⟨⟨b, rfl⟩, h⟩ := h
    exact ⟨b, vs, rfl, h⟩
theorem lx_row {R : TypeId → Value → Prop} {t : TypeId} {ls : List Leaf} {cs : List Value} (h : IsLx R (.row t :: ls) cs) : ∃ v cs', cs = v :: cs' ∧ R t v ∧ IsLx R ls cs' := by
  cases cs with
  | nil => exact h.elim
  | cons v vs => exact ⟨v, vs, rfl, h.1, h.2⟩
theorem lx_nil {R : TypeId → Value → Prop} {cs : List Value} (h : IsLx R [] cs) : cs = [] := by
  cases cs with
  | nil => rfl
  | cons v vs => exact h.elim

def fieldsLx (P : Program) (g : TypeId → Option (List Leaf)) : Nat → List Field → Option (List Leaf)
  | _, [] => some []
  | o, f :: fs => match g f.type with
    | none => none
    | some l => if f.offset = o ∧ l.length = P.cellsOf f.type then (fieldsLx P g (o + l.length) fs).map (l ++ ·) else none
def leavesX (P : Program) : Nat → TypeId → Option (List Leaf)
  | 0, _ => none
  | n + 1, t => match P.underlying t with
    | some (.int k) => some [.num k]
    | some .bool => some [.truth]
    | some (.slice _) => if P.cellsOf t = 1 then some [.row t] else none
    | some (.struct fs) => match fieldsLx P (leavesX P n) 0 fs.toList with
      | none => none
      | some l => if l.length = P.cellsOf t then some l else none
    | _ => none
theorem fieldsLx_tells {g : TypeId → Option (List Leaf)} {cs : List Value}
    (hg : ∀ t l cs', g t = some l → cs'.length = P.cellsOf t → (∃ n y, DataW.trod enc P w base spare held n t cs' = some y) → IsLx (IsRow enc P w base spare held) l cs') :
    ∀ (fs : List Field) (o : Nat) (l : List Leaf), fieldsLx P g o fs = some l → cs.length = o + l.length →
    (∀ f ∈ fs, ∃ n y, DataW.trod enc P w base spare held n f.type ((cs.drop f.offset).take (P.cellsOf f.type)) = some y) → IsLx (IsRow enc P w base spare held) l (cs.drop o)
  | [], o, l, hl, hlen, _ => by
    obtain rfl := Option.some.inj hl
    simp at hlen
    rw [List.drop_eq_nil_of_le (by omega)]
    exact trivial
  | f :: fs, o, l, hl, hlen, hf => by
    unfold fieldsLx at hl
    split at hl
    · cases hl
    · rename_i l1 h1
      split at hl
      · rename_i hc
        obtain ⟨rfl, hc⟩ := hc
        obtain ⟨l2, h2, rfl⟩ := Option.map_eq_some_iff.1 hl
        simp at hlen
        have e : cs.drop f.offset = (cs.drop f.offset).take l1.length ++ cs.drop (f.offset + l1.length) := by
          rw [← List.drop_drop]; exact (List.take_append_drop _ _).symm
        rw [e]
        refine IsLx.append (hg f.type l1 _ h1 (by simp; omega) ?_) (fieldsLx_tells hg fs _ l2 h2 (by omega) fun f' hm => hf f' (List.mem_cons_of_mem _ hm))
        have := hf f (List.mem_cons_self ..)
        rwa [← hc] at this
      · cases hl
theorem leavesX_tells : ∀ (m : Nat) (t : TypeId) (l : List Leaf) (cs : List Value), leavesX P m t = some l → cs.length = P.cellsOf t → (∃ n y, DataW.trod enc P w base spare held n t cs = some y) → IsLx (IsRow enc P w base spare held) l cs
  | 0, _, _, _, h, _, _ => by cases h
  | m + 1, t, l, cs, hl, hlen, ht => by
    obtain ⟨n, y, ht⟩ := ht
    unfold leavesX at hl
    split at hl
    · rename_i k hu
      obtain rfl := Option.some.inj hl
      obtain ⟨x, hx, _, hw⟩ := DataW.trod_int hu ht
      subst hx
      exact ⟨⟨x, rfl, hw⟩, trivial⟩
    · rename_i hu
      obtain rfl := Option.some.inj hl
      obtain ⟨x, hx, _⟩ := DataW.trod_bool hu ht
      subst hx
      exact ⟨⟨x, rfl⟩, trivial⟩
    · split at hl
      · rename_i hc
        obtain rfl := Option.some.inj hl
        rw [hc] at hlen
        match cs, hlen with
        | [v], _ => exact ⟨⟨n, y, ht⟩, trivial⟩
      · cases hl
    · rename_i fs hu
      split at hl
      · cases hl
      · rename_i l1 h1
        split at hl
        · rename_i hc
          obtain rfl := Option.some.inj hl
          obtain ⟨xs, n', _, _, _, hxs, hfs⟩ := DataW.trod_struct hu ht
          have hf : ∀ f ∈ fs.toList, ∃ n y, DataW.trod enc P w base spare held n f.type ((cs.drop f.offset).take (P.cellsOf f.type)) = some y := by
            intro f hm
            obtain ⟨i, hi, rfl⟩ := List.mem_iff_getElem.1 hm
            have hi' : i < fs.size := by simpa using hi
            have := hfs i fs[i] (by simp [hi'])
            rw [List.getElem?_eq_getElem (by omega)] at this
            exact ⟨n', _, this⟩
          have := fieldsLx_tells (H := H) (enc := enc) (w := w) (base := base) (spare := spare) (held := held) (cs := cs) (fun t l cs' h1 h2 h3 => leavesX_tells m t l cs' h1 h2 h3) fs.toList 0 l1 h1 (by omega) hf
          simpa using this
        · cases hl
    · cases hl
/-- A row's value. -/
theorem row_form {t e : TypeId} {v : Value} (ht : P.underlying t = some (.slice e)) (h : IsRow enc P w base spare held t v) : ∃ A len cap, v = .slice A len cap := by
  obtain ⟨n, y, h⟩ := h
  rcases Go.Deep.open_slice ht h with ⟨h0, _⟩ | ⟨a, len', cap', m', n, D, Pl, hcs, _⟩
  · simp only [List.cons.injEq, and_true] at h0
    exact ⟨_, _, _, h0⟩
  · simp only [List.cons.injEq, and_true] at hcs
    exact ⟨_, _, _, hcs⟩
end
end Go.Proofs.Ytpgffmnbdggpnaa
