/- Arguments that are structs of numbers and bools: what their reading says of their cells. No program in sight: for every program. -/
import Derived.WalkKit
import Derived.ProofKit
import Derived.KernelRfl
namespace Go.Proofs.Ytoanhimhomgjmaa
open Go.ChangeShapes Go.WideShapes Go.ChangeAt Go.RowKit

/-- The leaves of a struct's cells: a whole number of a kind, or a bool. -/
def IsLv : List (Option IntKind) → List Value → Prop
  | [], [] => True
  | some k :: ls, v :: vs => (∃ n, v = .int k n ∧ (Lit.int k n).wf = true) ∧ IsLv ls vs
  | none :: ls, v :: vs => (∃ b, v = .bool b) ∧ IsLv ls vs
  | _, _ => False
theorem IsLv.append : ∀ {l1 l2 : List (Option IntKind)} {v1 v2 : List Value}, IsLv l1 v1 → IsLv l2 v2 → IsLv (l1 ++ l2) (v1 ++ v2)
  | [], _, [], _, _, h => h
  | some _ :: _, _, _ :: _, _, h1, h2 => ⟨h1.1, IsLv.append h1.2 h2⟩
  | none :: _, _, _ :: _, _, h1, h2 => ⟨h1.1, IsLv.append h1.2 h2⟩
theorem lv_int {k : IntKind} {ls : List (Option IntKind)} {cs : List Value} (h : IsLv (some k :: ls) cs) : ∃ n cs', cs = .int k n :: cs' ∧ (Lit.int k n).wf = true ∧ IsLv ls cs' := by
  cases cs with
  | nil => exact h.elim
  | cons v vs =>
    obtain ⟨⟨n, rfl, hw⟩, h⟩ := h
    exact ⟨n, vs, rfl, hw, h⟩
theorem lv_bool {ls : List (Option IntKind)} {cs : List Value} (h : IsLv (none :: ls) cs) : ∃ b cs', cs = .bool b :: cs' ∧ IsLv ls cs' := by
  cases cs with
  | nil => exact h.elim
  | cons v vs =>
    obtain ⟨⟨b, rfl⟩, h⟩ := h
    exact ⟨b, vs, rfl, h⟩
theorem lv_nil {cs : List Value} (h : IsLv [] cs) : cs = [] := by
  cases cs with
  | nil => rfl
  | cons v vs => exact h.elim
theorem IsLv.length : ∀ {ls : List (Option IntKind)} {cs : List Value}, IsLv ls cs → cs.length = ls.length
  | [], [], _ => rfl
  | some _ :: _, _ :: _, h => by simp [IsLv.length h.2]
  | none :: _, _ :: _, h => by simp [IsLv.length h.2]

def fieldsLv (P : Program) (g : TypeId → Option (List (Option IntKind))) : Nat → List Field → Option (List (Option IntKind))
  | _, [] => some []
  | o, f :: fs => match g f.type with
    | none => none
    | some l => if f.offset = o ∧ l.length = P.cellsOf f.type then (fieldsLv P g (o + l.length) fs).map (l ++ ·) else none
def leavesOf (P : Program) : Nat → TypeId → Option (List (Option IntKind))
  | 0, _ => none
  | n + 1, t => match P.underlying t with
    | some (.int k) => some [some k]
    | some .bool => some [none]
    | some (.struct fs) => match fieldsLv P (leavesOf P n) 0 fs.toList with
      | none => none
      | some l => if l.length = P.cellsOf t then some l else none
    | _ => none

section
variable {H : Type} {enc : TypeId × Value → H} {P : Program} {w : World} {base : Nat} {spare : Nat → Bool} {held : Bool}
theorem fieldsLv_tells {g : TypeId → Option (List (Option IntKind))} {cs : List Value}
    (hg : ∀ t l cs', g t = some l → cs'.length = P.cellsOf t → (∃ n y, DataW.trod enc P w base spare held n t cs' = some y) → IsLv l cs') :
    ∀ (fs : List Field) (o : Nat) (l : List (Option IntKind)), fieldsLv P g o fs = some l → cs.length = o + l.length →
    (∀ f ∈ fs, ∃ n y, DataW.trod enc P w base spare held n f.type ((cs.drop f.offset).take (P.cellsOf f.type)) = some y) → IsLv l (cs.drop o)
  | [], o, l, hl, hlen, _ => by
    obtain rfl := Option.some.inj hl
    simp at hlen
    rw [List.drop_eq_nil_of_le (by omega)]
    exact trivial
  | f :: fs, o, l, hl, hlen, hf => by
    unfold fieldsLv at hl
    split at hl
    · cases hl
    · rename_i l1 h1
      split at hl
      · rename_i hc
        obtain ⟨rfl, hc⟩ := hc
        obtain ⟨l2, h2, rfl⟩ := Option.map_eq_some_iff.1 hl
        simp at hlen
        have e : cs.drop f.offset = (cs.drop f.offset).take l1.length ++ cs.drop (f.offset + l1.length) := by
          rw [← List.drop_drop]; exact (List.take_append_drop _ _).symm
        rw [e]
        refine IsLv.append (hg f.type l1 _ h1 (by simp; omega) ?_) (fieldsLv_tells hg fs _ l2 h2 (by omega) fun f' hm => hf f' (List.mem_cons_of_mem _ hm))
        have := hf f (List.mem_cons_self ..)
        rwa [← hc] at this
      · cases hl
theorem leavesOf_tells : ∀ (m : Nat) (t : TypeId) (l : List (Option IntKind)) (cs : List Value), leavesOf P m t = some l → cs.length = P.cellsOf t → (∃ n y, DataW.trod enc P w base spare held n t cs = some y) → IsLv l cs
  | 0, _, _, _, h, _, _ => by cases h
  | m + 1, t, l, cs, hl, hlen, ht => by
    obtain ⟨n, y, ht⟩ := ht
    unfold leavesOf at hl
    split at hl
    · rename_i k hu
      obtain rfl := Option.some.inj hl
      obtain ⟨x, hx, _, hw⟩ := DataW.trod_int hu ht
      subst hx
      exact ⟨⟨x, rfl, hw⟩, trivial⟩
    · rename_i hu
      obtain rfl := Option.some.inj hl
      obtain ⟨x, hx, _⟩ := DataW.trod_bool hu ht
      subst hx
      exact ⟨⟨x, rfl⟩, trivial⟩
    · rename_i fs hu
      split at hl
      · cases hl
      · rename_i l1 h1
        split at hl
        · rename_i hc
          obtain rfl := Option.some.inj hl
          obtain ⟨xs, n', _, _, _, hxs, hfs⟩ := DataW.trod_struct hu ht
          have hf : ∀ f ∈ fs.toList, ∃ n y, DataW.trod enc P w base spare held n f.type ((cs.drop f.offset).take (P.cellsOf f.type)) = some y := by
            intro f hm
            obtain ⟨i, hi, rfl⟩ := List.mem_iff_getElem.1 hm
            have hi' : i < fs.size := by simpa using hi
            have := hfs i fs[i] (by simp [hi'])
            rw [List.getElem?_eq_getElem (by omega)] at this
            exact ⟨n', _, this⟩
          have := fieldsLv_tells (H := H) (enc := enc) (w := w) (base := base) (spare := spare) (held := held) (cs := cs) (fun t l cs' h1 h2 h3 => leavesOf_tells m t l cs' h1 h2 h3) fs.toList 0 l1 h1 (by omega) hf
          simpa using this
        · cases hl
    · cases hl
end
end Go.Proofs.Ytoanhimhomgjmaa
