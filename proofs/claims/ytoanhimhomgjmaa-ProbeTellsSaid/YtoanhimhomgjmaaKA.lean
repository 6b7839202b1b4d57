/- Several texts of this claim in one: DERIVED: THE SHELF's CONTRACTS AT THIS DUMP, IN PLAIN WORDS (tools/lay-plain.mjs out of 'TryShelf.lean', which tools/lay-shelf.mjs wrote): THE SAME DECLARATIONS UNDER THE SAME NAMES: 'import', 'namespace', 'open', 'def', 'theorem' AND NOTHING ELSE: no command of the shelf's: FOR A HAND-IN. Each laying: the table of numbers ('.._ren') and one theorem, a field a fact of the dump's own or the kernel's comparison; each contract: ONE APPLICATION. PPrNx0 Arguments that are structs of numbers and bools: what their reading says of their cells. No program in sight: for every program. A row's struct out of its leaves. Rows of structs of numbers and bools: what their reading says of their cells. No program in sight: for every program. Arguments that are structs of numbers, bools and rows: what their reading says of their cells. No program in sight: for every program. -/
import Derived.Shelf.Small.Bits
import Derived.Shelf.Strconv.Itoa0
import Derived.Shelf.Bits.Mul64
import Derived.Test.YtoanhimhomgjmaaProg
import Derived.Below
import Derived.Deep.Draws
import Derived.Deep.AppendLies
import Derived.Maps.AppendAt
import Derived.OwnWalk
import Derived.Laws.BytesArg
import Derived.Laws.MakeOwn
import Derived.Laws.OwnMore
import Derived.Deep.OwnRows
import Derived.Tactics
import Derived.Lib.ConvBytes
import Derived.Laws.Slices
import Derived.WalkKit
import Derived.KernelRfl
import Derived.RowKit3
import Derived.Deep.LoopGhost
import Derived.Deep.QuietTactic
import Derived.BigQuiet
import Derived.WideLaws
import Derived.Deep.DeepCutAuto
import Derived.Deep.CutBlock
import Derived.Deep.RegionHeld3
import Derived.Laws.Rows
import Derived.Lib.AppendStr
import Derived.ArgAppend
import Derived.Laws.IdiomCopy
import Derived.OrdersHeld
import Derived.Laws.BitsLemmas
import Derived.RowKit
import Derived.Outline
import Derived.Deep.RegionWith
import Derived.Lib.Hide
import Derived.Lib.ItoaNum
import Derived.Laws.BitsAllLaws
import Derived.Laws.Externs
import Derived.Test.YtoanhimhomgjmaaKW
import Derived.ProofKit
import Derived.Deep.Slices
section
namespace Go.Proofs
open Go.Shelf
def Try.lays134_ren : Go.Shelf.Ren := ⟨fun | 134 => 49 | 129 => 50 | n => n, fun | 53 => 24 | 3 => 3 | 4 => 4 | 46 => 66 | 5 => 5 | 9 => 9 | n => n, fun | n => n⟩
theorem Try.lays134 : Go.Proofs.Lays.n134 Try.prog Try.lays134_ren := {
  mixed := by kernel_rfl
  f129 := Try.func50.trans (congrArg some (by kernel_rfl))
  f134 := Try.func49.trans (congrArg some (by kernel_rfl))
  t3 := Try.underlying3
  a3 := Try.isAgg3
  z3 := Try.sizeOf3
  v3 := Try.zeroValue3
  t4 := Try.underlying4
  a4 := Try.isAgg4
  z4 := Try.sizeOf4
  v4 := Try.zeroValue4
  t5 := Try.underlying5
  a5 := Try.isAgg5
  z5 := Try.sizeOf5
  v5 := Try.zeroValue5
  t9 := Try.underlying9
  a9 := Try.isAgg9
  z9 := Try.sizeOf9
  v9 := Try.zeroValue9
  t46 := Try.underlying66
  a46 := Try.isAgg66
  z46 := Try.sizeOf66
  v46 := Try.zeroValue66
  t53 := Try.underlying24
  a53 := Try.isAgg24
  z53 := Try.sizeOf24
  v53 := Try.zeroValue24 }
theorem Try.bits_LeadingZeros64 (x : Int) (w : World) (h0 : 0 ≤ x) (h1 : x ≤ 18446744073709551615) :
    Calls Try.prog 49 #[.int .u64 x] w fun e w' => e = .returned (.int .i64 (64 - (Lib.bitLen x.toNat : Int))) ∧ w' = w := Any.bits_LeadingZeros64 Try.lays134 x w h0 h1
def Try.lays264_ren : Go.Shelf.Ren := ⟨fun | 264 => 46 | n => n, fun | 53 => 24 | 46 => 66 | n => n, fun | n => n⟩
theorem Try.lays264 : Go.Proofs.Lays.n264 Try.prog Try.lays264_ren := {
  mixed := by kernel_rfl
  f264 := Try.func46.trans (congrArg some (by kernel_rfl))
  t46 := Try.underlying66
  a46 := Try.isAgg66
  z46 := Try.sizeOf66
  v46 := Try.zeroValue66
  t53 := Try.underlying24
  a53 := Try.isAgg24
  z53 := Try.sizeOf24
  v53 := Try.zeroValue24 }
open Go.RowKit Go.Lib in
theorem Try.bits_Mul64 (x y : Nat) (hx : x < 18446744073709551616) (hy : y < 18446744073709551616) (w : World) :
    Calls Try.prog 46 #[.int .u64 x, .int .u64 y] w fun e w' => e = .returned (.tuple #[.int .u64 ((x * y / 18446744073709551616 : Nat) : Int), .int .u64 ((x * y % 18446744073709551616 : Nat) : Int)]) ∧ w' = w := Any.bits_Mul64 Try.lays264 x y hx hy w
end Go.Proofs
end
section
namespace Go.Proofs.Ytoanhimhomgjmaa.PPrN
open Go.RowKit Go.Proofs.YtoanhimhomgjmaaW.PrintWords Go.Proofs.YtoanhimhomgjmaaW.PrintLast Go.Proofs.YtoanhimhomgjmaaW.PrintMore
attribute [local go_sem] max2_int min2_int max_two min_two max_three min_three max_four min_four   -- for this text's walks alone
set_option linter.unusedVariables false
set_option linter.unusedSimpArgs false
def errW : Option Int → Value
  | none => .nilIface
  | some c => .iface 0 (.int .i64 c)
theorem errW_none : errW none = .nilIface := rfl
theorem errW_some (c : Int) : errW (some c) = .iface 0 (.int .i64 c) := rfl
theorem info52 : (Try.prog.info? 52).map (fun i => (i.zero, i.size, i.bytes)) = some (some (.agg #[(.int .u64 0), (.int .u64 0)]), 2, 16) := by kernel_rfl
structure S52 where
  f0 : Int
  f1 : Int
def z52 : S52 := ⟨(0 : Int), (0 : Int)⟩
def k52 : Kd S52 := Kd.iso (Kd.pair (Kd.int .u64) (Kd.int .u64)) (fun x : S52 => (x.f0, x.f1))
theorem k52_open {w : World} {x : S52} {cs : List Value} (h : k52.K w x cs) : cs = [.int .u64 x.f0, .int .u64 x.f1] := by
  obtain ⟨_, _, rfl, rfl, rfl⟩ := h
  exact rfl
theorem k52_mk (w : World) (x : S52)  : k52.K w x [.int .u64 x.f0, .int .u64 x.f1] := ⟨[.int .u64 x.f0], [.int .u64 x.f1], rfl, rfl, rfl⟩
theorem k52_mkM (w : World) (base : Nat) (ok : Nat → Prop) (x : S52)  : k52.M w base ok x [.int .u64 x.f0, .int .u64 x.f1] := ⟨[.int .u64 x.f0], [.int .u64 x.f1], rfl, rfl, rfl⟩
def rd_T52 (xs : List S52) (i : Int) : S52 := xs.getD i.toNat z52
theorem at_T52 {w : World} {A : Option Addr} {n : Nat} {xs : List S52} (h : Kd.C k52 w A n xs) (i : Int) (h0 : 0 ≤ i) (h1 : i < n) : ∃ ad , A = some ad ∧ w.cell? (ad.add (i.toNat * 2)) = some (.int .u64 (rd_T52 xs i).f0) ∧ w.cell? ⟨(ad.add (i.toNat * 2)).block, (ad.add (i.toNat * 2)).off + 1, none⟩ = some (.int .u64 (rd_T52 xs i).f1) := by
  obtain ⟨ad, c, e, _, hK, hc0⟩ := Kd.C_get h z52 i h0 h1
  have hc : ∀ j u, c[j]? = some u → w.cell? (ad.add (i.toNat * 2 + j)) = some u := hc0
  obtain rfl := k52_open hK
  exact ⟨ad, e, hc 0 _ rfl, by rw [← add_field _ _ 1 (by omega)]; exact hc 1 _ rfl⟩
end Go.Proofs.Ytoanhimhomgjmaa.PPrN
end
section
namespace Go.Proofs.Ytoanhimhomgjmaa
open Go.ChangeShapes Go.WideShapes Go.ChangeAt Go.RowKit
def IsLv : List (Option IntKind) → List Value → Prop
  | [], [] => True
  | some k :: ls, v :: vs => (∃ n, v = .int k n ∧ (Lit.int k n).wf = true) ∧ IsLv ls vs
  | none :: ls, v :: vs => (∃ b, v = .bool b) ∧ IsLv ls vs
  | _, _ => False
theorem IsLv.append : ∀ {l1 l2 : List (Option IntKind)} {v1 v2 : List Value}, IsLv l1 v1 → IsLv l2 v2 → IsLv (l1 ++ l2) (v1 ++ v2)
  | [], _, [], _, _, h => h
  | some _ :: _, _, _ :: _, _, h1, h2 => ⟨h1.1, IsLv.append h1.2 h2⟩
  | none :: _, _, _ :: _, _, h1, h2 => ⟨h1.1, IsLv.append h1.2 h2⟩
theorem lv_int {k : IntKind} {ls : List (Option IntKind)} {cs : List Value} (h : IsLv (some k :: ls) cs) : ∃ n cs', cs = .int k n :: cs' ∧ (Lit.int k n).wf = true ∧ IsLv ls cs' := by
  cases cs with
  | nil => exact h.elim
  | cons v vs =>
    obtain ⟨⟨n, rfl, hw⟩, h⟩ := h
    exact ⟨n, vs, rfl, hw, h⟩
theorem lv_bool {ls : List (Option IntKind)} {cs : List Value} (h : IsLv (none :: ls) cs) : ∃ b cs', cs = .bool b :: cs' ∧ IsLv ls cs' := by
  cases cs with
  | nil => exact h.elim
  | cons v vs =>
    obtain ⟨⟨b, rfl⟩, h⟩ := h
    exact ⟨b, vs, rfl, h⟩
theorem lv_nil {cs : List Value} (h : IsLv [] cs) : cs = [] := by
  cases cs with
  | nil => rfl
  | cons v vs => exact h.elim
theorem IsLv.length : ∀ {ls : List (Option IntKind)} {cs : List Value}, IsLv ls cs → cs.length = ls.length
  | [], [], _ => rfl
  | some _ :: _, _ :: _, h => by simp [IsLv.length h.2]
  | none :: _, _ :: _, h => by simp [IsLv.length h.2]
def fieldsLv (P : Program) (g : TypeId → Option (List (Option IntKind))) : Nat → List Field → Option (List (Option IntKind))
  | _, [] => some []
  | o, f :: fs => match g f.type with
    | none => none
    | some l => if f.offset = o ∧ l.length = P.cellsOf f.type then (fieldsLv P g (o + l.length) fs).map (l ++ ·) else none
def leavesOf (P : Program) : Nat → TypeId → Option (List (Option IntKind))
  | 0, _ => none
  | n + 1, t => match P.underlying t with
    | some (.int k) => some [some k]
    | some .bool => some [none]
    | some (.struct fs) => match fieldsLv P (leavesOf P n) 0 fs.toList with
      | none => none
      | some l => if l.length = P.cellsOf t then some l else none
    | _ => none
section
variable {H : Type} {enc : TypeId × Value → H} {P : Program} {w : World} {base : Nat} {spare : Nat → Bool} {held : Bool}
theorem fieldsLv_tells {g : TypeId → Option (List (Option IntKind))} {cs : List Value}
    (hg : ∀ t l cs', g t = some l → cs'.length = P.cellsOf t → (∃ n y, DataW.trod enc P w base spare held n t cs' = some y) → IsLv l cs') :
    ∀ (fs : List Field) (o : Nat) (l : List (Option IntKind)), fieldsLv P g o fs = some l → cs.length = o + l.length →
    (∀ f ∈ fs, ∃ n y, DataW.trod enc P w base spare held n f.type ((cs.drop f.offset).take (P.cellsOf f.type)) = some y) → IsLv l (cs.drop o)
  | [], o, l, hl, hlen, _ => by
    obtain rfl := Option.some.inj hl
    simp at hlen
    rw [List.drop_eq_nil_of_le (by omega)]
    exact trivial
  | f :: fs, o, l, hl, hlen, hf => by
    unfold fieldsLv at hl
    split at hl
    · cases hl
    · rename_i l1 h1
      split at hl
      · rename_i hc
        obtain ⟨rfl, hc⟩ := hc
        obtain ⟨l2, h2, rfl⟩ := Option.map_eq_some_iff.1 hl
        simp at hlen
        have e : cs.drop f.offset = (cs.drop f.offset).take l1.length ++ cs.drop (f.offset + l1.length) := by
          rw [← List.drop_drop]; exact (List.take_append_drop _ _).symm
        rw [e]
        refine IsLv.append (hg f.type l1 _ h1 (by simp; omega) ?_) (fieldsLv_tells hg fs _ l2 h2 (by omega) fun f' hm => hf f' (List.mem_cons_of_mem _ hm))
        have := hf f (List.mem_cons_self ..)
        rwa [← hc] at this
      · cases hl
theorem leavesOf_tells : ∀ (m : Nat) (t : TypeId) (l : List (Option IntKind)) (cs : List Value), leavesOf P m t = some l → cs.length = P.cellsOf t → (∃ n y, DataW.trod enc P w base spare held n t cs = some y) → IsLv l cs
  | 0, _, _, _, h, _, _ => by cases h
  | m + 1, t, l, cs, hl, hlen, ht => by
    obtain ⟨n, y, ht⟩ := ht
    unfold leavesOf at hl
    split at hl
    · rename_i k hu
      obtain rfl := Option.some.inj hl
      obtain ⟨x, hx, _, hw⟩ := DataW.trod_int hu ht
      subst hx
      exact ⟨⟨x, rfl, hw⟩, trivial⟩
    · rename_i hu
      obtain rfl := Option.some.inj hl
      obtain ⟨x, hx, _⟩ := DataW.trod_bool hu ht
      subst hx
      exact ⟨⟨x, rfl⟩, trivial⟩
    · rename_i fs hu
      split at hl
      · cases hl
      · rename_i l1 h1
        split at hl
        · rename_i hc
          obtain rfl := Option.some.inj hl
          obtain ⟨xs, n', _, _, _, hxs, hfs⟩ := DataW.trod_struct hu ht
          have hf : ∀ f ∈ fs.toList, ∃ n y, DataW.trod enc P w base spare held n f.type ((cs.drop f.offset).take (P.cellsOf f.type)) = some y := by
            intro f hm
            obtain ⟨i, hi, rfl⟩ := List.mem_iff_getElem.1 hm
            have hi' : i < fs.size := by simpa using hi
            have := hfs i fs[i] (by simp [hi'])
            rw [List.getElem?_eq_getElem (by omega)] at this
            exact ⟨n', _, this⟩
          have := fieldsLv_tells (H := H) (enc := enc) (w := w) (base := base) (spare := spare) (held := held) (cs := cs) (fun t l cs' h1 h2 h3 => leavesOf_tells m t l cs' h1 h2 h3) fs.toList 0 l1 h1 (by omega) hf
          simpa using this
        · cases hl
    · cases hl
end
end Go.Proofs.Ytoanhimhomgjmaa
end
section
namespace Go.Proofs.Ytoanhimhomgjmaa.PPrN
open Go.RowKit Go.Proofs.YtoanhimhomgjmaaW.PrintWords
instance : Inhabited S52 := ⟨z52⟩
def WfS52 (x : S52) : Prop := (Lit.int .u64 x.f0).wf = true ∧ (Lit.int .u64 x.f1).wf = true
theorem dec52 (w : World) (cs : List Value) (lv : IsLv [some .u64, some .u64] cs) : ∃ y : S52, k52.K w y cs ∧ WfS52 y := by
  obtain ⟨a0, l0, rfl, w0, lv0⟩ := lv_int lv
  obtain ⟨a1, l1, rfl, w1, lv1⟩ := lv_int lv0
  have e_ := lv_nil lv1
  subst e_
  exact ⟨⟨a0, a1⟩, k52_mk w ⟨a0, a1⟩, w0, w1⟩
end Go.Proofs.Ytoanhimhomgjmaa.PPrN
end
section
namespace Go.Proofs.Ytoanhimhomgjmaa
open Go.ChangeShapes Go.WideShapes Go.ChangeAt Go.RowKit Go.Proofs.YtoanhimhomgjmaaW.PrintWords
theorem open_structs {H : Type} {enc : TypeId × Value → H} {P : Program} {w : World} {base : Nat} {spare : Nat → Bool} {held : Bool} {α : Type} [Inhabited α] {d : Kd α} {Wf : α → Prop} {ls : List (Option IntKind)} {t e : TypeId} {m fuel : Nat} {A : Option Addr} {len cap : Nat} {x : DataW H × List MemPlace}
    (hdec : ∀ cs, IsLv ls cs → ∃ y, d.K w y cs ∧ Wf y) (ht : P.underlying t = some (.slice e)) (hl : leavesOf P m e = some ls) (hs : d.sz = P.cellsOf e)
    (h : DataW.trod enc P w base spare held fuel t [.slice A len cap] = some x) : ∃ ys : List α, ys.length = len ∧ len ≤ cap ∧ d.C w A len ys ∧ ∀ y ∈ ys, Wf y := by
  rcases Go.Deep.open_slice ht h with ⟨h0, _⟩ | ⟨a, len', cap', m', n, D, Pl, hcs, _, hle, hmx, hm, _, hx⟩
  · simp only [List.cons.injEq, Value.slice.injEq, and_true] at h0
    obtain ⟨rfl, rfl, rfl⟩ := h0
    exact ⟨[], rfl, Nat.le_refl _, Kd.C_nil d w, by simp⟩
  · simp only [List.cons.injEq, Value.slice.injEq, and_true] at hcs
    obtain ⟨rfl, rfl, rfl⟩ := hcs
    have hlm : len ≤ m' := by rw [hm]; split <;> omega
    have each : ∀ i, i < len → ∃ y, (∃ cs, d.K w y cs ∧ ∀ j u, cs[j]? = some u → w.cell? (a.add (i * d.sz + j)) = some u) ∧ Wf y := by
      intro i hi
      obtain ⟨cs', h1, h2⟩ := hx i (by omega)
      obtain ⟨_, hlen, hcell⟩ := World.cells?_some h1
      obtain ⟨y, hK, hW⟩ := hdec cs' (leavesOf_tells m e ls cs' hl hlen ⟨_, _, h2⟩)
      refine ⟨y, ⟨cs', hK, fun j u hu => ?_⟩, hW⟩
      have hj : j < P.cellsOf e := by
        have := (List.getElem?_eq_some_iff.1 hu).1
        omega
      rw [hs, ← Go.Deep.add_add, hcell j hj, hu]
    obtain ⟨Y, hY⟩ := Go.Deep.choose_lt each
    have hmax : cap ≤ 9223372036854775807 := hmx
    refine ⟨(List.range len).map Y, by simp, hle, ⟨by simp, by omega, fun _ => ⟨a, rfl, fun j p hp => ?_⟩⟩, fun y hy => ?_⟩
    · obtain ⟨h1, h2⟩ := List.getElem?_eq_some_iff.1 hp
      have hj : j < len := by simpa using h1
      have e : p = Y j := by rw [← h2]; simp
      subst e
      obtain ⟨⟨cs, hK, hcell⟩, _⟩ := hY j hj
      exact ⟨cs, d.K_len hK, hK, hcell⟩
    · obtain ⟨i, hi, rfl⟩ := List.mem_map.1 hy
      exact (hY i (List.mem_range.1 hi)).2
end Go.Proofs.Ytoanhimhomgjmaa
end
section
namespace Go.Proofs.Ytoanhimhomgjmaa
open Go.ChangeShapes Go.WideShapes Go.ChangeAt Go.RowKit
inductive Leaf where
  | num (k : IntKind)
  | truth
  | row (t : TypeId)
section
variable {H : Type} {enc : TypeId × Value → H} {P : Program} {w : World} {base : Nat} {spare : Nat → Bool} {held : Bool}
def IsRow (enc : TypeId × Value → H) (P : Program) (w : World) (base : Nat) (spare : Nat → Bool) (held : Bool) (t : TypeId) (v : Value) : Prop := ∃ n y, DataW.trod enc P w base spare held n t [v] = some y
def IsLx (R : TypeId → Value → Prop) : List Leaf → List Value → Prop
  | [], [] => True
  | .num k :: ls, v :: vs => (∃ n, v = .int k n ∧ (Lit.int k n).wf = true) ∧ IsLx R ls vs
  | .truth :: ls, v :: vs => (∃ b, v = .bool b) ∧ IsLx R ls vs
  | .row t :: ls, v :: vs => R t v ∧ IsLx R ls vs
  | _, _ => False
theorem IsLx.append {R : TypeId → Value → Prop} : ∀ {l1 l2 : List Leaf} {v1 v2 : List Value}, IsLx R l1 v1 → IsLx R l2 v2 → IsLx R (l1 ++ l2) (v1 ++ v2)
  | [], _, [], _, _, h => h
  | .num _ :: _, _, _ :: _, _, h1, h2 => ⟨h1.1, IsLx.append h1.2 h2⟩
  | .truth :: _, _, _ :: _, _, h1, h2 => ⟨h1.1, IsLx.append h1.2 h2⟩
  | .row _ :: _, _, _ :: _, _, h1, h2 => ⟨h1.1, IsLx.append h1.2 h2⟩
theorem lx_int {R : TypeId → Value → Prop} {k : IntKind} {ls : List Leaf} {cs : List Value} (h : IsLx R (.num k :: ls) cs) : ∃ n cs', cs = .int k n :: cs' ∧ (Lit.int k n).wf = true ∧ IsLx R ls cs' := by
  cases cs with
  | nil => exact h.elim
  | cons v vs =>
    obtain ⟨⟨n, rfl, hw⟩, h⟩ := h
    exact ⟨n, vs, rfl, hw, h⟩
theorem lx_row {R : TypeId → Value → Prop} {t : TypeId} {ls : List Leaf} {cs : List Value} (h : IsLx R (.row t :: ls) cs) : ∃ v cs', cs = v :: cs' ∧ R t v ∧ IsLx R ls cs' := by
  cases cs with
  | nil => exact h.elim
  | cons v vs => exact ⟨v, vs, rfl, h.1, h.2⟩
theorem lx_nil {R : TypeId → Value → Prop} {cs : List Value} (h : IsLx R [] cs) : cs = [] := by
  cases cs with
  | nil => rfl
  | cons v vs => exact h.elim
def fieldsLx (P : Program) (g : TypeId → Option (List Leaf)) : Nat → List Field → Option (List Leaf)
  | _, [] => some []
  | o, f :: fs => match g f.type with
    | none => none
    | some l => if f.offset = o ∧ l.length = P.cellsOf f.type then (fieldsLx P g (o + l.length) fs).map (l ++ ·) else none
def leavesX (P : Program) : Nat → TypeId → Option (List Leaf)
  | 0, _ => none
  | n + 1, t => match P.underlying t with
    | some (.int k) => some [.num k]
    | some .bool => some [.truth]
    | some (.slice _) => if P.cellsOf t = 1 then some [.row t] else none
    | some (.struct fs) => match fieldsLx P (leavesX P n) 0 fs.toList with
      | none => none
      | some l => if l.length = P.cellsOf t then some l else none
    | _ => none
theorem fieldsLx_tells {g : TypeId → Option (List Leaf)} {cs : List Value}
    (hg : ∀ t l cs', g t = some l → cs'.length = P.cellsOf t → (∃ n y, DataW.trod enc P w base spare held n t cs' = some y) → IsLx (IsRow enc P w base spare held) l cs') :
    ∀ (fs : List Field) (o : Nat) (l : List Leaf), fieldsLx P g o fs = some l → cs.length = o + l.length →
    (∀ f ∈ fs, ∃ n y, DataW.trod enc P w base spare held n f.type ((cs.drop f.offset).take (P.cellsOf f.type)) = some y) → IsLx (IsRow enc P w base spare held) l (cs.drop o)
  | [], o, l, hl, hlen, _ => by
    obtain rfl := Option.some.inj hl
    simp at hlen
    rw [List.drop_eq_nil_of_le (by omega)]
    exact trivial
  | f :: fs, o, l, hl, hlen, hf => by
    unfold fieldsLx at hl
    split at hl
    · cases hl
    · rename_i l1 h1
      split at hl
      · rename_i hc
        obtain ⟨rfl, hc⟩ := hc
        obtain ⟨l2, h2, rfl⟩ := Option.map_eq_some_iff.1 hl
        simp at hlen
        have e : cs.drop f.offset = (cs.drop f.offset).take l1.length ++ cs.drop (f.offset + l1.length) := by
          rw [← List.drop_drop]; exact (List.take_append_drop _ _).symm
        rw [e]
        refine IsLx.append (hg f.type l1 _ h1 (by simp; omega) ?_) (fieldsLx_tells hg fs _ l2 h2 (by omega) fun f' hm => hf f' (List.mem_cons_of_mem _ hm))
        have := hf f (List.mem_cons_self ..)
        rwa [← hc] at this
      · cases hl
theorem leavesX_tells : ∀ (m : Nat) (t : TypeId) (l : List Leaf) (cs : List Value), leavesX P m t = some l → cs.length = P.cellsOf t → (∃ n y, DataW.trod enc P w base spare held n t cs = some y) → IsLx (IsRow enc P w base spare held) l cs
  | 0, _, _, _, h, _, _ => by cases h
  | m + 1, t, l, cs, hl, hlen, ht => by
    obtain ⟨n, y, ht⟩ := ht
    unfold leavesX at hl
    split at hl
    · rename_i k hu
      obtain rfl := Option.some.inj hl
      obtain ⟨x, hx, _, hw⟩ := DataW.trod_int hu ht
      subst hx
      exact ⟨⟨x, rfl, hw⟩, trivial⟩
    · rename_i hu
      obtain rfl := Option.some.inj hl
      obtain ⟨x, hx, _⟩ := DataW.trod_bool hu ht
      subst hx
      exact ⟨⟨x, rfl⟩, trivial⟩
    · split at hl
      · rename_i hc
        obtain rfl := Option.some.inj hl
        rw [hc] at hlen
        match cs, hlen with
        | [v], _ => exact ⟨⟨n, y, ht⟩, trivial⟩
      · cases hl
    · rename_i fs hu
      split at hl
      · cases hl
      · rename_i l1 h1
        split at hl
        · rename_i hc
          obtain rfl := Option.some.inj hl
          obtain ⟨xs, n', _, _, _, hxs, hfs⟩ := DataW.trod_struct hu ht
          have hf : ∀ f ∈ fs.toList, ∃ n y, DataW.trod enc P w base spare held n f.type ((cs.drop f.offset).take (P.cellsOf f.type)) = some y := by
            intro f hm
            obtain ⟨i, hi, rfl⟩ := List.mem_iff_getElem.1 hm
            have hi' : i < fs.size := by simpa using hi
            have := hfs i fs[i] (by simp [hi'])
            rw [List.getElem?_eq_getElem (by omega)] at this
            exact ⟨n', _, this⟩
          have := fieldsLx_tells (H := H) (enc := enc) (w := w) (base := base) (spare := spare) (held := held) (cs := cs) (fun t l cs' h1 h2 h3 => leavesX_tells m t l cs' h1 h2 h3) fs.toList 0 l1 h1 (by omega) hf
          simpa using this
        · cases hl
    · cases hl
theorem row_form {t e : TypeId} {v : Value} (ht : P.underlying t = some (.slice e)) (h : IsRow enc P w base spare held t v) : ∃ A len cap, v = .slice A len cap := by
  obtain ⟨n, y, h⟩ := h
  rcases Go.Deep.open_slice ht h with ⟨h0, _⟩ | ⟨a, len', cap', m', n, D, Pl, hcs, _⟩
  · simp only [List.cons.injEq, and_true] at h0
    exact ⟨_, _, _, h0⟩
  · simp only [List.cons.injEq, and_true] at hcs
    exact ⟨_, _, _, hcs⟩
end
end Go.Proofs.Ytoanhimhomgjmaa
end
