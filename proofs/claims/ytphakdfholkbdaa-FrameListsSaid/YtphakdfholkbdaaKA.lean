/- Several texts of this claim in one: PFrax0 Arguments that are structs of numbers and bools: what their reading says of their cells. No program in sight: for every program. A row's struct out of its leaves. Arguments that are structs of numbers, bools and rows: what their reading says of their cells. No program in sight: for every program. Rows of structs of numbers and bools: what their reading says of their cells. No program in sight: for every program. -/
import Derived.Test.YtphakdfholkbdaaProg
import Derived.Below
import Derived.Deep.Draws
import Derived.Deep.AppendLies
import Derived.Maps.AppendAt
import Derived.OwnWalk
import Derived.Laws.BytesArg
import Derived.Laws.MakeOwn
import Derived.Laws.OwnMore
import Derived.Deep.OwnRows
import Derived.Tactics
import Derived.Lib.ConvBytes
import Derived.Laws.Slices
import Derived.WalkKit
import Derived.KernelRfl
import Derived.RowKit3
import Derived.Deep.LoopGhost
import Derived.Deep.QuietTactic
import Derived.BigQuiet
import Derived.WideLaws
import Derived.Deep.DeepCutAuto
import Derived.Deep.CutBlock
import Derived.Deep.RegionHeld3
import Derived.Laws.Rows
import Derived.Lib.AppendStr
import Derived.ArgAppend
import Derived.Laws.IdiomCopy
import Derived.OrdersHeld
import Derived.Laws.BitsLemmas
import Derived.RowKit
import Derived.Outline
import Derived.Deep.RegionWith
import Derived.Lib.Hide
import Derived.LoopN
import Derived.Handy
import Derived.Laws.BitsAllLaws
import Derived.Test.YtphakdfholkbdaaKW
import Derived.ProofKit
import Derived.Deep.Slices
section
namespace Go.Proofs.Ytphakdfholkbdaa.PFra
open Go.RowKit Go.Proofs.YtphakdfholkbdaaW.PrintWords Go.Proofs.YtphakdfholkbdaaW.PrintLast Go.Proofs.YtphakdfholkbdaaW.PrintMore
attribute [local go_sem] max2_int min2_int max_two min_two max_three min_three max_four min_four   -- for this text's walks alone
set_option linter.unusedVariables false
set_option linter.unusedSimpArgs false
def errW : Option Int → Value
  | none => .nilIface
  | some c => .iface 0 (.int .i64 c)
theorem errW_none : errW none = .nilIface := rfl
theorem errW_some (c : Int) : errW (some c) = .iface 0 (.int .i64 c) := rfl
theorem info5 : (Try.prog.info? 5).map (fun i => (i.zero, i.size, i.bytes)) = some (some (.int .u8 0), 1, 1) := by kernel_rfl
theorem info27 : (Try.prog.info? 27).map (fun i => (i.zero, i.size, i.bytes)) = some (some (.agg #[(.int .i64 0), (.int .u64 0), (.int .u64 0), (.int .u64 0), (.int .u64 0), (.int .u64 0), (.int .u64 0), (.bool false), (.slice none 0 0), (.slice none 0 0)]), 10, 112) := by kernel_rfl
theorem info47 : (Try.prog.info? 47).map (fun i => (i.zero, i.size, i.bytes)) = some (some (.agg #[(.int .u64 0), (.int .u64 0)]), 2, 16) := by kernel_rfl
structure S47 where
  f0 : Int
  f1 : Int
def z47 : S47 := ⟨(0 : Int), (0 : Int)⟩
def k47 : Kd S47 := Kd.iso (Kd.pair (Kd.int .u64) (Kd.int .u64)) (fun x : S47 => (x.f0, x.f1))
theorem k47_open {w : World} {x : S47} {cs : List Value} (h : k47.K w x cs) : cs = [.int .u64 x.f0, .int .u64 x.f1] := by
  obtain ⟨_, _, rfl, rfl, rfl⟩ := h
  exact rfl
theorem k47_openM {w : World} {base : Nat} {ok : Nat → Prop} {x : S47} {cs : List Value} (h : k47.M w base ok x cs) : cs = [.int .u64 x.f0, .int .u64 x.f1] := by
  obtain ⟨_, _, rfl, rfl, rfl⟩ := h
  exact rfl
theorem k47_mk (w : World) (x : S47)  : k47.K w x [.int .u64 x.f0, .int .u64 x.f1] := ⟨[.int .u64 x.f0], [.int .u64 x.f1], rfl, rfl, rfl⟩
theorem k47_mkM (w : World) (base : Nat) (ok : Nat → Prop) (x : S47)  : k47.M w base ok x [.int .u64 x.f0, .int .u64 x.f1] := ⟨[.int .u64 x.f0], [.int .u64 x.f1], rfl, rfl, rfl⟩
def rd_T47 (xs : List S47) (i : Int) : S47 := xs.getD i.toNat z47
theorem at_T47 {w : World} {A : Option Addr} {n : Nat} {xs : List S47} (h : Kd.C k47 w A n xs) (i : Int) (h0 : 0 ≤ i) (h1 : i < n) : ∃ ad , A = some ad ∧ w.cell? (ad.add (i.toNat * 2)) = some (.int .u64 (rd_T47 xs i).f0) ∧ w.cell? ⟨(ad.add (i.toNat * 2)).block, (ad.add (i.toNat * 2)).off + 1, none⟩ = some (.int .u64 (rd_T47 xs i).f1) := by
  obtain ⟨ad, c, e, _, hK, hc0⟩ := Kd.C_get h z47 i h0 h1
  have hc : ∀ j u, c[j]? = some u → w.cell? (ad.add (i.toNat * 2 + j)) = some u := hc0
  obtain rfl := k47_open hK
  exact ⟨ad, e, hc 0 _ rfl, by rw [← add_field _ _ 1 (by omega)]; exact hc 1 _ rfl⟩
structure S27 where
  f0 : Int
  f1 : Int
  f2 : Int
  f3 : Int
  f4 : Int
  f5 : Int
  f6 : Int
  f7 : Bool
  f8 : (List Int)
  f9 : (List S47)
def z27 : S27 := ⟨(0 : Int), (0 : Int), (0 : Int), (0 : Int), (0 : Int), (0 : Int), (0 : Int), false, ([] : List Int), ([] : List S47)⟩
def k27 : Kd S27 := Kd.iso (Kd.pair (Kd.int .i64) (Kd.pair (Kd.int .u64) (Kd.pair (Kd.int .u64) (Kd.pair (Kd.int .u64) (Kd.pair (Kd.int .u64) (Kd.pair (Kd.int .u64) (Kd.pair (Kd.int .u64) (Kd.pair Kd.bool (Kd.pair (Kd.slice 5 (Kd.int .u8)) (Kd.slice 47 k47)))))))))) (fun x : S27 => (x.f0, x.f1, x.f2, x.f3, x.f4, x.f5, x.f6, x.f7, x.f8, x.f9))
theorem k27_open {w : World} {x : S27} {cs : List Value} (h : k27.K w x cs) : ∃ A8 c8 A9 c9, cs = [.int .i64 x.f0, .int .u64 x.f1, .int .u64 x.f2, .int .u64 x.f3, .int .u64 x.f4, .int .u64 x.f5, .int .u64 x.f6, .bool x.f7, .slice A8 x.f8.length c8, .slice A9 x.f9.length c9] ∧ x.f8.length ≤ c8 ∧ (Kd.int .u8).C w A8 x.f8.length x.f8 ∧ x.f9.length ≤ c9 ∧ k47.C w A9 x.f9.length x.f9 := by
  obtain ⟨_, _, rfl, rfl, ⟨_, _, rfl, rfl, ⟨_, _, rfl, rfl, ⟨_, _, rfl, rfl, ⟨_, _, rfl, rfl, ⟨_, _, rfl, rfl, ⟨_, _, rfl, rfl, ⟨_, _, rfl, rfl, ⟨_, _, rfl, ⟨A8, c8, rfl, l8, g8⟩, ⟨A9, c9, rfl, l9, g9⟩⟩⟩⟩⟩⟩⟩⟩⟩⟩ := h
  exact ⟨A8, c8, A9, c9, rfl, l8, g8, l9, g9⟩
theorem k27_mk (w : World) (x : S27) {A8 : Option Addr} {c8 : Nat} (l8 : x.f8.length ≤ c8) (g8 : (Kd.int .u8).C w A8 x.f8.length x.f8) {A9 : Option Addr} {c9 : Nat} (l9 : x.f9.length ≤ c9) (g9 : k47.C w A9 x.f9.length x.f9) : k27.K w x [.int .i64 x.f0, .int .u64 x.f1, .int .u64 x.f2, .int .u64 x.f3, .int .u64 x.f4, .int .u64 x.f5, .int .u64 x.f6, .bool x.f7, .slice A8 x.f8.length c8, .slice A9 x.f9.length c9] := ⟨[.int .i64 x.f0], [.int .u64 x.f1, .int .u64 x.f2, .int .u64 x.f3, .int .u64 x.f4, .int .u64 x.f5, .int .u64 x.f6, .bool x.f7, .slice A8 x.f8.length c8, .slice A9 x.f9.length c9], rfl, rfl, ⟨[.int .u64 x.f1], [.int .u64 x.f2, .int .u64 x.f3, .int .u64 x.f4, .int .u64 x.f5, .int .u64 x.f6, .bool x.f7, .slice A8 x.f8.length c8, .slice A9 x.f9.length c9], rfl, rfl, ⟨[.int .u64 x.f2], [.int .u64 x.f3, .int .u64 x.f4, .int .u64 x.f5, .int .u64 x.f6, .bool x.f7, .slice A8 x.f8.length c8, .slice A9 x.f9.length c9], rfl, rfl, ⟨[.int .u64 x.f3], [.int .u64 x.f4, .int .u64 x.f5, .int .u64 x.f6, .bool x.f7, .slice A8 x.f8.length c8, .slice A9 x.f9.length c9], rfl, rfl, ⟨[.int .u64 x.f4], [.int .u64 x.f5, .int .u64 x.f6, .bool x.f7, .slice A8 x.f8.length c8, .slice A9 x.f9.length c9], rfl, rfl, ⟨[.int .u64 x.f5], [.int .u64 x.f6, .bool x.f7, .slice A8 x.f8.length c8, .slice A9 x.f9.length c9], rfl, rfl, ⟨[.int .u64 x.f6], [.bool x.f7, .slice A8 x.f8.length c8, .slice A9 x.f9.length c9], rfl, rfl, ⟨[.bool x.f7], [.slice A8 x.f8.length c8, .slice A9 x.f9.length c9], rfl, rfl, ⟨[.slice A8 x.f8.length c8], [.slice A9 x.f9.length c9], rfl, ⟨A8, c8, rfl, l8, g8⟩, ⟨A9, c9, rfl, l9, g9⟩⟩⟩⟩⟩⟩⟩⟩⟩⟩
theorem k27_mkM (w : World) (base : Nat) (ok : Nat → Prop) (x : S27) {v8 : Value} (g8 : (Kd.int .u8).R 5 w base ok v8 x.f8) {v9 : Value} (g9 : k47.R 47 w base ok v9 x.f9) : k27.M w base ok x [.int .i64 x.f0, .int .u64 x.f1, .int .u64 x.f2, .int .u64 x.f3, .int .u64 x.f4, .int .u64 x.f5, .int .u64 x.f6, .bool x.f7, v8, v9] := ⟨[.int .i64 x.f0], [.int .u64 x.f1, .int .u64 x.f2, .int .u64 x.f3, .int .u64 x.f4, .int .u64 x.f5, .int .u64 x.f6, .bool x.f7, v8, v9], rfl, rfl, ⟨[.int .u64 x.f1], [.int .u64 x.f2, .int .u64 x.f3, .int .u64 x.f4, .int .u64 x.f5, .int .u64 x.f6, .bool x.f7, v8, v9], rfl, rfl, ⟨[.int .u64 x.f2], [.int .u64 x.f3, .int .u64 x.f4, .int .u64 x.f5, .int .u64 x.f6, .bool x.f7, v8, v9], rfl, rfl, ⟨[.int .u64 x.f3], [.int .u64 x.f4, .int .u64 x.f5, .int .u64 x.f6, .bool x.f7, v8, v9], rfl, rfl, ⟨[.int .u64 x.f4], [.int .u64 x.f5, .int .u64 x.f6, .bool x.f7, v8, v9], rfl, rfl, ⟨[.int .u64 x.f5], [.int .u64 x.f6, .bool x.f7, v8, v9], rfl, rfl, ⟨[.int .u64 x.f6], [.bool x.f7, v8, v9], rfl, rfl, ⟨[.bool x.f7], [v8, v9], rfl, rfl, ⟨[v8], [v9], rfl, ⟨v8, rfl, g8⟩, ⟨v9, rfl, g9⟩⟩⟩⟩⟩⟩⟩⟩⟩⟩
def rd_T27 (xs : List S27) (i : Int) : S27 := xs.getD i.toNat z27
theorem at_T27 {w : World} {A : Option Addr} {n : Nat} {xs : List S27} (h : Kd.C k27 w A n xs) (i : Int) (h0 : 0 ≤ i) (h1 : i < n) : ∃ ad A8 c8 A9 c9, A = some ad ∧ w.cell? (ad.add (i.toNat * 10)) = some (.int .i64 (rd_T27 xs i).f0) ∧ w.cell? ⟨(ad.add (i.toNat * 10)).block, (ad.add (i.toNat * 10)).off + 1, none⟩ = some (.int .u64 (rd_T27 xs i).f1) ∧ w.cell? ⟨(ad.add (i.toNat * 10)).block, (ad.add (i.toNat * 10)).off + 2, none⟩ = some (.int .u64 (rd_T27 xs i).f2) ∧ w.cell? ⟨(ad.add (i.toNat * 10)).block, (ad.add (i.toNat * 10)).off + 3, none⟩ = some (.int .u64 (rd_T27 xs i).f3) ∧ w.cell? ⟨(ad.add (i.toNat * 10)).block, (ad.add (i.toNat * 10)).off + 4, none⟩ = some (.int .u64 (rd_T27 xs i).f4) ∧ w.cell? ⟨(ad.add (i.toNat * 10)).block, (ad.add (i.toNat * 10)).off + 5, none⟩ = some (.int .u64 (rd_T27 xs i).f5) ∧ w.cell? ⟨(ad.add (i.toNat * 10)).block, (ad.add (i.toNat * 10)).off + 6, none⟩ = some (.int .u64 (rd_T27 xs i).f6) ∧ w.cell? ⟨(ad.add (i.toNat * 10)).block, (ad.add (i.toNat * 10)).off + 7, none⟩ = some (.bool (rd_T27 xs i).f7) ∧ w.cell? ⟨(ad.add (i.toNat * 10)).block, (ad.add (i.toNat * 10)).off + 8, none⟩ = some (.slice A8 (rd_T27 xs i).f8.length c8) ∧ w.cell? ⟨(ad.add (i.toNat * 10)).block, (ad.add (i.toNat * 10)).off + 9, none⟩ = some (.slice A9 (rd_T27 xs i).f9.length c9) ∧ (rd_T27 xs i).f8.length ≤ c8 ∧ (Kd.int .u8).C w A8 (rd_T27 xs i).f8.length (rd_T27 xs i).f8 ∧ (rd_T27 xs i).f9.length ≤ c9 ∧ k47.C w A9 (rd_T27 xs i).f9.length (rd_T27 xs i).f9 := by
  obtain ⟨ad, c, e, _, hK, hc0⟩ := Kd.C_get h z27 i h0 h1
  have hc : ∀ j u, c[j]? = some u → w.cell? (ad.add (i.toNat * 10 + j)) = some u := hc0
  obtain ⟨A8, c8, A9, c9, rfl, l8, g8, l9, g9⟩ := k27_open hK
  exact ⟨ad, A8, c8, A9, c9, e, hc 0 _ rfl, by rw [← add_field _ _ 1 (by omega)]; exact hc 1 _ rfl, by rw [← add_field _ _ 2 (by omega)]; exact hc 2 _ rfl, by rw [← add_field _ _ 3 (by omega)]; exact hc 3 _ rfl, by rw [← add_field _ _ 4 (by omega)]; exact hc 4 _ rfl, by rw [← add_field _ _ 5 (by omega)]; exact hc 5 _ rfl, by rw [← add_field _ _ 6 (by omega)]; exact hc 6 _ rfl, by rw [← add_field _ _ 7 (by omega)]; exact hc 7 _ rfl, by rw [← add_field _ _ 8 (by omega)]; exact hc 8 _ rfl, by rw [← add_field _ _ 9 (by omega)]; exact hc 9 _ rfl, l8, g8, l9, g9⟩
end Go.Proofs.Ytphakdfholkbdaa.PFra
end
section
namespace Go.Proofs.Ytphakdfholkbdaa
open Go.ChangeShapes Go.WideShapes Go.ChangeAt Go.RowKit
def IsLv : List (Option IntKind) → List Value → Prop
  | [], [] => True
  | some k :: ls, v :: vs => (∃ n, v = .int k n ∧ (Lit.int k n).wf = true) ∧ IsLv ls vs
  | none :: ls, v :: vs => (∃ b, v = .bool b) ∧ IsLv ls vs
  | _, _ => False
theorem IsLv.append : ∀ {l1 l2 : List (Option IntKind)} {v1 v2 : List Value}, IsLv l1 v1 → IsLv l2 v2 → IsLv (l1 ++ l2) (v1 ++ v2)
  | [], _, [], _, _, h => h
  | some _ :: _, _, _ :: _, _, h1, h2 => ⟨h1.1, IsLv.append h1.2 h2⟩
  | none :: _, _, _ :: _, _, h1, h2 => ⟨h1.1, IsLv.append h1.2 h2⟩
theorem lv_int {k : IntKind} {ls : List (Option IntKind)} {cs : List Value} (h : IsLv (some k :: ls) cs) : ∃ n cs', cs = .int k n :: cs' ∧ (Lit.int k n).wf = true ∧ IsLv ls cs' := by
  cases cs with
  | nil => exact h.elim
  | cons v vs =>
    obtain ⟨⟨n, rfl, hw⟩, h⟩ := h
    exact ⟨n, vs, rfl, hw, h⟩
theorem lv_nil {cs : List Value} (h : IsLv [] cs) : cs = [] := by
  cases cs with
  | nil => rfl
  | cons v vs => exact h.elim
theorem IsLv.length : ∀ {ls : List (Option IntKind)} {cs : List Value}, IsLv ls cs → cs.length = ls.length
  | [], [], _ => rfl
  | some _ :: _, _ :: _, h => by simp [IsLv.length h.2]
  | none :: _, _ :: _, h => by simp [IsLv.length h.2]
def fieldsLv (P : Program) (g : TypeId → Option (List (Option IntKind))) : Nat → List Field → Option (List (Option IntKind))
  | _, [] => some []
  | o, f :: fs => match g f.type with
    | none => none
    | some l => if f.offset = o ∧ l.length = P.cellsOf f.type then (fieldsLv P g (o + l.length) fs).map (l ++ ·) else none
def leavesOf (P : Program) : Nat → TypeId → Option (List (Option IntKind))
  | 0, _ => none
  | n + 1, t => match P.underlying t with
    | some (.int k) => some [some k]
    | some .bool => some [none]
    | some (.struct fs) => match fieldsLv P (leavesOf P n) 0 fs.toList with
      | none => none
      | some l => if l.length = P.cellsOf t then some l else none
    | _ => none
section
variable {H : Type} {enc : TypeId × Value → H} {P : Program} {w : World} {base : Nat} {spare : Nat → Bool} {held : Bool}
theorem fieldsLv_tells {g : TypeId → Option (List (Option IntKind))} {cs : List Value}
    (hg : ∀ t l cs', g t = some l → cs'.length = P.cellsOf t → (∃ n y, DataW.trod enc P w base spare held n t cs' = some y) → IsLv l cs') :
    ∀ (fs : List Field) (o : Nat) (l : List (Option IntKind)), fieldsLv P g o fs = some l → cs.length = o + l.length →
    (∀ f ∈ fs, ∃ n y, DataW.trod enc P w base spare held n f.type ((cs.drop f.offset).take (P.cellsOf f.type)) = some y) → IsLv l (cs.drop o)
  | [], o, l, hl, hlen, _ => by
    obtain rfl := Option.some.inj hl
    simp at hlen
    rw [List.drop_eq_nil_of_le (by omega)]
    exact trivial
  | f :: fs, o, l, hl, hlen, hf => by
    unfold fieldsLv at hl
    split at hl
    · cases hl
    · rename_i l1 h1
      split at hl
      · rename_i hc
        obtain ⟨rfl, hc⟩ := hc
        obtain ⟨l2, h2, rfl⟩ := Option.map_eq_some_iff.1 hl
        simp at hlen
        have e : cs.drop f.offset = (cs.drop f.offset).take l1.length ++ cs.drop (f.offset + l1.length) := by
          rw [← List.drop_drop]; exact (List.take_append_drop _ _).symm
        rw [e]
        refine IsLv.append (hg f.type l1 _ h1 (by simp; omega) ?_) (fieldsLv_tells hg fs _ l2 h2 (by omega) fun f' hm => hf f' (List.mem_cons_of_mem _ hm))
        have := hf f (List.mem_cons_self ..)
        rwa [← hc] at this
      · cases hl
theorem leavesOf_tells : ∀ (m : Nat) (t : TypeId) (l : List (Option IntKind)) (cs : List Value), leavesOf P m t = some l → cs.length = P.cellsOf t → (∃ n y, DataW.trod enc P w base spare held n t cs = some y) → IsLv l cs
  | 0, _, _, _, h, _, _ => by cases h
  | m + 1, t, l, cs, hl, hlen, ht => by
    obtain ⟨n, y, ht⟩ := ht
    unfold leavesOf at hl
    split at hl
    · rename_i k hu
      obtain rfl := Option.some.inj hl
      obtain ⟨x, hx, _, hw⟩ := DataW.trod_int hu ht
      subst hx
      exact ⟨⟨x, rfl, hw⟩, trivial⟩
    · rename_i hu
      obtain rfl := Option.some.inj hl
      obtain ⟨x, hx, _⟩ := DataW.trod_bool hu ht
      subst hx
      exact ⟨⟨x, rfl⟩, trivial⟩
    · rename_i fs hu
      split at hl
      · cases hl
      · rename_i l1 h1
        split at hl
        · rename_i hc
          obtain rfl := Option.some.inj hl
          obtain ⟨xs, n', _, _, _, hxs, hfs⟩ := DataW.trod_struct hu ht
          have hf : ∀ f ∈ fs.toList, ∃ n y, DataW.trod enc P w base spare held n f.type ((cs.drop f.offset).take (P.cellsOf f.type)) = some y := by
            intro f hm
            obtain ⟨i, hi, rfl⟩ := List.mem_iff_getElem.1 hm
            have hi' : i < fs.size := by simpa using hi
            have := hfs i fs[i] (by simp [hi'])
            rw [List.getElem?_eq_getElem (by omega)] at this
            exact ⟨n', _, this⟩
          have := fieldsLv_tells (H := H) (enc := enc) (w := w) (base := base) (spare := spare) (held := held) (cs := cs) (fun t l cs' h1 h2 h3 => leavesOf_tells m t l cs' h1 h2 h3) fs.toList 0 l1 h1 (by omega) hf
          simpa using this
        · cases hl
    · cases hl
end
end Go.Proofs.Ytphakdfholkbdaa
end
section
namespace Go.Proofs.Ytphakdfholkbdaa.PFra
open Go.RowKit Go.Proofs.YtphakdfholkbdaaW.PrintWords
instance : Inhabited S47 := ⟨z47⟩
def WfS47 (x : S47) : Prop := (Lit.int .u64 x.f0).wf = true ∧ (Lit.int .u64 x.f1).wf = true
theorem dec47 (w : World) (cs : List Value) (lv : IsLv [some .u64, some .u64] cs) : ∃ y : S47, k47.K w y cs ∧ WfS47 y := by
  obtain ⟨a0, l0, rfl, w0, lv0⟩ := lv_int lv
  obtain ⟨a1, l1, rfl, w1, lv1⟩ := lv_int lv0
  have e_ := lv_nil lv1
  subst e_
  exact ⟨⟨a0, a1⟩, k47_mk w ⟨a0, a1⟩, w0, w1⟩
end Go.Proofs.Ytphakdfholkbdaa.PFra
end
section
namespace Go.Proofs.Ytphakdfholkbdaa
open Go.ChangeShapes Go.WideShapes Go.ChangeAt Go.RowKit
inductive Leaf where
  | num (k : IntKind)
  | truth
  | row (t : TypeId)
section
variable {H : Type} {enc : TypeId × Value → H} {P : Program} {w : World} {base : Nat} {spare : Nat → Bool} {held : Bool}
def IsRow (enc : TypeId × Value → H) (P : Program) (w : World) (base : Nat) (spare : Nat → Bool) (held : Bool) (t : TypeId) (v : Value) : Prop := ∃ n y, DataW.trod enc P w base spare held n t [v] = some y
def IsLx (R : TypeId → Value → Prop) : List Leaf → List Value → Prop
  | [], [] => True
  | .num k :: ls, v :: vs => (∃ n, v = .int k n ∧ (Lit.int k n).wf = true) ∧ IsLx R ls vs
  | .truth :: ls, v :: vs => (∃ b, v = .bool b) ∧ IsLx R ls vs
  | .row t :: ls, v :: vs => R t v ∧ IsLx R ls vs
  | _, _ => False
theorem IsLx.append {R : TypeId → Value → Prop} : ∀ {l1 l2 : List Leaf} {v1 v2 : List Value}, IsLx R l1 v1 → IsLx R l2 v2 → IsLx R (l1 ++ l2) (v1 ++ v2)
  | [], _, [], _, _, h => h
  | .num _ :: _, _, _ :: _, _, h1, h2 => ⟨h1.1, IsLx.append h1.2 h2⟩
  | .truth :: _, _, _ :: _, _, h1, h2 => ⟨h1.1, IsLx.append h1.2 h2⟩
  | .row _ :: _, _, _ :: _, _, h1, h2 => ⟨h1.1, IsLx.append h1.2 h2⟩
theorem lx_int {R : TypeId → Value → Prop} {k : IntKind} {ls : List Leaf} {cs : List Value} (h : IsLx R (.num k :: ls) cs) : ∃ n cs', cs = .int k n :: cs' ∧ (Lit.int k n).wf = true ∧ IsLx R ls cs' := by
  cases cs with
  | nil => exact h.elim
  | cons v vs =>
    obtain ⟨⟨n, rfl, hw⟩, h⟩ := h
    exact ⟨n, vs, rfl, hw, h⟩
theorem lx_bool {R : TypeId → Value → Prop} {ls : List Leaf} {cs : List Value} (h : IsLx R (.truth :: ls) cs) : ∃ b cs', cs = .bool b :: cs' ∧ IsLx R ls cs' := by
  cases cs with
  | nil => exact h.elim
  | cons v vs =>
    obtain ⟨⟨b, rfl⟩, h⟩ := h
    exact ⟨b, vs, rfl, h⟩
theorem lx_row {R : TypeId → Value → Prop} {t : TypeId} {ls : List Leaf} {cs : List Value} (h : IsLx R (.row t :: ls) cs) : ∃ v cs', cs = v :: cs' ∧ R t v ∧ IsLx R ls cs' := by
  cases cs with
  | nil => exact h.elim
  | cons v vs => exact ⟨v, vs, rfl, h.1, h.2⟩
theorem lx_nil {R : TypeId → Value → Prop} {cs : List Value} (h : IsLx R [] cs) : cs = [] := by
  cases cs with
  | nil => rfl
  | cons v vs => exact h.elim
def fieldsLx (P : Program) (g : TypeId → Option (List Leaf)) : Nat → List Field → Option (List Leaf)
  | _, [] => some []
  | o, f :: fs => match g f.type with
    | none => none
    | some l => if f.offset = o ∧ l.length = P.cellsOf f.type then (fieldsLx P g (o + l.length) fs).map (l ++ ·) else none
def leavesX (P : Program) : Nat → TypeId → Option (List Leaf)
  | 0, _ => none
  | n + 1, t => match P.underlying t with
    | some (.int k) => some [.num k]
    | some .bool => some [.truth]
    | some (.slice _) => if P.cellsOf t = 1 then some [.row t] else none
    | some (.struct fs) => match fieldsLx P (leavesX P n) 0 fs.toList with
      | none => none
      | some l => if l.length = P.cellsOf t then some l else none
    | _ => none
theorem fieldsLx_tells {g : TypeId → Option (List Leaf)} {cs : List Value}
    (hg : ∀ t l cs', g t = some l → cs'.length = P.cellsOf t → (∃ n y, DataW.trod enc P w base spare held n t cs' = some y) → IsLx (IsRow enc P w base spare held) l cs') :
    ∀ (fs : List Field) (o : Nat) (l : List Leaf), fieldsLx P g o fs = some l → cs.length = o + l.length →
    (∀ f ∈ fs, ∃ n y, DataW.trod enc P w base spare held n f.type ((cs.drop f.offset).take (P.cellsOf f.type)) = some y) → IsLx (IsRow enc P w base spare held) l (cs.drop o)
  | [], o, l, hl, hlen, _ => by
    obtain rfl := Option.some.inj hl
    simp at hlen
    rw [List.drop_eq_nil_of_le (by omega)]
    exact trivial
  | f :: fs, o, l, hl, hlen, hf => by
    unfold fieldsLx at hl
    split at hl
    · cases hl
    · rename_i l1 h1
      split at hl
      · rename_i hc
        obtain ⟨rfl, hc⟩ := hc
        obtain ⟨l2, h2, rfl⟩ := Option.map_eq_some_iff.1 hl
        simp at hlen
        have e : cs.drop f.offset = (cs.drop f.offset).take l1.length ++ cs.drop (f.offset + l1.length) := by
          rw [← List.drop_drop]; exact (List.take_append_drop _ _).symm
        rw [e]
        refine IsLx.append (hg f.type l1 _ h1 (by simp; omega) ?_) (fieldsLx_tells hg fs _ l2 h2 (by omega) fun f' hm => hf f' (List.mem_cons_of_mem _ hm))
        have := hf f (List.mem_cons_self ..)
        rwa [← hc] at this
      · cases hl
theorem leavesX_tells : ∀ (m : Nat) (t : TypeId) (l : List Leaf) (cs : List Value), leavesX P m t = some l → cs.length = P.cellsOf t → (∃ n y, DataW.trod enc P w base spare held n t cs = some y) → IsLx (IsRow enc P w base spare held) l cs
  | 0, _, _, _, h, _, _ => by cases h
  | m + 1, t, l, cs, hl, hlen, ht => by
    obtain ⟨n, y, ht⟩ := ht
    unfold leavesX at hl
    split at hl
    · rename_i k hu
      obtain rfl := Option.some.inj hl
      obtain ⟨x, hx, _, hw⟩ := DataW.trod_int hu ht
      subst hx
      exact ⟨⟨x, rfl, hw⟩, trivial⟩
    · rename_i hu
      obtain rfl := Option.some.inj hl
      obtain ⟨x, hx, _⟩ := DataW.trod_bool hu ht
      subst hx
      exact ⟨⟨x, rfl⟩, trivial⟩
    · split at hl
      · rename_i hc
        obtain rfl := Option.some.inj hl
        rw [hc] at hlen
        match cs, hlen with
        | [v], _ => exact ⟨⟨n, y, ht⟩, trivial⟩
      · cases hl
    · rename_i fs hu
      split at hl
      · cases hl
      · rename_i l1 h1
        split at hl
        · rename_i hc
          obtain rfl := Option.some.inj hl
          obtain ⟨xs, n', _, _, _, hxs, hfs⟩ := DataW.trod_struct hu ht
          have hf : ∀ f ∈ fs.toList, ∃ n y, DataW.trod enc P w base spare held n f.type ((cs.drop f.offset).take (P.cellsOf f.type)) = some y := by
            intro f hm
            obtain ⟨i, hi, rfl⟩ := List.mem_iff_getElem.1 hm
            have hi' : i < fs.size := by simpa using hi
            have := hfs i fs[i] (by simp [hi'])
            rw [List.getElem?_eq_getElem (by omega)] at this
            exact ⟨n', _, this⟩
          have := fieldsLx_tells (H := H) (enc := enc) (w := w) (base := base) (spare := spare) (held := held) (cs := cs) (fun t l cs' h1 h2 h3 => leavesX_tells m t l cs' h1 h2 h3) fs.toList 0 l1 h1 (by omega) hf
          simpa using this
        · cases hl
    · cases hl
theorem row_form {t e : TypeId} {v : Value} (ht : P.underlying t = some (.slice e)) (h : IsRow enc P w base spare held t v) : ∃ A len cap, v = .slice A len cap := by
  obtain ⟨n, y, h⟩ := h
  rcases Go.Deep.open_slice ht h with ⟨h0, _⟩ | ⟨a, len', cap', m', n, D, Pl, hcs, _⟩
  · simp only [List.cons.injEq, and_true] at h0
    exact ⟨_, _, _, h0⟩
  · simp only [List.cons.injEq, and_true] at hcs
    exact ⟨_, _, _, hcs⟩
end
end Go.Proofs.Ytphakdfholkbdaa
end
section
namespace Go.Proofs.Ytphakdfholkbdaa
open Go.ChangeShapes Go.WideShapes Go.ChangeAt Go.RowKit Go.Proofs.YtphakdfholkbdaaW.PrintWords
theorem open_structs {H : Type} {enc : TypeId × Value → H} {P : Program} {w : World} {base : Nat} {spare : Nat → Bool} {held : Bool} {α : Type} [Inhabited α] {d : Kd α} {Wf : α → Prop} {ls : List (Option IntKind)} {t e : TypeId} {m fuel : Nat} {A : Option Addr} {len cap : Nat} {x : DataW H × List MemPlace}
    (hdec : ∀ cs, IsLv ls cs → ∃ y, d.K w y cs ∧ Wf y) (ht : P.underlying t = some (.slice e)) (hl : leavesOf P m e = some ls) (hs : d.sz = P.cellsOf e)
    (h : DataW.trod enc P w base spare held fuel t [.slice A len cap] = some x) : ∃ ys : List α, ys.length = len ∧ len ≤ cap ∧ d.C w A len ys ∧ ∀ y ∈ ys, Wf y := by
  rcases Go.Deep.open_slice ht h with ⟨h0, _⟩ | ⟨a, len', cap', m', n, D, Pl, hcs, _, hle, hmx, hm, _, hx⟩
  · simp only [List.cons.injEq, Value.slice.injEq, and_true] at h0
    obtain ⟨rfl, rfl, rfl⟩ := h0
    exact ⟨[], rfl, Nat.le_refl _, Kd.C_nil d w, by simp⟩
  · simp only [List.cons.injEq, Value.slice.injEq, and_true] at hcs
    obtain ⟨rfl, rfl, rfl⟩ := hcs
    have hlm : len ≤ m' := by rw [hm]; split <;> omega
    have each : ∀ i, i < len → ∃ y, (∃ cs, d.K w y cs ∧ ∀ j u, cs[j]? = some u → w.cell? (a.add (i * d.sz + j)) = some u) ∧ Wf y := by
      intro i hi
      obtain ⟨cs', h1, h2⟩ := hx i (by omega)
      obtain ⟨_, hlen, hcell⟩ := World.cells?_some h1
      obtain ⟨y, hK, hW⟩ := hdec cs' (leavesOf_tells m e ls cs' hl hlen ⟨_, _, h2⟩)
      refine ⟨y, ⟨cs', hK, fun j u hu => ?_⟩, hW⟩
      have hj : j < P.cellsOf e := by
        have := (List.getElem?_eq_some_iff.1 hu).1
        omega
      rw [hs, ← Go.Deep.add_add, hcell j hj, hu]
    obtain ⟨Y, hY⟩ := Go.Deep.choose_lt each
    have hmax : cap ≤ 9223372036854775807 := hmx
    refine ⟨(List.range len).map Y, by simp, hle, ⟨by simp, by omega, fun _ => ⟨a, rfl, fun j p hp => ?_⟩⟩, fun y hy => ?_⟩
    · obtain ⟨h1, h2⟩ := List.getElem?_eq_some_iff.1 hp
      have hj : j < len := by simpa using h1
      have e : p = Y j := by rw [← h2]; simp
      subst e
      obtain ⟨⟨cs, hK, hcell⟩, _⟩ := hY j hj
      exact ⟨cs, d.K_len hK, hK, hcell⟩
    · obtain ⟨i, hi, rfl⟩ := List.mem_map.1 hy
      exact (hY i (List.mem_range.1 hi)).2
theorem decI {k : IntKind} (w : World) (cs : List Value) (lv : IsLv [some k] cs) : ∃ y, (Kd.int k).K w y cs ∧ (Lit.int k y).wf = true := by
  obtain ⟨a, l, rfl, wa, lv⟩ := lv_int lv
  have e := lv_nil lv
  subst e
  exact ⟨a, rfl, wa⟩
end Go.Proofs.Ytphakdfholkbdaa
end
