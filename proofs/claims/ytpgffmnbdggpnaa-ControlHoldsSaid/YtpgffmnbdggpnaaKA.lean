/- Several texts of this claim in one. -/
import Derived.Shelf.Small.Bits
import Derived.Shelf.Strconv.Itoa0
import Derived.Shelf.Bits.Mul64
import Derived.Test.YtpgffmnbdggpnaaProg
import Derived.Below
import Derived.Deep.Draws
import Derived.Deep.AppendLies
import Derived.Maps.AppendAt
import Derived.OwnWalk
import Derived.Laws.BytesArg
import Derived.Laws.MakeOwn
import Derived.Laws.OwnMore
import Derived.Deep.OwnRows
import Derived.Tactics
import Derived.Lib.ConvBytes
import Derived.Laws.Slices
import Derived.WalkKit
import Derived.KernelRfl
import Derived.RowKit3
import Derived.Deep.LoopGhost
import Derived.Deep.QuietTactic
import Derived.BigQuiet
import Derived.WideLaws
import Derived.Deep.DeepCutAuto
import Derived.Deep.CutBlock
import Derived.Deep.RegionHeld3
import Derived.Laws.Rows
import Derived.Lib.AppendStr
import Derived.ArgAppend
import Derived.Laws.IdiomCopy
import Derived.OrdersHeld
import Derived.Laws.BitsLemmas
import Derived.RowKit
import Derived.Outline
import Derived.Deep.RegionWith
import Derived.Lib.Hide
import Derived.Lib.ItoaNum
import Derived.Laws.BitsAllLaws
import Derived.Laws.Externs
import Derived.Test.YtpgffmnbdggpnaaKW
import Derived.Deep.DeepMust
import Derived.ProofKit
import Derived.Deep.Slices
section
namespace Go.Proofs
open Go.Shelf
def Try.lays134_ren : Go.Shelf.Ren := ⟨fun | 134 => 62 | 129 => 68 | n => n, fun | 53 => 23 | 3 => 3 | 4 => 4 | 46 => 98 | 5 => 5 | 9 => 9 | n => n, fun | n => n⟩
theorem Try.lays134 : Go.Proofs.Lays.n134 Try.prog Try.lays134_ren := {
  mixed := by kernel_rfl
  f129 := Try.func68.trans (congrArg some (by kernel_rfl))
  f134 := Try.func62.trans (congrArg some (by kernel_rfl))
  t3 := Try.underlying3
  a3 := Try.isAgg3
  z3 := Try.sizeOf3
  v3 := Try.zeroValue3
  t4 := Try.underlying4
  a4 := Try.isAgg4
  z4 := Try.sizeOf4
  v4 := Try.zeroValue4
  t5 := Try.underlying5
  a5 := Try.isAgg5
  z5 := Try.sizeOf5
  v5 := Try.zeroValue5
  t9 := Try.underlying9
  a9 := Try.isAgg9
  z9 := Try.sizeOf9
  v9 := Try.zeroValue9
  t46 := Try.underlying98
  a46 := Try.isAgg98
  z46 := Try.sizeOf98
  v46 := Try.zeroValue98
  t53 := Try.underlying23
  a53 := Try.isAgg23
  z53 := Try.sizeOf23
  v53 := Try.zeroValue23 }
theorem Try.bits_LeadingZeros64 (x : Int) (w : World) (h0 : 0 ≤ x) (h1 : x ≤ 18446744073709551615) :
    Calls Try.prog 62 #[.int .u64 x] w fun e w' => e = .returned (.int .i64 (64 - (Lib.bitLen x.toNat : Int))) ∧ w' = w := Any.bits_LeadingZeros64 Try.lays134 x w h0 h1
def Try.lays264_ren : Go.Shelf.Ren := ⟨fun | 264 => 47 | n => n, fun | 53 => 23 | 46 => 98 | n => n, fun | n => n⟩
theorem Try.lays264 : Go.Proofs.Lays.n264 Try.prog Try.lays264_ren := {
  mixed := by kernel_rfl
  f264 := Try.func47.trans (congrArg some (by kernel_rfl))
  t46 := Try.underlying98
  a46 := Try.isAgg98
  z46 := Try.sizeOf98
  v46 := Try.zeroValue98
  t53 := Try.underlying23
  a53 := Try.isAgg23
  z53 := Try.sizeOf23
  v53 := Try.zeroValue23 }
open Go.RowKit Go.Lib in
theorem Try.bits_Mul64 (x y : Nat) (hx : x < 18446744073709551616) (hy : y < 18446744073709551616) (w : World) :
    Calls Try.prog 47 #[.int .u64 x, .int .u64 y] w fun e w' => e = .returned (.tuple #[.int .u64 ((x * y / 18446744073709551616 : Nat) : Int), .int .u64 ((x * y % 18446744073709551616 : Nat) : Int)]) ∧ w' = w := Any.bits_Mul64 Try.lays264 x y hx hy w
end Go.Proofs
end
section
namespace Go.Proofs.Ytpgffmnbdggpnaa.PCv
open Go.RowKit Go.Proofs.YtpgffmnbdggpnaaW.PrintWords Go.Proofs.YtpgffmnbdggpnaaW.PrintLast Go.Proofs.YtpgffmnbdggpnaaW.PrintMore
set_option linter.unusedVariables false
set_option linter.unusedSimpArgs false
def errW : Option Int → Value
  | none => .nilIface
  | some c => .iface 0 (.int .i64 c)
theorem errW_none : errW none = .nilIface := rfl
theorem errW_some (c : Int) : errW (some c) = .iface 0 (.int .i64 c) := rfl
theorem info90 : (Try.prog.info? 90).map (fun i => (i.zero, i.size, i.bytes)) = some (some (.agg #[(.int .u64 0), (.int .u64 0)]), 2, 16) := by kernel_rfl
structure S90 where
  f0 : Int
  f1 : Int
def z90 : S90 := ⟨(0 : Int), (0 : Int)⟩
def k90 : Kd S90 := Kd.iso (Kd.pair (Kd.int .u64) (Kd.int .u64)) (fun x : S90 => (x.f0, x.f1))
theorem k90_open {w : World} {x : S90} {cs : List Value} (h : k90.K w x cs) : cs = [.int .u64 x.f0, .int .u64 x.f1] := by
  obtain ⟨_, _, rfl, rfl, rfl⟩ := h
  exact rfl
theorem k90_mk (w : World) (x : S90)  : k90.K w x [.int .u64 x.f0, .int .u64 x.f1] := ⟨[.int .u64 x.f0], [.int .u64 x.f1], rfl, rfl, rfl⟩
theorem k90_mkM (w : World) (base : Nat) (ok : Nat → Prop) (x : S90)  : k90.M w base ok x [.int .u64 x.f0, .int .u64 x.f1] := ⟨[.int .u64 x.f0], [.int .u64 x.f1], rfl, rfl, rfl⟩
def rd_T90 (xs : List S90) (i : Int) : S90 := xs.getD i.toNat z90
theorem at_T90 {w : World} {A : Option Addr} {n : Nat} {xs : List S90} (h : Kd.C k90 w A n xs) (i : Int) (h0 : 0 ≤ i) (h1 : i < n) : ∃ ad , A = some ad ∧ w.cell? (ad.add (i.toNat * 2)) = some (.int .u64 (rd_T90 xs i).f0) ∧ w.cell? ⟨(ad.add (i.toNat * 2)).block, (ad.add (i.toNat * 2)).off + 1, none⟩ = some (.int .u64 (rd_T90 xs i).f1) := by
  obtain ⟨ad, c, e, _, hK, hc0⟩ := Kd.C_get h z90 i h0 h1
  have hc : ∀ j u, c[j]? = some u → w.cell? (ad.add (i.toNat * 2 + j)) = some u := hc0
  obtain rfl := k90_open hK
  exact ⟨ad, e, hc 0 _ rfl, by rw [← add_field _ _ 1 (by omega)]; exact hc 1 _ rfl⟩
structure S53 where
 f0 : Int
 f1 : Int
 f2 : Int
 f3 : Int
 f4 : Int
 f5 : Int
 f6 : Int
 f7 : Int
 f8 : Int
 f9 : Bool
 f10 : Bool
 f11 : Int
def z53 : S53 := ⟨(0 : Int), (0 : Int), (0 : Int), (0 : Int), (0 : Int), (0 : Int), (0 : Int), (0 : Int), (0 : Int), false, false, (0 : Int)⟩
def k53 : Kd S53 := Kd.iso (Kd.pair (Kd.int .i64) (Kd.pair (Kd.int .u64) (Kd.pair (Kd.int .u64) (Kd.pair (Kd.int .u64) (Kd.pair (Kd.int .u64) (Kd.pair (Kd.int .u64) (Kd.pair (Kd.int .u64) (Kd.pair (Kd.int .u64) (Kd.pair (Kd.int .u64) (Kd.pair Kd.bool (Kd.pair Kd.bool (Kd.int .u64)))))))))))) (fun x : S53 => (x.f0, x.f1, x.f2, x.f3, x.f4, x.f5, x.f6, x.f7, x.f8, x.f9, x.f10, x.f11))
theorem k53_open {w : World} {x : S53} {cs : List Value} (h : k53.K w x cs) : cs = [.int .i64 x.f0, .int .u64 x.f1, .int .u64 x.f2, .int .u64 x.f3, .int .u64 x.f4, .int .u64 x.f5, .int .u64 x.f6, .int .u64 x.f7, .int .u64 x.f8, .bool x.f9, .bool x.f10, .int .u64 x.f11] := by
 obtain ⟨_, _, rfl, rfl, ⟨_, _, rfl, rfl, ⟨_, _, rfl, rfl, ⟨_, _, rfl, rfl, ⟨_, _, rfl, rfl, ⟨_, _, rfl, rfl, ⟨_, _, rfl, rfl, ⟨_, _, rfl, rfl, ⟨_, _, rfl, rfl, ⟨_, _, rfl, rfl, ⟨_, _, rfl, rfl, rfl⟩⟩⟩⟩⟩⟩⟩⟩⟩⟩⟩ := h
 exact rfl
theorem k53_mk (w : World) (x : S53) : k53.K w x [.int .i64 x.f0, .int .u64 x.f1, .int .u64 x.f2, .int .u64 x.f3, .int .u64 x.f4, .int .u64 x.f5, .int .u64 x.f6, .int .u64 x.f7, .int .u64 x.f8, .bool x.f9, .bool x.f10, .int .u64 x.f11] := ⟨[.int .i64 x.f0], [.int .u64 x.f1, .int .u64 x.f2, .int .u64 x.f3, .int .u64 x.f4, .int .u64 x.f5, .int .u64 x.f6, .int .u64 x.f7, .int .u64 x.f8, .bool x.f9, .bool x.f10, .int .u64 x.f11], rfl, rfl, ⟨[.int .u64 x.f1], [.int .u64 x.f2, .int .u64 x.f3, .int .u64 x.f4, .int .u64 x.f5, .int .u64 x.f6, .int .u64 x.f7, .int .u64 x.f8, .bool x.f9, .bool x.f10, .int .u64 x.f11], rfl, rfl, ⟨[.int .u64 x.f2], [.int .u64 x.f3, .int .u64 x.f4, .int .u64 x.f5, .int .u64 x.f6, .int .u64 x.f7, .int .u64 x.f8, .bool x.f9, .bool x.f10, .int .u64 x.f11], rfl, rfl, ⟨[.int .u64 x.f3], [.int .u64 x.f4, .int .u64 x.f5, .int .u64 x.f6, .int .u64 x.f7, .int .u64 x.f8, .bool x.f9, .bool x.f10, .int .u64 x.f11], rfl, rfl, ⟨[.int .u64 x.f4], [.int .u64 x.f5, .int .u64 x.f6, .int .u64 x.f7, .int .u64 x.f8, .bool x.f9, .bool x.f10, .int .u64 x.f11], rfl, rfl, ⟨[.int .u64 x.f5], [.int .u64 x.f6, .int .u64 x.f7, .int .u64 x.f8, .bool x.f9, .bool x.f10, .int .u64 x.f11], rfl, rfl, ⟨[.int .u64 x.f6], [.int .u64 x.f7, .int .u64 x.f8, .bool x.f9, .bool x.f10, .int .u64 x.f11], rfl, rfl, ⟨[.int .u64 x.f7], [.int .u64 x.f8, .bool x.f9, .bool x.f10, .int .u64 x.f11], rfl, rfl, ⟨[.int .u64 x.f8], [.bool x.f9, .bool x.f10, .int .u64 x.f11], rfl, rfl, ⟨[.bool x.f9], [.bool x.f10, .int .u64 x.f11], rfl, rfl, ⟨[.bool x.f10], [.int .u64 x.f11], rfl, rfl, rfl⟩⟩⟩⟩⟩⟩⟩⟩⟩⟩⟩
end Go.Proofs.Ytpgffmnbdggpnaa.PCv
end
section
namespace Go.Proofs.Ytpgffmnbdggpnaa
open Go.ChangeShapes Go.WideShapes Go.ChangeAt Go.RowKit
def IsLv : List (Option IntKind) → List Value → Prop
  | [], [] => True
  | some k :: ls, v :: vs => (∃ n, v = .int k n ∧ (Lit.int k n).wf = true) ∧ IsLv ls vs
  | none :: ls, v :: vs => (∃ b, v = .bool b) ∧ IsLv ls vs
  | _, _ => False
theorem IsLv.append : ∀ {l1 l2 : List (Option IntKind)} {v1 v2 : List Value}, IsLv l1 v1 → IsLv l2 v2 → IsLv (l1 ++ l2) (v1 ++ v2)
  | [], _, [], _, _, h => h
  | some _ :: _, _, _ :: _, _, h1, h2 => ⟨h1.1, IsLv.append h1.2 h2⟩
  | none :: _, _, _ :: _, _, h1, h2 => ⟨h1.1, IsLv.append h1.2 h2⟩
theorem lv_int {k : IntKind} {ls : List (Option IntKind)} {cs : List Value} (h : IsLv (some k :: ls) cs) : ∃ n cs', cs = .int k n :: cs' ∧ (Lit.int k n).wf = true ∧ IsLv ls cs' := by
  cases cs with
  | nil => exact h.elim
  | cons v vs =>
    obtain ⟨⟨n, rfl, hw⟩, h⟩ := h
    exact ⟨n, vs, rfl, hw, h⟩
theorem lv_bool {ls : List (Option IntKind)} {cs : List Value} (h : IsLv (none :: ls) cs) : ∃ b cs', cs = .bool b :: cs' ∧ IsLv ls cs' := by
  cases cs with
  | nil => exact h.elim
  | cons v vs =>
    obtain ⟨⟨b, rfl⟩, h⟩ := h
    exact ⟨b, vs, rfl, h⟩
theorem lv_nil {cs : List Value} (h : IsLv [] cs) : cs = [] := by
  cases cs with
  | nil => rfl
  | cons v vs => exact h.elim
theorem IsLv.length : ∀ {ls : List (Option IntKind)} {cs : List Value}, IsLv ls cs → cs.length = ls.length
  | [], [], _ => rfl
  | some _ :: _, _ :: _, h => by simp [IsLv.length h.2]
  | none :: _, _ :: _, h => by simp [IsLv.length h.2]
def fieldsLv (P : Program) (g : TypeId → Option (List (Option IntKind))) : Nat → List Field → Option (List (Option IntKind))
  | _, [] => some []
  | o, f :: fs => match g f.type with
    | none => none
    | some l => if f.offset = o ∧ l.length = P.cellsOf f.type then (fieldsLv P g (o + l.length) fs).map (l ++ ·) else none
def leavesOf (P : Program) : Nat → TypeId → Option (List (Option IntKind))
  | 0, _ => none
  | n + 1, t => match P.underlying t with
    | some (.int k) => some [some k]
    | some .bool => some [none]
    | some (.struct fs) => match fieldsLv P (leavesOf P n) 0 fs.toList with
      | none => none
      | some l => if l.length = P.cellsOf t then some l else none
    | _ => none
section
variable {H : Type} {enc : TypeId × Value → H} {P : Program} {w : World} {base : Nat} {spare : Nat → Bool} {held : Bool}
theorem fieldsLv_tells {g : TypeId → Option (List (Option IntKind))} {cs : List Value}
    (hg : ∀ t l cs', g t = some l → cs'.length = P.cellsOf t → (∃ n y, DataW.trod enc P w base spare held n t cs' = some y) → IsLv l cs') :
    ∀ (fs : List Field) (o : Nat) (l : List (Option IntKind)), fieldsLv P g o fs = some l → cs.length = o + l.length →
    (∀ f ∈ fs, ∃ n y, DataW.trod enc P w base spare held n f.type ((cs.drop f.offset).take (P.cellsOf f.type)) = some y) → IsLv l (cs.drop o)
  | [], o, l, hl, hlen, _ => by
    obtain rfl := Option.some.inj hl
    simp at hlen
    rw [List.drop_eq_nil_of_le (by omega)]
    exact trivial
  | f :: fs, o, l, hl, hlen, hf => by
    unfold fieldsLv at hl
    split at hl
    · cases hl
    · rename_i l1 h1
      split at hl
      · rename_i hc
        obtain ⟨rfl, hc⟩ := hc
        obtain ⟨l2, h2, rfl⟩ := Option.map_eq_some_iff.1 hl
        simp at hlen
        have e : cs.drop f.offset = (cs.drop f.offset).take l1.length ++ cs.drop (f.offset + l1.length) := by
          rw [← List.drop_drop]; exact (List.take_append_drop _ _).symm
        rw [e]
        refine IsLv.append (hg f.type l1 _ h1 (by simp; omega) ?_) (fieldsLv_tells hg fs _ l2 h2 (by omega) fun f' hm => hf f' (List.mem_cons_of_mem _ hm))
        have := hf f (List.mem_cons_self ..)
        rwa [← hc] at this
      · cases hl
theorem leavesOf_tells : ∀ (m : Nat) (t : TypeId) (l : List (Option IntKind)) (cs : List Value), leavesOf P m t = some l → cs.length = P.cellsOf t → (∃ n y, DataW.trod enc P w base spare held n t cs = some y) → IsLv l cs
  | 0, _, _, _, h, _, _ => by cases h
  | m + 1, t, l, cs, hl, hlen, ht => by
    obtain ⟨n, y, ht⟩ := ht
    unfold leavesOf at hl
    split at hl
    · rename_i k hu
      obtain rfl := Option.some.inj hl
      obtain ⟨x, hx, _, hw⟩ := DataW.trod_int hu ht
      subst hx
      exact ⟨⟨x, rfl, hw⟩, trivial⟩
    · rename_i hu
      obtain rfl := Option.some.inj hl
      obtain ⟨x, hx, _⟩ := DataW.trod_bool hu ht
      subst hx
      exact ⟨⟨x, rfl⟩, trivial⟩
    · rename_i fs hu
      split at hl
      · cases hl
      · rename_i l1 h1
        split at hl
        · rename_i hc
          obtain rfl := Option.some.inj hl
          obtain ⟨xs, n', _, _, _, hxs, hfs⟩ := DataW.trod_struct hu ht
          have hf : ∀ f ∈ fs.toList, ∃ n y, DataW.trod enc P w base spare held n f.type ((cs.drop f.offset).take (P.cellsOf f.type)) = some y := by
            intro f hm
            obtain ⟨i, hi, rfl⟩ := List.mem_iff_getElem.1 hm
            have hi' : i < fs.size := by simpa using hi
            have := hfs i fs[i] (by simp [hi'])
            rw [List.getElem?_eq_getElem (by omega)] at this
            exact ⟨n', _, this⟩
          have := fieldsLv_tells (H := H) (enc := enc) (w := w) (base := base) (spare := spare) (held := held) (cs := cs) (fun t l cs' h1 h2 h3 => leavesOf_tells m t l cs' h1 h2 h3) fs.toList 0 l1 h1 (by omega) hf
          simpa using this
        · cases hl
    · cases hl
end
end Go.Proofs.Ytpgffmnbdggpnaa
end
section
namespace Go.Proofs.Ytpgffmnbdggpnaa.PCv
open Go.RowKit Go.Proofs.YtpgffmnbdggpnaaW.PrintWords
instance : Inhabited S53 := ⟨z53⟩
def WfS53 (x : S53) : Prop := (Lit.int .i64 x.f0).wf = true ∧ (Lit.int .u64 x.f1).wf = true ∧ (Lit.int .u64 x.f2).wf = true ∧ (Lit.int .u64 x.f3).wf = true ∧ (Lit.int .u64 x.f4).wf = true ∧ (Lit.int .u64 x.f5).wf = true ∧ (Lit.int .u64 x.f6).wf = true ∧ (Lit.int .u64 x.f7).wf = true ∧ (Lit.int .u64 x.f8).wf = true ∧ (Lit.int .u64 x.f11).wf = true
theorem dec53 (w : World) (cs : List Value) (lv : IsLv [some .i64, some .u64, some .u64, some .u64, some .u64, some .u64, some .u64, some .u64, some .u64, none, none, some .u64] cs) : ∃ y : S53, k53.K w y cs ∧ WfS53 y := by
  obtain ⟨a0, l0, rfl, w0, lv0⟩ := lv_int lv
  obtain ⟨a1, l1, rfl, w1, lv1⟩ := lv_int lv0
  obtain ⟨a2, l2, rfl, w2, lv2⟩ := lv_int lv1
  obtain ⟨a3, l3, rfl, w3, lv3⟩ := lv_int lv2
  obtain ⟨a4, l4, rfl, w4, lv4⟩ := lv_int lv3
  obtain ⟨a5, l5, rfl, w5, lv5⟩ := lv_int lv4
  obtain ⟨a6, l6, rfl, w6, lv6⟩ := lv_int lv5
  obtain ⟨a7, l7, rfl, w7, lv7⟩ := lv_int lv6
  obtain ⟨a8, l8, rfl, w8, lv8⟩ := lv_int lv7
  obtain ⟨a9, l9, rfl, lv9⟩ := lv_bool lv8
  obtain ⟨a10, l10, rfl, lv10⟩ := lv_bool lv9
  obtain ⟨a11, l11, rfl, w11, lv11⟩ := lv_int lv10
  have e_ := lv_nil lv11
  subst e_
  exact ⟨⟨a0, a1, a2, a3, a4, a5, a6, a7, a8, a9, a10, a11⟩, k53_mk w ⟨a0, a1, a2, a3, a4, a5, a6, a7, a8, a9, a10, a11⟩, w0, w1, w2, w3, w4, w5, w6, w7, w8, w11⟩
end Go.Proofs.Ytpgffmnbdggpnaa.PCv
end
section
namespace Go.Proofs.Ytpgffmnbdggpnaa.PCv
open Go.RowKit Go.Proofs.YtpgffmnbdggpnaaW.PrintWords Go.Proofs.YtpgffmnbdggpnaaW.PrintLast Go.Proofs.YtpgffmnbdggpnaaW.PrintMore
set_option linter.unusedVariables false
set_option linter.unusedSimpArgs false
set_option maxRecDepth 100000
set_option maxHeartbeats 8000000
@[reducible] def K36 (x0 : Int) (x1 : Int) (x2 : Int) (x3 : Int) (x4 : Int) (x5 : Int) (x6 : Int) (x7 : Int) (x8 : Int) (x9 : Int) (x10 : Int) (x11 : Int) (x12 : Int) (x13 : Int) (x14 : Int) (x15 : Bool) (x16 : Int) (x17 : Int) (x18 : Int) (x19 : Int) (x20 : Int) (x21 : Value) (x22 : Int) (x23 : Int) (x24 : Int) (x25 : Int) (x26 : Int) (x27 : Int) (x28 : Int) (x29 : Int) (x30 : Int) (x31 : Int) (x32 : Int) (x33 : Int) (x34 : Int) (x35 : Int) (x36 : Int) (x37 : Int) (x38 : Bool) (x39 : Int) (x40 : Int) : List Value := [.int .i64 x0, .int .u64 x1, .int .u64 x2, .int .u64 x3, .int .u64 x4, .int .i64 x5, .int .u64 x6, .int .u64 x7, .int .u64 x8, .int .u64 x9, .int .u64 x10, .int .u64 x11, .int .u64 x12, .int .u64 x13, .int .u64 x14, .bool x15, .int .u64 x16, .int .u64 x17, .int .u64 x18, .int .u64 x19, .int .i64 x20, x21, .int .u64 x22, .int .u64 x23, .int .u64 x24, .int .u64 x25, .int .u64 x26, .int .u64 x27, .int .u64 x28, .int .u64 x29, .int .u64 x30, .int .u64 x31, .int .u64 x32, .int .u64 x33, .int .u64 x34, .int .u64 x35, .int .u64 x36, .int .u64 x37, .bool x38, .int .u64 x39, .int .u64 x40]
@[reducible] def K0  : List Value := K36 0 0 0 0 0 0 0 0 0 0 0 0 0 0 0 false 0 0 0 0 0 (.slice none 0 0) 0 0 0 0 0 0 0 0 0 0 0 0 0 0 0 0 false 0 0
@[reducible] def K1 (x1 : Int) (x2 : Int) (x3 : Int) (x4 : Int) (x5 : Int) (x6 : Int) (x7 : Int) (x8 : Int) (x9 : Int) (x10 : Int) (x11 : Int) (x39 : Int) (x40 : Int) : List Value := K36 1 x1 x2 x3 x4 x5 x6 x7 x8 x9 x10 x11 0 0 0 false 0 0 0 0 0 (.slice none 0 0) 0 0 0 0 0 0 0 0 0 0 0 0 0 0 0 0 false x39 x40
@[reducible] def K2 (x5 : Int) (x6 : Int) (x7 : Int) (x8 : Int) (x9 : Int) (x10 : Int) (x11 : Int) (x12 : Int) (x13 : Int) (x14 : Int) (x15 : Bool) (x16 : Int) (x17 : Int) (x18 : Int) (x19 : Int) (x39 : Int) (x40 : Int) : List Value := K36 2 0 0 0 0 x5 x6 x7 x8 x9 x10 x11 x12 x13 x14 x15 x16 x17 x18 x19 0 (.slice none 0 0) 0 0 0 0 0 0 0 0 0 0 0 0 0 0 0 0 false x39 x40
@[reducible] def K3 (x5 : Int) (x6 : Int) (x7 : Int) (x8 : Int) (x9 : Int) (x10 : Int) (x11 : Int) (x20 : Int) (x21 : Value) (x22 : Int) (x23 : Int) (x24 : Int) (x25 : Int) (x26 : Int) (x27 : Int) (x28 : Int) (x29 : Int) (x39 : Int) (x40 : Int) : List Value := K36 3 0 0 0 0 x5 x6 x7 x8 x9 x10 x11 0 0 0 false 0 0 0 0 x20 x21 x22 x23 x24 x25 x26 x27 x28 x29 0 0 0 0 0 0 0 0 false x39 x40
@[reducible] def K4 (x5 : Int) (x6 : Int) (x7 : Int) (x8 : Int) (x9 : Int) (x10 : Int) (x11 : Int) (x30 : Int) (x31 : Int) (x32 : Int) (x33 : Int) (x34 : Int) (x35 : Int) (x36 : Int) (x37 : Int) (x38 : Bool) (x39 : Int) (x40 : Int) : List Value := K36 4 0 0 0 0 x5 x6 x7 x8 x9 x10 x11 0 0 0 false 0 0 0 0 0 (.slice none 0 0) 0 0 0 0 0 0 0 0 x30 x31 x32 x33 x34 x35 x36 x37 x38 x39 x40
theorem zA_ {α : Type} {l : List α} {i : Nat} {a : α} : l.toArray.setIfInBounds i a = (l.set i a).toArray := List.setIfInBounds_toArray ..
theorem z0_ {α : Type} {x a : α} {l : List α} : (x :: l).set 0 a = a :: l := List.set_cons_zero ..
theorem z1_ {α : Type} {n : Nat} {x a : α} {l : List α} : (x :: l).set (n + 1) a = x :: l.set n a := List.set_cons_succ ..
theorem wdiv {x : Int} (h : W64 x) (n : Int) (hn : 1 ≤ n) : IntKind.u64.wrap (Int.tdiv x n) = x / n := by
 rw [Int.tdiv_eq_ediv_of_nonneg h.1]
 have h1 := Int.ediv_nonneg h.1 (show (0 : Int) ≤ n by omega)
 have h2 := Int.ediv_le_self n h.1
 exact w64 (by omega)
theorem div_w {x : Int} (h : W64 x) (n : Int) (hn : 1 ≤ n) : W64 (x / n) := by
 have h1 := Int.ediv_nonneg h.1 (show (0 : Int) ≤ n by omega)
 have h2 := Int.ediv_le_self n h.1
 omega
theorem min_w {a b : Int} (ha : W64 a) (hb : W64 b) : W64 (min a b) := by omega
theorem max_w {a b : Int} (ha : W64 a) (hb : W64 b) : W64 (max a b) := by omega
theorem lt_of_le {a b : Int} (h : decide (b ≤ a) = true) : decide (a < b) = false := by simp at *; omega
theorem lt_of_nle {a b : Int} (h : decide (b ≤ a) = false) : decide (a < b) = true := by simp at *; omega
end Go.Proofs.Ytpgffmnbdggpnaa.PCv
end
section
namespace Go.Proofs.Ytpgffmnbdggpnaa.PCv
open Go.RowKit Go.Proofs.YtpgffmnbdggpnaaW.PrintWords Go.Proofs.YtpgffmnbdggpnaaW.PrintLast Go.Proofs.YtpgffmnbdggpnaaW.PrintMore
set_option linter.unusedVariables false
set_option linter.unusedSimpArgs false
theorem elem53 {w : World} {A : Option Addr} {l : List S53} (h : Kd.C k53 w A l.length l) (hW : ∀ x ∈ l, WfS53 x) {i : Int} (h0 : 0 ≤ i) (h1 : i < (l.length : Int)) : ∃ (ad : Addr) (y0 : Int) (y1 : Int) (y2 : Int) (y3 : Int) (y4 : Int) (y5 : Int) (y6 : Int) (y7 : Int) (y8 : Int) (y9 : Bool) (y10 : Bool) (y11 : Int), A = some ad ∧ W64 y1 ∧ W64 y2 ∧ W64 y3 ∧ W64 y4 ∧ W64 y5 ∧ W64 y6 ∧ W64 y7 ∧ W64 y8 ∧ W64 y11 ∧ RowAt w (ad.add (i.toNat * 12)) [.int .i64 y0, .int .u64 y1, .int .u64 y2, .int .u64 y3, .int .u64 y4, .int .u64 y5, .int .u64 y6, .int .u64 y7, .int .u64 y8, .bool y9, .bool y10, .int .u64 y11] ∧ w.cell? (ad.add (i.toNat * 12)) = some (.int .i64 y0) := by
 obtain ⟨ad, c, e, _, hK, hc0⟩ := Kd.C_get h z53 i h0 h1
 obtain rfl := k53_open hK
 have hm : l.getD i.toNat z53 ∈ l := by
  have hi : i.toNat < l.length := by omega
  rw [List.getD_eq_getElem?_getD, List.getElem?_eq_getElem hi]
  exact List.getElem_mem hi
 obtain ⟨v0, v1, v2, v3, v4, v5, v6, v7, v8, v11⟩ := hW _ hm
 refine ⟨ad, (l.getD i.toNat z53).f0, (l.getD i.toNat z53).f1, (l.getD i.toNat z53).f2, (l.getD i.toNat z53).f3, (l.getD i.toNat z53).f4, (l.getD i.toNat z53).f5, (l.getD i.toNat z53).f6, (l.getD i.toNat z53).f7, (l.getD i.toNat z53).f8, (l.getD i.toNat z53).f9, (l.getD i.toNat z53).f10, (l.getD i.toNat z53).f11, e, wf64 v1, wf64 v2, wf64 v3, wf64 v4, wf64 v5, wf64 v6, wf64 v7, wf64 v8, wf64 v11, ⟨fun j u hu => ?_⟩, hc0 0 _ rfl⟩
 have := hc0 j u hu
 have ha : (ad.add (i.toNat * 12)).add j = ad.add (i.toNat * 12 + j) := by
  rcases Nat.eq_zero_or_pos j with rfl | hj
  ·simp [Addr.add]
  ·rw [add_field _ _ _ hj]; simp [Addr.add, Nat.ne_of_gt hj]
 rw [ha]; exact this
end Go.Proofs.Ytpgffmnbdggpnaa.PCv
end
section
namespace Go.Proofs.Ytpgffmnbdggpnaa
open Go.ChangeShapes Go.WideShapes Go.ChangeAt Go.RowKit Go.Proofs.YtpgffmnbdggpnaaW.PrintWords
theorem open_structs {H : Type} {enc : TypeId × Value → H} {P : Program} {w : World} {base : Nat} {spare : Nat → Bool} {held : Bool} {α : Type} [Inhabited α] {d : Kd α} {Wf : α → Prop} {ls : List (Option IntKind)} {t e : TypeId} {m fuel : Nat} {A : Option Addr} {len cap : Nat} {x : DataW H × List MemPlace}
    (hdec : ∀ cs, IsLv ls cs → ∃ y, d.K w y cs ∧ Wf y) (ht : P.underlying t = some (.slice e)) (hl : leavesOf P m e = some ls) (hs : d.sz = P.cellsOf e)
    (h : DataW.trod enc P w base spare held fuel t [.slice A len cap] = some x) : ∃ ys : List α, ys.length = len ∧ len ≤ cap ∧ d.C w A len ys ∧ ∀ y ∈ ys, Wf y := by
  rcases Go.Deep.open_slice ht h with ⟨h0, _⟩ | ⟨a, len', cap', m', n, D, Pl, hcs, _, hle, hmx, hm, _, hx⟩
  · simp only [List.cons.injEq, Value.slice.injEq, and_true] at h0
    obtain ⟨rfl, rfl, rfl⟩ := h0
    exact ⟨[], rfl, Nat.le_refl _, Kd.C_nil d w, by simp⟩
  · simp only [List.cons.injEq, Value.slice.injEq, and_true] at hcs
    obtain ⟨rfl, rfl, rfl⟩ := hcs
    have hlm : len ≤ m' := by rw [hm]; split <;> omega
    have each : ∀ i, i < len → ∃ y, (∃ cs, d.K w y cs ∧ ∀ j u, cs[j]? = some u → w.cell? (a.add (i * d.sz + j)) = some u) ∧ Wf y := by
      intro i hi
      obtain ⟨cs', h1, h2⟩ := hx i (by omega)
      obtain ⟨_, hlen, hcell⟩ := World.cells?_some h1
      obtain ⟨y, hK, hW⟩ := hdec cs' (leavesOf_tells m e ls cs' hl hlen ⟨_, _, h2⟩)
      refine ⟨y, ⟨cs', hK, fun j u hu => ?_⟩, hW⟩
      have hj : j < P.cellsOf e := by
        have := (List.getElem?_eq_some_iff.1 hu).1
        omega
      rw [hs, ← Go.Deep.add_add, hcell j hj, hu]
    obtain ⟨Y, hY⟩ := Go.Deep.choose_lt each
    have hmax : cap ≤ 9223372036854775807 := hmx
    refine ⟨(List.range len).map Y, by simp, hle, ⟨by simp, by omega, fun _ => ⟨a, rfl, fun j p hp => ?_⟩⟩, fun y hy => ?_⟩
    · obtain ⟨h1, h2⟩ := List.getElem?_eq_some_iff.1 hp
      have hj : j < len := by simpa using h1
      have e : p = Y j := by rw [← h2]; simp
      subst e
      obtain ⟨⟨cs, hK, hcell⟩, _⟩ := hY j hj
      exact ⟨cs, d.K_len hK, hK, hcell⟩
    · obtain ⟨i, hi, rfl⟩ := List.mem_map.1 hy
      exact (hY i (List.mem_range.1 hi)).2
end Go.Proofs.Ytpgffmnbdggpnaa
end
