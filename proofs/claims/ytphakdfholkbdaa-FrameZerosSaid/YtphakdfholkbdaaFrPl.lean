import Derived.Outline
import Derived.Handy
import Derived.Recover
import Derived.WalkSmall
import Derived.Laws.Externs
import Derived.Laws.CopyOwn
import Derived.Lib.AppendZerosOnto
import Derived.Lib.Overlaps
import Derived.Deep.RegionLaw
import Derived.Test.YtphakdfholkbdaaPFrax0
import Derived.Test.YtphakdfholkbdaaNum
import Derived.Test.YtphakdfholkbdaaSeg
import Derived.Test.YtphakdfholkbdaaFraB
import Derived.Test.YtphakdfholkbdaaFrPi1
namespace Go.Proofs.Ytphakdfholkbdaa
open Go.Proofs.Ytphakdfholkbdaa.PFra Go.RowKit Go.Proofs.YtphakdfholkbdaaW.PrintWords Go.Proofs.YtphakdfholkbdaaW.PrintLast Go.Proofs.YtphakdfholkbdaaW.PrintMore
set_option maxRecDepth 100000
set_option maxHeartbeats 4000000
set_option linter.unusedVariables false
set_option linter.unusedSimpArgs false
theorem bytes_drop {l : List Int} (h : bytesOk l = true) (n : Nat) : bytesOk (l.drop n) = true := List.all_eq_true.2 fun x hx => List.all_eq_true.1 h x (List.mem_of_mem_drop hx)
theorem bytes_mem {l : List Int} (h : bytesOk l = true) {x : Int} (hx : x ∈ l) : 0 ≤ x ∧ x < 256 := by
  have := List.all_eq_true.1 h x hx
  simpa using this
theorem foldl_lt : ∀ (t : List Int) (v B : Int), (∀ x ∈ t, 0 ≤ x ∧ x < 256) → 0 ≤ v → v < B → 0 ≤ t.foldl (fun v x => v * 256 + x) v ∧ t.foldl (fun v x => v * 256 + x) v < B * 256 ^ t.length
  | [], v, B, _, h0, h1 => by simpa using ⟨h0, h1⟩
  | x :: t, v, B, h, h0, h1 => by
    have hx := h x (by simp)
    have := foldl_lt t (v * 256 + x) (B * 256) (fun y hy => h y (by simp [hy])) (by omega) (by omega)
    rw [List.foldl_cons, List.length_cons, Int.pow_succ', ← Int.mul_assoc]
    exact this
theorem uGetN_cases {l : List Int} (h : bytesOk l = true) : uGetN l = 1 ∨ uGetN l = 2 ∨ uGetN l = 4 ∨ uGetN l = 8 := by
  have h0 : 0 ≤ rd l 0 ∧ rd l 0 < 256 := by
    cases l with
    | nil => exact ⟨by decide, by decide⟩
    | cons x t => exact bytes_mem h (x := x) (by simp)
  have h1 : (rd l 0 / 64).toNat = 0 ∨ (rd l 0 / 64).toNat = 1 ∨ (rd l 0 / 64).toNat = 2 ∨ (rd l 0 / 64).toNat = 3 := by omega
  unfold uGetN
  rcases h1 with e | e | e | e <;> rw [e] <;> simp
theorem uGetV_lt {l : List Int} (h : bytesOk l = true) : 0 ≤ uGetV l ∧ uGetV l < 4611686018427387904 := by
  have h0 : 0 ≤ rd l 0 % 64 ∧ rd l 0 % 64 < 64 := by omega
  have hf := foldl_lt ((l.take (uGetN l)).drop 1) (rd l 0 % 64) 64 (fun x hx => bytes_mem h (List.mem_of_mem_take (List.mem_of_mem_drop hx))) h0.1 h0.2
  have hl : ((l.take (uGetN l)).drop 1).length ≤ 7 := by
    rw [List.length_drop, List.length_take]
    have := uGetN_cases h
    omega
  refine ⟨hf.1, Int.lt_of_lt_of_le hf.2 ?_⟩
  generalize ((l.take (uGetN l)).drop 1).length = n at hl
  have : n = 0 ∨ n = 1 ∨ n = 2 ∨ n = 3 ∨ n = 4 ∨ n = 5 ∨ n = 6 ∨ n = 7 := by omega
  rcases this with rfl | rfl | rfl | rfl | rfl | rfl | rfl | rfl <;> decide
theorem uNum_some {l l' : List Int} {v : Int} (hb : bytesOk l = true) (h : uNum l = some (v, l')) : (0 ≤ v ∧ v < 4611686018427387904) ∧ bytesOk l' = true ∧ l'.length < l.length ∧ l' = l.drop (uGetN l) ∧ v = uGetV l ∧ uGetN l ≤ l.length ∧ 0 < uGetN l := by
  have hn := uGetN_cases hb
  unfold uNum at h
  rcases uGet_cases l with e | ⟨e, hle⟩
  · rw [e] at h; simp at h
  · rw [e] at h
    simp only [if_true, Option.some.injEq, Prod.mk.injEq] at h
    obtain ⟨rfl, rfl⟩ := h
    exact ⟨uGetV_lt hb, bytes_drop hb _, by rw [List.length_drop]; omega, rfl, rfl, hle, by omega⟩
/-- The rounds in which an ack's spans are read, the least one last: so many, below a top. -/
def rRounds : Nat → Int → List S47 → List Int → Option (List S47 × List Int)
  | 0, _, s, l => some (s, l)
  | k + 1, tp, [], l => (uNum l).bind fun r => if r.1 + 1 ≤ tp then rRounds k tp [⟨tp - (r.1 + 1), tp⟩] r.2 else none
  | k + 1, _, x :: s, l => (uNum l).bind fun r => if r.1 + 1 < x.f0 then ((uNum r.2).bind fun r2 => if r2.1 + 1 ≤ x.f0 - (r.1 + 1) then rRounds k (x.f0 - (r.1 + 1)) (⟨x.f0 - (r.1 + 1) - (r2.1 + 1), x.f0 - (r.1 + 1)⟩ :: x :: s) r2.2 else none) else none
def rSp (l : List Int) : Option (List S47 × List Int) := (uNum l).bind fun r => if 1 ≤ r.1 ∧ r.1 ≤ 32 then ((uNum r.2).bind fun r2 => rRounds r.1.toNat (r2.1 + 1) [] r2.2) else none
/-- What has come to be since a world, but for two blocks, which may have turned. -/
structure Kept2 (a b : Nat) (w w' : World) : Prop where
  os : w'.os = w.os
  tape : w'.tape = w.tape
  output : w'.output = w.output
  size : w.heap.size ≤ w'.heap.size
  block : ∀ k, k < w.heap.size → k ≠ a → k ≠ b → w'.heap[k]? = w.heap[k]?
theorem Kept2.refl (a b : Nat) (w : World) : Kept2 a b w w := ⟨rfl, rfl, rfl, Nat.le_refl _, fun _ _ _ _ => rfl⟩
theorem Kept2.trans {a b : Nat} {w w1 w2 : World} (h : Kept2 a b w w1) (h2 : Kept2 a b w1 w2) : Kept2 a b w w2 := ⟨h2.os.trans h.os, h2.tape.trans h.tape, h2.output.trans h.output, Nat.le_trans h.size h2.size, fun k hk ha hb => (h2.block k (Nat.lt_of_lt_of_le hk h.size) ha hb).trans (h.block k hk ha hb)⟩
theorem Kept2.below {a b : Nat} {w w1 w2 : World} (h : Kept2 a b w w1) (h2 : Below w1.heap.size w1 w2) : Kept2 a b w w2 := h.trans ⟨h2.os, h2.tape, h2.output, h2.size, fun k hk _ _ => h2.block k hk⟩
theorem Kept2.one {a b : Nat} {w w1 w2 : World} (h : Kept2 a b w w1) (h2 : Turned a w1 w2) : Kept2 a b w w2 := h.trans ⟨h2.out.os, h2.out.tape, h2.out.output, h2.out.size, fun k hk ha _ => h2.out.block k hk (fun e => ha (Option.some.inj e))⟩
theorem Kept2.two {a b : Nat} {w w1 w2 : World} (h : Kept2 a b w w1) (h2 : Turned b w1 w2) : Kept2 a b w w2 := h.trans ⟨h2.out.os, h2.out.tape, h2.out.output, h2.out.size, fun k hk _ hb => h2.out.block k hk (fun e => hb (Option.some.inj e))⟩
theorem Kept2.set {a b i : Nat} {w w1 : World} {u : Value} (h : Kept2 a b w w1) : Kept2 a b w (w1.setCell ⟨b, i, none⟩ u) := h.two (Turned.refl b w1).set
theorem Kept2.drewN {a b : Nat} {w w1 : World} (h : Kept2 a b w w1) (n : Nat) : Kept2 a b w (w1.drewN n) := h.two ((Turned.refl b w1).drewN n)
theorem Kept2.row {a b : Nat} {w w1 w2 : World} {o : Option Nat} (h : Kept2 a b w w1) (h2 : w1.grownBy w2 o) (ho : ∀ k, o = some k → w.heap.size ≤ k) : Kept2 a b w w2 := ⟨h2.os.trans h.os, h2.tape.trans h.tape, h2.output.trans h.output, Nat.le_trans h.size h2.size, fun k hk ha hb => (h2.block k (Nat.lt_of_lt_of_le hk h.size) (fun e => by have := ho k e.symm; omega)).trans (h.block k hk ha hb)⟩
theorem Since.kept {w0 w w1 : World} {a b : Nat} (h : Since w0 w) (h2 : Kept2 a b w w1) (ha : w0.heap.size ≤ a) (hb : w0.heap.size ≤ b) : Since w0 w1 := ⟨h.out.trans ⟨h2.os, h2.tape, h2.output, h2.size, fun k hk => h2.block k (Nat.lt_of_lt_of_le hk h.le) (by omega) (by omega)⟩⟩
theorem Since.row {w0 w w1 : World} {o : Option Nat} (h : Since w0 w) (h2 : w.grownBy w1 o) (ho : ∀ k, o = some k → w0.heap.size ≤ k) : Since w0 w1 := ⟨h.out.trans ⟨h2.os, h2.tape, h2.output, h2.size, fun k hk => h2.block k (Nat.lt_of_lt_of_le hk h.le) (fun e => by have := ho k e.symm; omega)⟩⟩
theorem Blk.turned {w w1 : World} {g k : Nat} {t : TypeId} {l : List Value} (h : Blk w g t l) (hT : Turned k w w1) (hne : g ≠ k) : Blk w1 g t l := h.grown hT.out hne
theorem Blk.row {w w1 : World} {g : Nat} {t : TypeId} {l : List Value} {o : Option Nat} (h : Blk w g t l) (hg : w.grownBy w1 o) (hne : some g ≠ o) : Blk w1 g t l := ⟨blk_grown h.out hg hne⟩
theorem Src.lt {w0 w : World} {sb : Nat} {l : List Int} (h : Src w0 w sb l) : sb < w.heap.size := by obtain ⟨A, c, hB, _⟩ := h.out; exact hB.lt
theorem Src.below {w0 w w1 : World} {sb : Nat} {l : List Int} (h : Src w0 w sb l) (hb : Below w.heap.size w w1) : Src w0 w1 sb l := by obtain ⟨A, c, hB, hr⟩ := h.out; exact ⟨h.ge, A, c, hB.below hb, hr⟩
theorem Src.row {w0 w w1 : World} {sb : Nat} {l : List Int} {o : Option Nat} (h : Src w0 w sb l) (hg : w.grownBy w1 o) (hne : some sb ≠ o) : Src w0 w1 sb l := by obtain ⟨A, c, hB, hr⟩ := h.out; exact ⟨h.ge, A, c, hB.row hg hne, hr⟩
theorem Src.setFar {w0 w : World} {sb k i : Nat} {u : Value} {l : List Int} (h : Src w0 w sb l) (hne : sb ≠ k) : Src w0 (w.setCell ⟨k, i, none⟩ u) sb l := by obtain ⟨A, c, hB, hr⟩ := h.out; exact ⟨h.ge, A, c, hB.setFar hne, hr⟩
theorem Src.drewN {w0 w : World} {sb : Nat} {l : List Int} (h : Src w0 w sb l) (n : Nat) : Src w0 (w.drewN n) sb l := by obtain ⟨A, c, hB, hr⟩ := h.out; exact ⟨h.ge, A, c, hB.drewN n, hr⟩
theorem Src.drew {w0 w : World} {sb : Nat} {l : List Int} (h : Src w0 w sb l) : Src w0 w.drew sb l := by obtain ⟨A, c, hB, hr⟩ := h.out; exact ⟨h.ge, A, c, hB.drew, hr⟩
theorem Kept2.drew {a b : Nat} {w w1 : World} (h : Kept2 a b w w1) : Kept2 a b w w1.drew := h.two (Turned.refl b w1).drew
theorem Src.ne {w0 w : World} {sb g t : Nat} {l : List Int} {cs : List Value} (h : Src w0 w sb l) (hB : Blk w g t cs) (ht : t ≠ 73) : g ≠ sb := by obtain ⟨A, c, hS, _⟩ := h.out; exact blk_ne_of hB hS ht
theorem SR.ne {base : Nat} {w : World} {v : Value} {l : List S47} {g t : Nat} {cs : List Value} (h : SR base w v l) (hB : Blk w g t cs) (ht : t ≠ 47) : some g ≠ v.ownBlock := fun e => by
  obtain ⟨cells, hc⟩ := own_typed h.out g e.symm
  have := hB.out.symm.trans hc
  injection this with this
  injection this with _ this _
  exact ht this
theorem SR.ge {base : Nat} {w : World} {v : Value} {l : List S47} (h : SR base w v l) : ∀ k, v.ownBlock = some k → base ≤ k := Kd.R_base h.to
theorem SR.setFar {base : Nat} {w : World} {v : Value} {l : List S47} {g t i : Nat} {cs : List Value} {u : Value} (h : SR base w v l) (hB : Blk w g t cs) (ht : t ≠ 47) : SR base (w.setCell ⟨g, i, none⟩ u) v l := h.grown hB ht ((Turned.refl g w).set).out
theorem SR.turnedS {base : Nat} {w0 w w1 : World} {v : Value} {l : List S47} {sb : Nat} {bs : List Int} (h : SR base w v l) (hS : Src w0 w sb bs) (hT : Turned sb w w1) : SR base w1 v l := by obtain ⟨A, c, hB, _⟩ := hS.out; exact h.grown hB (by decide) hT.out
theorem Src.away {base : Nat} {w0 w : World} {v : Value} {l : List S47} {sb : Nat} {bs : List Int} (hS : Src w0 w sb bs) (h : SR base w v l) : some sb ≠ v.ownBlock := by obtain ⟨A, c, hB, _⟩ := hS.out; exact h.ne hB (by decide)
section
variable {P : Program} {ops : Array Oper} {rest : List Oper} {o : Oper} {a : Act} {Q : Exit → Act → World → Prop} {W : World}
/-- A literal row is made. -/
theorem seg_lit (hgd : o.guard = none) {N : Tmp} (_hd : o.dst = some N) (l : List Value) (t : TypeId) (n : Nat)
    (hrun : (execOp a.eval o).run P W = .ok (.value (.slice (some ⟨W.heap.size, 0, none⟩) n n)) (W.alloc (.cells l.toArray t (0, 0))))
    (h : ∀ g, g = W.heap.size → ∀ w1, Blk w1 g t l → Below W.heap.size W w1 → wpList P ops Q rest (a.put o.dst (.slice (some ⟨g, 0, none⟩) n n)) w1) : wpList P ops Q (o :: rest) a W := by
  refine wpList_plain hgd fun K hK => ?_
  unfold Oper.wp
  rw [hrun]
  exact hK _ _ (h _ rfl _ (blkNew W l t) (below_alloc (Below.refl _ _) _))
end

end Go.Proofs.Ytphakdfholkbdaa
