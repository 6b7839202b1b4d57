import Derived.Outline
import Derived.Handy
import Derived.Recover
import Derived.WalkSmall
import Derived.Laws.Externs
import Derived.Laws.CopyOwn
import Derived.Lib.AppendZerosOnto
import Derived.Lib.Overlaps
import Derived.Deep.RegionLaw
import Derived.Test.YtphakdfholkbdaaPFrax0
import Derived.Test.YtphakdfholkbdaaNum
import Derived.Test.YtphakdfholkbdaaSeg
import Derived.Test.YtphakdfholkbdaaFraB
import Derived.Test.YtphakdfholkbdaaFrPm
namespace Go.Proofs.Ytphakdfholkbdaa
open Go.Proofs.Ytphakdfholkbdaa.PFra Go.RowKit Go.Proofs.YtphakdfholkbdaaW.PrintWords Go.Proofs.YtphakdfholkbdaaW.PrintLast Go.Proofs.YtphakdfholkbdaaW.PrintMore
set_option maxRecDepth 100000
set_option maxHeartbeats 4000000
set_option linter.unusedVariables false
set_option linter.unusedSimpArgs false
theorem rRounds_len : ∀ (k : Nat) (tp : Int) (s : List S47) (l : List Int) {s' : List S47} {l' : List Int}, bytesOk l = true → rRounds k tp s l = some (s', l') → s'.length = s.length + k ∧ bytesOk l' = true ∧ l'.length ≤ l.length
  | 0, tp, s, l, s', l', hb, h => by
    simp only [rRounds, Option.some.injEq, Prod.mk.injEq] at h
    obtain ⟨rfl, rfl⟩ := h
    exact ⟨rfl, hb, Nat.le_refl _⟩
  | k + 1, tp, [], l, s', l', hb, h => by
    unfold rRounds at h
    cases hN : uNum l with
    | none => rw [hN] at h; cases h
    | some r =>
      rw [hN, Option.bind_some] at h
      obtain ⟨v, l1⟩ := r
      obtain ⟨_, hb1, hl1, _⟩ := uNum_some hb hN
      split at h
      · have := rRounds_len k _ _ l1 hb1 h
        simp only [List.length_cons, List.length_nil] at this ⊢
        exact ⟨by omega, this.2.1, by omega⟩
      · cases h
  | k + 1, tp, x :: s, l, s', l', hb, h => by
    unfold rRounds at h
    cases hN : uNum l with
    | none => rw [hN] at h; cases h
    | some r =>
      rw [hN, Option.bind_some] at h
      obtain ⟨v, l1⟩ := r
      obtain ⟨_, hb1, hl1, _⟩ := uNum_some hb hN
      split at h
      · cases hN1 : uNum l1 with
        | none => rw [hN1] at h; cases h
        | some r =>
          rw [hN1, Option.bind_some] at h
          obtain ⟨v, l2⟩ := r
          obtain ⟨_, hb2, hl2, _⟩ := uNum_some hb1 hN1
          split at h
          · have := rRounds_len k _ _ l2 hb2 h
            simp only [List.length_cons] at this ⊢
            exact ⟨by omega, this.2.1, by omega⟩
          · cases h
      · cases h
theorem rSp_len {l l' : List Int} {s : List S47} (hb : bytesOk l = true) (h : rSp l = some (s, l')) : s.length ≤ 32 ∧ bytesOk l' = true ∧ l'.length ≤ l.length := by
  unfold rSp at h
  cases hN : uNum l with
  | none => rw [hN] at h; cases h
  | some r =>
    rw [hN, Option.bind_some] at h
    obtain ⟨v, l1⟩ := r
    obtain ⟨_, hb1, hl1, _⟩ := uNum_some hb hN
    split at h
    · rename_i hg
      cases hN1 : uNum l1 with
      | none => rw [hN1] at h; cases h
      | some r =>
        rw [hN1, Option.bind_some] at h
        obtain ⟨v, l2⟩ := r
        obtain ⟨_, hb2, hl2, _⟩ := uNum_some hb1 hN1
        obtain ⟨h1, h2, h3⟩ := rRounds_len _ _ _ _ hb2 h
        simp only [List.length_nil] at h1
        simp only at hg
        exact ⟨by omega, h2, by omega⟩
    · cases h
/-- Numbers put into a frame's fields. -/
def upd (f : Nat → Int) (o : Nat) (v : Int) : Nat → Int := fun j => if j = o then v else f j
def rNums : List Nat → (Nat → Int) → List Int → Option ((Nat → Int) × List Int)
  | [], f, l => some (f, l)
  | o :: os, f, l => (uNum l).bind fun r => rNums os (upd f o r.1) r.2
abbrev FrV := Int × (Nat → Int) × Bool × List Int × List S47 × List Int
def rChk (K : Int) (fin : Bool) (s : List S47) (f : Nat → Int) (d l : List Int) : Option FrV := if uChk K (f 1) (f 2) (f 3) (f 4) (f 5) (f 6) fin d.length s = 0 then some (K, f, fin, d, s, l) else none
def rEnd (K : Int) (fin : Bool) (s : List S47) (f : Nat → Int) (l : List Int) : Option FrV :=
  if K = 14 then (uNum l).bind fun r => if r.1 ≤ r.2.length then rChk K fin s f (r.2.take r.1.toNat) (r.2.drop r.1.toNat) else none else rChk K fin s f [] l
def rKind (K : Int) (fin : Bool) (l : List Int) : Option FrV :=
  match fOffs K with
  | none => none
  | some os => if K = 2 ∨ K = 3 then (rSp l).bind fun r => (rNums os (fun _ => 0) r.2).bind fun q => rEnd K fin r.1 q.1 q.2 else (rNums os (fun _ => 0) l).bind fun q => rEnd K fin [] q.1 q.2
/-- The frame that bytes begin with, and what is left of them. -/
def rFr (l : List Int) : Option FrV := (uNum l).bind fun r => if r.1 ≤ 30 then (if r.1 = 15 then rKind 14 true r.2 else rKind r.1 false r.2) else none
/-- A reader's cells. -/
def cellsR (sb : Nat) (K : Int) (f : Nat → Int) (fin : Bool) (d s : Value) : List Value := [.pointer (some ⟨sb, 0, none⟩), .int .i64 K, .int .u64 (f 1), .int .u64 (f 2), .int .u64 (f 3), .int .u64 (f 4), .int .u64 (f 5), .int .u64 (f 6), .bool fin, d, s]
theorem cellsR_set (sb : Nat) (K : Int) (f : Nat → Int) (fin : Bool) (d s : Value) (o : Nat) (v : Int) (h : 1 ≤ o) (h' : o ≤ 6) : (cellsR sb K f fin d s).set (o + 1) (.int .u64 v) = cellsR sb K (upd f o v) fin d s := by
  have : o = 1 ∨ o = 2 ∨ o = 3 ∨ o = 4 ∨ o = 5 ∨ o = 6 := by omega
  rcases this with rfl | rfl | rfl | rfl | rfl | rfl <;> rfl
theorem cellsR_at (sb : Nat) (K : Int) (f : Nat → Int) (fin : Bool) (d s : Value) (o : Nat) (h : 1 ≤ o) (h' : o ≤ 6) : (cellsR sb K f fin d s)[o + 1]? = some (.int .u64 (f o)) := by
  have : o = 1 ∨ o = 2 ∨ o = 3 ∨ o = 4 ∨ o = 5 ∨ o = 6 := by omega
  rcases this with rfl | rfl | rfl | rfl | rfl | rfl <;> rfl
def Small (f : Nat → Int) : Prop := ∀ j, 0 ≤ f j ∧ f j < 4611686018427387904
theorem Small.upd {f : Nat → Int} (h : Small f) {v : Int} (hv : 0 ≤ v ∧ v < 4611686018427387904) (o : Nat) : Small (upd f o v) := fun j => by unfold Proofs.Ytphakdfholkbdaa.upd; split; exact hv; exact h j
theorem Small.w {f : Nat → Int} (h : Small f) (j : Nat) : W64 (f j) := ⟨(h j).1, by have := (h j).2; omega⟩
theorem Small.zero : Small (fun _ => 0) := fun _ => ⟨Int.le_refl _, show (0 : Int) < 4611686018427387904 by decide⟩
theorem OW.nil (w0 w : World) : OW w0 w (.slice none 0 0) [] := ⟨Kd.R_nil _ _ _ _ _⟩
theorem OW.turnedS {w0 w w1 : World} {v : Value} {l : List Int} {sb : Nat} {wb : World} {bs : List Int} (h : OW w0 w v l) (hS : Src wb w sb bs) (hT : Turned sb w w1) : OW w0 w1 v l := by obtain ⟨A, c, hB, _⟩ := hS.out; exact h.grown hB (by decide) hT.out

end Go.Proofs.Ytphakdfholkbdaa
