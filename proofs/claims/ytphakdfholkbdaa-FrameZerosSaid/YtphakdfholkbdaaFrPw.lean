import Derived.Outline
import Derived.Handy
import Derived.Recover
import Derived.WalkSmall
import Derived.Laws.Externs
import Derived.Laws.CopyOwn
import Derived.Lib.AppendZerosOnto
import Derived.Lib.Overlaps
import Derived.Deep.RegionLaw
import Derived.Test.YtphakdfholkbdaaPFrax0
import Derived.Test.YtphakdfholkbdaaNum
import Derived.Test.YtphakdfholkbdaaSeg
import Derived.Test.YtphakdfholkbdaaFraB
import Derived.Test.YtphakdfholkbdaaFrPv
namespace Go.Proofs.Ytphakdfholkbdaa
open Go.Proofs.Ytphakdfholkbdaa.PFra Go.RowKit Go.Proofs.YtphakdfholkbdaaW.PrintWords Go.Proofs.YtphakdfholkbdaaW.PrintLast Go.Proofs.YtphakdfholkbdaaW.PrintMore
set_option maxRecDepth 100000
set_option maxHeartbeats 4000000
set_option linter.unusedVariables false
set_option linter.unusedSimpArgs false
theorem uNum_suffix {l l' : List Int} {v : Int} (hb : bytesOk l = true) (h : uNum l = some (v, l')) : l' <:+ l ∧ l'.length < l.length ∧ bytesOk l' = true := by
  obtain ⟨_, h1, h2, h3, _⟩ := uNum_some hb h
  exact ⟨h3 ▸ List.drop_suffix _ _, h2, h1⟩
theorem rRounds_suffix : ∀ (k : Nat) (tp : Int) (s : List S47) (l : List Int) {s' : List S47} {l' : List Int}, bytesOk l = true → rRounds k tp s l = some (s', l') → l' <:+ l
  | 0, tp, s, l, s', l', hb, h => by
    simp only [rRounds, Option.some.injEq, Prod.mk.injEq] at h
    obtain ⟨rfl, rfl⟩ := h
    exact List.suffix_refl _
  | k + 1, tp, [], l, s', l', hb, h => by
    unfold rRounds at h
    cases hN : uNum l with
    | none => rw [hN] at h; cases h
    | some r =>
      rw [hN, Option.bind_some] at h
      obtain ⟨v, l1⟩ := r
      obtain ⟨hs, _, hb1⟩ := uNum_suffix hb hN
      split at h
      · exact (rRounds_suffix k _ _ l1 hb1 h).trans hs
      · cases h
  | k + 1, tp, x :: s, l, s', l', hb, h => by
    unfold rRounds at h
    cases hN : uNum l with
    | none => rw [hN] at h; cases h
    | some r =>
      rw [hN, Option.bind_some] at h
      obtain ⟨v, l1⟩ := r
      obtain ⟨hs, _, hb1⟩ := uNum_suffix hb hN
      split at h
      · cases hN1 : uNum l1 with
        | none => rw [hN1] at h; cases h
        | some r =>
          rw [hN1, Option.bind_some] at h
          obtain ⟨v, l2⟩ := r
          obtain ⟨hs1, _, hb2⟩ := uNum_suffix hb1 hN1
          split at h
          · exact ((rRounds_suffix k _ _ l2 hb2 h).trans hs1).trans hs
          · cases h
      · cases h
theorem rSp_suffix {l l' : List Int} {s : List S47} (hb : bytesOk l = true) (h : rSp l = some (s, l')) : l' <:+ l ∧ bytesOk l' = true := by
  refine ⟨?_, (rSp_len hb h).2.1⟩
  unfold rSp at h
  cases hN : uNum l with
  | none => rw [hN] at h; cases h
  | some r =>
    rw [hN, Option.bind_some] at h
    obtain ⟨v, l1⟩ := r
    obtain ⟨hs, _, hb1⟩ := uNum_suffix hb hN
    split at h
    · cases hN1 : uNum l1 with
      | none => rw [hN1] at h; cases h
      | some r =>
        rw [hN1, Option.bind_some] at h
        obtain ⟨v, l2⟩ := r
        obtain ⟨hs1, _, hb2⟩ := uNum_suffix hb1 hN1
        exact ((rRounds_suffix _ _ _ _ hb2 h).trans hs1).trans hs
    · cases h
theorem rNums_suffix : ∀ (os : List Nat) (f : Nat → Int) (l : List Int) {f' : Nat → Int} {l' : List Int}, bytesOk l = true → rNums os f l = some (f', l') → l' <:+ l ∧ bytesOk l' = true
  | [], f, l, f', l', hb, h => by
    simp only [rNums, Option.some.injEq, Prod.mk.injEq] at h
    obtain ⟨rfl, rfl⟩ := h
    exact ⟨List.suffix_refl _, hb⟩
  | o :: os, f, l, f', l', hb, h => by
    unfold rNums at h
    cases hN : uNum l with
    | none => rw [hN] at h; cases h
    | some r =>
      rw [hN, Option.bind_some] at h
      obtain ⟨v, l1⟩ := r
      obtain ⟨hs, _, hb1⟩ := uNum_suffix hb hN
      obtain ⟨h1, h2⟩ := rNums_suffix os _ l1 hb1 h
      exact ⟨h1.trans hs, h2⟩
theorem rChk_some {K : Int} {fin : Bool} {s : List S47} {f : Nat → Int} {d l : List Int} {x : FrV} (h : rChk K fin s f d l = some x) : uChk K (f 1) (f 2) (f 3) (f 4) (f 5) (f 6) fin d.length s = 0 ∧ x = (K, f, fin, d, s, l) := by
  unfold rChk at h
  split at h
  · exact ⟨by assumption, (Option.some.inj h).symm⟩
  · cases h
theorem rEnd_suffix {K K' : Int} {fin fin' : Bool} {s s' : List S47} {f f' : Nat → Int} {l d r : List Int} (hb : bytesOk l = true) (h : rEnd K fin s f l = some (K', f', fin', d, s', r)) : r <:+ l ∧ bytesOk r = true := by
  unfold rEnd at h
  split at h
  · cases hN : uNum l with
    | none => rw [hN] at h; cases h
    | some q =>
      rw [hN, Option.bind_some] at h
      obtain ⟨v, l1⟩ := q
      obtain ⟨hs, _, hb1⟩ := uNum_suffix hb hN
      split at h
      · obtain ⟨_, e⟩ := rChk_some h
        simp only [Prod.mk.injEq] at e
        obtain ⟨-, -, -, -, -, rfl⟩ := e
        exact ⟨(List.drop_suffix _ _).trans hs, bytes_drop hb1 _⟩
      · cases h
  · obtain ⟨_, e⟩ := rChk_some h
    simp only [Prod.mk.injEq] at e
    obtain ⟨-, -, -, -, -, rfl⟩ := e
    exact ⟨List.suffix_refl _, hb⟩
theorem rKind_suffix {K K' : Int} {fin fin' : Bool} {s' : List S47} {f' : Nat → Int} {l d r : List Int} (hb : bytesOk l = true) (h : rKind K fin l = some (K', f', fin', d, s', r)) : r <:+ l ∧ bytesOk r = true := by
  unfold rKind at h
  split at h
  · cases h
  · rename_i os ho
    split at h
    · cases hs : rSp l with
      | none => rw [hs] at h; cases h
      | some q =>
        obtain ⟨s, l1⟩ := q
        rw [hs, Option.bind_some] at h
        obtain ⟨h1, hb1⟩ := rSp_suffix hb hs
        cases hn : rNums os (fun _ => 0) l1 with
        | none => simp only [hn] at h; cases h
        | some q =>
          obtain ⟨f1, l2⟩ := q
          simp only [hn, Option.bind_some] at h
          obtain ⟨h2, hb2⟩ := rNums_suffix _ _ _ hb1 hn
          obtain ⟨h3, hb3⟩ := rEnd_suffix hb2 h
          exact ⟨(h3.trans h2).trans h1, hb3⟩
    · cases hn : rNums os (fun _ => 0) l with
      | none => rw [hn] at h; cases h
      | some q =>
        obtain ⟨f1, l2⟩ := q
        rw [hn, Option.bind_some] at h
        obtain ⟨h2, hb2⟩ := rNums_suffix _ _ _ hb hn
        obtain ⟨h3, hb3⟩ := rEnd_suffix hb2 h
        exact ⟨h3.trans h2, hb3⟩
theorem rFr_suffix {K' : Int} {fin' : Bool} {s' : List S47} {f' : Nat → Int} {l d r : List Int} (hb : bytesOk l = true) (h : rFr l = some (K', f', fin', d, s', r)) : r <:+ l ∧ bytesOk r = true ∧ r.length < l.length := by
  unfold rFr at h
  cases hN : uNum l with
  | none => rw [hN] at h; cases h
  | some q =>
    rw [hN, Option.bind_some] at h
    obtain ⟨v, l1⟩ := q
    obtain ⟨hs, hlt, hb1⟩ := uNum_suffix hb hN
    have : r <:+ l1 ∧ bytesOk r = true := by
      split at h
      · split at h
        · exact rKind_suffix hb1 h
        · exact rKind_suffix hb1 h
      · cases h
    exact ⟨this.1.trans hs, this.2, by have := this.1.length_le; omega⟩

end Go.Proofs.Ytphakdfholkbdaa
