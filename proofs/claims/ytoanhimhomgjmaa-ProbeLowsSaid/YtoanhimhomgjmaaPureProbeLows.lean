/- The least time is that of the answers, as long as none is ten seconds elder than the last one, and the best rate is that of the rounds' window: for all lists, with no condition. -/
import Derived.Test.YtoanhimhomgjmaaProEq
import Derived.Test.YtoanhimhomgjmaaPPrDx16
namespace Go.Proofs.Ytoanhimhomgjmaa.Pure
set_option linter.unusedVariables false
open Go.RowKit Go.Proofs.Ytoanhimhomgjmaa.PPrD Go.Proofs.Ytoanhimhomgjmaa.ProEq Go.Proofs.YtoanhimhomgjmaaW.PrintWords Go.Proofs.YtoanhimhomgjmaaW.PrintLast

theorem awake_200 : wigwaglaw13_awake.f 200 = some true := by decide +kernel
theorem rd_w {l : List Int} {k : IntKind} {n : Nat} (h : ∀ x ∈ l, (Lit.int k x).wf = true) (hn : n < l.length) : (Lit.int k (rd l (n : Int))).wf = true := by
  have e : rd l (n : Int) = l[n] := by unfold rd; simp [List.getD_eq_getElem?_getD, hn]
  rw [e]
  exact h _ (List.getElem_mem hn)
theorem best_push {l : List S52} {r : Int} (hr : 0 ≤ r) (hl : ∀ x ∈ l, x.f0 = 0 ∧ x.f1 ≤ uBest l) : uBest (uPush l 10 0 r) = mx (uBest l) r := by
  have e0 : uAdd 0 10 = 10 := by decide +kernel
  cases l with
  | nil => unfold uPush uBest mx; simp; omega
  | cons x t =>
    have hx := hl x (List.mem_cons_self ..)
    by_cases h : r < x.f1
    · have hs : stays 10 0 r x = true := by unfold stays; rw [hx.1, e0]; simp [h]
      unfold uPush
      rw [List.filter_cons, if_pos hs]
      show x.f1 = mx x.f1 r
      unfold mx; omega
    · have hf : (x :: t).filter (stays 10 0 r) = [] := by
        rw [List.filter_eq_nil_iff]
        intro y hy
        have := (hl y hy).2
        have hb : uBest (x :: t) = x.f1 := rfl
        unfold stays
        rw [decide_eq_false (show ¬ r < y.f1 by omega)]
        simp
      unfold uPush
      rw [hf]
      show r = mx x.f1 r
      unfold mx; omega
theorem all_push {l : List S52} {r : Int} (hr : 0 ≤ r) (hl : ∀ x ∈ l, x.f0 = 0 ∧ x.f1 ≤ uBest l) : ∀ x ∈ uPush l 10 0 r, x.f0 = 0 ∧ x.f1 ≤ uBest (uPush l 10 0 r) := by
  intro x hx
  rw [best_push hr hl]
  have hm : uBest l ≤ mx (uBest l) r ∧ r ≤ mx (uBest l) r := by unfold mx; omega
  unfold uPush at hx
  rcases List.mem_append.1 hx with h | h
  · have := hl x ((List.mem_filter.1 h).1)
    exact ⟨this.1, by omega⟩
  · obtain rfl := List.mem_singleton.1 h
    exact ⟨rfl, hm.2⟩
theorem ProbeLows : wigwaglaw13_ProbeLows.Pure := by
  intro l0 l1 l2 _ _ hl0 _ _ hl1 _ _ hl2
  refine ⟨200, ?_⟩
  unfold wigwaglaw13_ProbeLows.f
  rw [awake_200]
  simp only [Option.bind_some]
  have hn : probe_New.f 0 = some (0, [], 18446744073709551615, 0, 0, 0, 0, 0, 0, 16777216) := rfl
  rw [hn]
  simp only [Option.bind_some]
  have key : ∀ (n k i : Nat) (now low most mat : Int) (l : List S52), i + n = 60 → n + 90 < k → 0 ≤ now → now ≤ 99 * i → W64 low → 0 ≤ mat → mat ≤ now → uBest l = most → SWf l → (∀ x ∈ l, x.f0 = 0 ∧ x.f1 ≤ uBest l) → l.length ≤ i →
      wigwaglaw13_ProbeLows.l0 k l0 l1 l2 true now low most (i : Int) 0 l low mat 0 0 0 0 0 16777216 = some true := by
    intro n
    induction n with
    | zero =>
      intro k i now low most mat l hi hk _ _ _ _ _ _ _ _ _
      obtain ⟨k, rfl⟩ : ∃ m, k = m + 1 := ⟨k - 1, by omega⟩
      simp only [wigwaglaw13_ProbeLows.l0]
      have h60 : ¬ (i : Int) < 60 := by omega
      by_cases c0 : (i : Int) < (l0.length : Int)
      · rw [if_pos c0]
        by_cases c1 : (i : Int) < (l1.length : Int)
        · rw [if_pos c1]
          by_cases c2 : (i : Int) < (l2.length : Int)
          · rw [if_pos c2, if_neg h60]
          · rw [if_neg c2]
        · rw [if_neg c1]
      · rw [if_neg c0]
    | succ n ih =>
      intro k i now low most mat l hi hk hn0 hn1 hlow hm0 hm1 hbest hw hall hlen
      obtain ⟨k, rfl⟩ : ∃ m, k = m + 1 := ⟨k - 1, by omega⟩
      simp only [wigwaglaw13_ProbeLows.l0]
      by_cases c0 : (i : Int) < (l0.length : Int)
      · rw [if_pos c0]
        by_cases c1 : (i : Int) < (l1.length : Int)
        · rw [if_pos c1]
          by_cases c2 : (i : Int) < (l2.length : Int)
          · rw [if_pos c2, if_pos (show (i : Int) < 60 by omega), if_pos (show (0 : Int) ≤ (i : Int) by omega)]
            have b0 := wf8 (rd_w hl0 (n := i) (by omega))
            have b1 := wf16 (rd_w hl1 (n := i) (by omega))
            have b2 := wf32 (rd_w hl2 (n := i) (by omega))
            generalize rd l0 (i : Int) = d at *
            generalize rd l1 (i : Int) = t at *
            generalize rd l2 (i : Int) = r at *
            rw [w64 (x := t) (by omega), w64 (x := r) (by omega), w64 (x := d) (by omega)]
            have hd : IntKind.u64.wrap (now + Int.tmod d 100) = now + d % 100 := by
              rw [Int.tmod_eq_emod_of_nonneg b0.1]
              exact w64 (by omega)
            have hi1 : wrap64 ((i : Int) + 1) = ((i + 1 : Nat) : Int) := by rw [wrap64_is (by omega) (by omega)]; simp
            rw [hd, hi1]
            clear hd hi1
            have hd2 : 0 ≤ d % 100 ∧ d % 100 ≤ 99 := by omega
            generalize hN : now + d % 100 = now' at *
            have hA : probe_Ack.f k 0 l low mat 0 0 0 0 0 16777216 now' 0 0 0 0 t 0 r false false = some (0, uPush l 10 0 r, mn low t, if t < low then now' else mat, 0, 0, 0, 0, 0, 16777216) := by
              rw [ack_eq hw (by omega) (by omega) (by omega) (by omega) hlow (by omega) (by omega) (by omega) (by omega) (by omega) (by omega) (by omega)]
              have e3 : uAdd mat 10000 = mat + 10000 := if_pos (by omega)
              unfold pAck
              simp only [e3, true_or, if_true, Bool.false_eq_true, if_false]
              rw [decide_eq_false (by omega)]
              simp only [Bool.false_eq_true, false_or]
              unfold pMove
              rw [if_pos rfl, if_neg (by simp)]
              have hmn : (if t < low then t else low) = mn low t := by unfold mn; split <;> omega
              rw [hmn]
            rw [hA]
            simp only [Option.bind_some, if_true, best_eq]
            rw [best_push b2.1 hall, hbest, if_pos rfl]
            have hmn : 0 ≤ mn low t ∧ mn low t ≤ 18446744073709551615 := by unfold mn; omega
            refine ih k (i + 1) now' (mn low t) (mx most r) _ _ (by omega) (by omega) (by omega) (by omega) hmn ?_ ?_ ?_ (uPush_wf hw (by omega) (by omega)) (all_push b2.1 hall) ?_
            · split <;> omega
            · split <;> omega
            · rw [best_push b2.1 hall, hbest]
            · have := uPush_len l 10 0 r
              omega
          · rw [if_neg c2]
        · rw [if_neg c1]
      · rw [if_neg c0]
  exact key 60 200 0 0 18446744073709551615 0 0 [] rfl (by omega) (by omega) (by omega) (by omega) (by omega) (by omega) rfl (fun x hx => by cases hx) (fun x hx => by cases hx) (by simp)
end Go.Proofs.Ytoanhimhomgjmaa.Pure
