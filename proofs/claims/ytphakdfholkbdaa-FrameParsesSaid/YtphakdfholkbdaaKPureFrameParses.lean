/- What frame.Parse and frame.All answer is what the document's answer is: both compute the same plain parser. -/
import Derived.Test.YtphakdfholkbdaaKH
import Derived.Test.YtphakdfholkbdaaKZ
import Derived.Test.YtphakdfholkbdaaKU
namespace Go.Proofs.Ytphakdfholkbdaa.Pure
set_option linter.unusedVariables false
set_option linter.unusedSimpArgs false
set_option maxHeartbeats 1000000
open Go.RowKit Go.Proofs.Ytphakdfholkbdaa Go.Proofs.Ytphakdfholkbdaa.PFra Go.Proofs.YtphakdfholkbdaaW.PrintWords Go.Proofs.YtphakdfholkbdaaW.PrintLast
theorem both_parse (l : List Int) : wigwagref05_Parse.f l = frame_Parse.f l := rfl
theorem both_loop : ∀ (k : Nat) (l : List Int) (acc : List S27), wigwagref05_All.l0 k l acc = frame_All.l0 k l acc
  | 0, _, _ => rfl
  | k + 1, l, acc => by
    rw [wigwagref05_All.l0, frame_All.l0]
    simp only [both_parse, both_loop k]
theorem both_all (k : Nat) (l : List Int) : wigwagref05_All.f k l = frame_All.f k l := by
  unfold wigwagref05_All.f frame_All.f
  simp only [both_loop]
theorem spans_few {l : List Int} {K : Int} {fin : Bool} {s : List S47} {f : Nat → Int} {d r : List Int} (hb : bytesOk l = true) (hR : rFr l = some (K, f, fin, d, s, r)) : s.length ≤ 32 := by
  obtain ⟨os, p, ho, ep, hp, hc, _, _⟩ := frame_reads hb hR
  obtain ⟨_, hsp, hno, _⟩ := chk_parts ho hc
  by_cases hk : K = 2 ∨ K = 3
  · have hok := hsp hk
    unfold spOk at hok
    simp only [Bool.and_eq_true, decide_eq_true_eq] at hok
    exact hok.1.2
  · have := hno hk
    simp [this]
theorem parse_spans {l : List Int} (hb : bytesOk l = true) : (uParse l).2.2.2.2.2.2.2.2.2.1.length ≤ 32 := by
  unfold uParse
  cases hR : rFr l with
  | none => simp
  | some q =>
    obtain ⟨K, f, fin, d, s, r⟩ := q
    exact spans_few hb hR
theorem all_some : ∀ (k : Nat) (l : List Int) (acc : List S27), bytesOk l = true → l.length < k → acc.length + l.length < 1000000 → (∀ x ∈ acc, x.f9.length ≤ 32) → ∃ fs e, frame_All.l0 k l acc = some (fs, e) ∧ fs.length < 1000000 ∧ ∀ x ∈ fs, x.f9.length ≤ 32
  | 0, _, _, _, hk, _, _ => absurd hk (by omega)
  | k + 1, l, acc, hb, hk, hn, hx => by
    rw [frame_All.l0]
    by_cases h0 : (l.length : Int) > 0
    · rw [if_pos h0, parse_f hb (by omega), Option.bind_some]
      have hs := parse_spans hb
      cases hR : rFr l with
      | none =>
        have e : uParse l = (0, 0, 0, 0, 0, 0, 0, false, [], [], 0, 50) := by unfold uParse; rw [hR]
        rw [e]
        simp only
        rw [if_neg (by omega)]
        exact ⟨_, _, rfl, by simp, by simp⟩
      | some q =>
        obtain ⟨K, f, fin, d, s, r⟩ := q
        have e : uParse l = (K, f 1, f 2, f 3, f 4, f 5, f 6, fin, d, s, (l.length : Int) - r.length, 0) := by unfold uParse; rw [hR]
        rw [e] at hs ⊢
        simp only at hs ⊢
        obtain ⟨_, hbr, hlt⟩ := rFr_suffix hb hR
        rw [if_pos trivial, if_pos (by omega), if_pos (by omega), if_pos (by omega)]
        have hd : (l.drop ((l.length : Int) - r.length).toNat).length = r.length := by
          rw [List.length_drop]
          omega
        refine all_some k _ _ (List.all_eq_true.2 fun x hx => List.all_eq_true.1 hb x (List.mem_of_mem_drop hx)) (by omega) ?_ ?_
        · rw [List.length_append, hd]
          simp only [List.length_cons, List.length_nil]
          omega
        · intro x hm
          rcases List.mem_append.1 hm with h | h
          · exact hx x h
          · obtain rfl := List.mem_singleton.1 h
            exact hs
    · rw [if_neg h0]
      exact ⟨acc, 0, rfl, by omega, hx⟩
theorem all_some_f (l : List Int) (k : Nat) (hb : bytesOk l = true) (hk : l.length < k) (hn : l.length < 1000000) : ∃ fs e, frame_All.f k l = some (fs, e) ∧ fs.length < 1000000 ∧ ∀ x ∈ fs, x.f9.length ≤ 32 := by
  unfold frame_All.f
  by_cases h0 : (l.length : Int) = 0
  · rw [if_pos h0]
    exact ⟨[], 50, rfl, by simp, by simp⟩
  · rw [if_neg h0]
    exact all_some k l [] hb hk (by simp; omega) (by simp)
theorem FrameParses : wigwaglaw05_FrameParses.Pure := by
  intro l0 hm1 hm2 hwf
  have hb := bytes_wf hwf
  by_cases hl : (l0.length : Int) > 2000
  · obtain ⟨k, hk⟩ : ∃ k, k = 60 := ⟨_, rfl⟩
    refine ⟨k, ?_⟩
    unfold wigwaglaw05_FrameParses.f
    rw [awake_ok (by omega), Option.bind_some, if_pos hl]
  · obtain ⟨k, hk⟩ : ∃ k, k = 2000000 := ⟨_, rfl⟩
    refine ⟨k, ?_⟩
    obtain ⟨fs, e, hA, hf, hx⟩ := all_some_f l0 k hb (by omega) (by omega)
    have hS := same_refl (K := k) ⟨(uParse l0).1, (uParse l0).2.1, (uParse l0).2.2.1, (uParse l0).2.2.2.1, (uParse l0).2.2.2.2.1, (uParse l0).2.2.2.2.2.1, (uParse l0).2.2.2.2.2.2.1, (uParse l0).2.2.2.2.2.2.2.1, (uParse l0).2.2.2.2.2.2.2.2.1, (uParse l0).2.2.2.2.2.2.2.2.2.1⟩ (by have := parse_spans hb; simp only; omega) (by have := parse_spans hb; simp only; omega)
    have hAS := all_same (K := k) (M := 32) hf (by omega) hx (by omega)
    simp only at hS
    unfold wigwaglaw05_FrameParses.f
    rw [awake_ok (by omega), Option.bind_some, if_neg hl, both_parse, both_all, parse_f hb (by omega), Option.bind_some, Option.bind_some, hA, Option.bind_some, Option.bind_some]
    simp only
    rw [hS, Option.bind_some, hAS, Option.bind_some]
    simp
end Go.Proofs.Ytphakdfholkbdaa.Pure
