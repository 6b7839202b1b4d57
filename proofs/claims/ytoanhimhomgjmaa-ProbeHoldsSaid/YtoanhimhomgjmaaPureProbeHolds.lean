/- Windows of a model that began as it should are within the least and the greatest, whatever comes; no loss lets one rise; a model that was drained once never starts again: for every list of events, with no condition. -/
import Derived.Test.YtoanhimhomgjmaaProEq
import Derived.Test.YtoanhimhomgjmaaPPrOx15
import Derived.Test.YtoanhimhomgjmaaPPrOEv38
namespace Go.Proofs.Ytoanhimhomgjmaa.Pure
set_option linter.unusedVariables false
open Go.RowKit Go.Proofs.Ytoanhimhomgjmaa.PPrO Go.Proofs.Ytoanhimhomgjmaa.ProEq Go.Proofs.YtoanhimhomgjmaaW.PrintWords Go.Proofs.YtoanhimhomgjmaaW.PrintLast

def clampw (h high : Int) : Int := if high ≥ 4800 then mx (mn h high) 4800 else mn h high
def uWin (st : Int) (l : List S52) (m high : Int) : Int := if st = 3 then 4800 else if uProd l m 256 = 0 then 12000 else clampw (uHeld (uProd l m (if st = 0 then 739 else 512))) high
theorem win_eq {st m mat full still rounds phase since high : Int} {l : List S52} (hl : SWf l) (hm : W64 m) : probe_Window.f st l m mat full still rounds phase since high = some (uWin st l m high) := by
  unfold probe_Window.f uWin clampw
  rw [prod_eq hl hm (by omega), prod_eq hl hm (by omega), prod_eq hl hm (by omega)]
  simp only [Option.bind_some, held_eq]
  by_cases h3 : st = 3
  · rw [if_pos h3, if_pos h3]
  rw [if_neg h3, if_neg h3]
  by_cases hz : uProd l m 256 = 0
  · rw [if_pos hz, if_pos hz]
  rw [if_neg hz, if_neg hz]
  by_cases h0 : st = 0
  · rw [if_pos h0, if_pos h0]
    split <;> rfl
  · rw [if_neg h0, if_neg h0]
    split <;> rfl
theorem clampw_in {h high : Int} (h0 : 2400 ≤ h) (h1 : h ≤ 16777216) (g0 : 2400 ≤ high) (g1 : high ≤ 16777216) : 2400 ≤ clampw h high ∧ clampw h high ≤ 16777216 := by
  unfold clampw mx mn
  split <;> omega
theorem clampw_mono {h high' high : Int} (hle : high' ≤ high) : clampw h high' ≤ clampw h high := by
  unfold clampw mx mn
  split <;> split <;> omega
theorem win_in {st m high : Int} {l : List S52} (g0 : 2400 ≤ high) (g1 : high ≤ 16777216) : 2400 ≤ uWin st l m high ∧ uWin st l m high ≤ 16777216 := by
  unfold uWin
  generalize uProd l m (if st = 0 then 739 else 512) = x
  generalize uProd l m 256 = y
  split
  · omega
  · split
    · omega
    · exact clampw_in (uHeld_in x).1 (uHeld_in x).2 g0 g1
theorem win_mono {st m high' high : Int} {l : List S52} (hle : high' ≤ high) : uWin st l m high' ≤ uWin st l m high := by
  unfold uWin
  generalize uProd l m (if st = 0 then 739 else 512) = x
  generalize uProd l m 256 = y
  split
  · omega
  · split
    · omega
    · exact clampw_mono hle
theorem loss_eq {st m mat full still rounds phase since high fl : Int} {l : List S52} (hf : W64 fl) : probe_Loss.f st l m mat full still rounds phase since high fl = some (st, l, m, mat, full, still, rounds, phase, since, mn high (uHeld (uMulDiv fl 7 10))) := by
  unfold probe_Loss.f
  rw [muldiv_eq hf (by omega) (by omega)]
  rfl
structure Mod (st : Int) (l : List S52) (m mat full still rounds phase since high : Int) : Prop where
  s0 : 0 ≤ st
  s1 : st ≤ 3
  hl : SWf l
  hm : W64 m
  hmat : W64 mat
  hf : W64 full
  ht : W64 still
  hr : W64 rounds
  hp : W64 phase
  hs : W64 since
  g0 : 2400 ≤ high
  g1 : high ≤ 16777216
theorem move_inv {st m mat full still rounds phase since high now flight : Int} {l : List S52} {lim round stale : Bool} (h : Mod st l m mat full still rounds phase since high) (hn : W64 now) :
    ∃ st' full' still' phase' since', pMove st l m mat full still rounds phase since high now flight lim round stale = (st', l, m, mat, full', still', rounds, phase', since', high) ∧ Mod st' l m mat full' still' rounds phase' since' high ∧ (0 < st → st' ≠ 0) ∧ (1 < st → st' ≠ 1) := by
  obtain ⟨s0, s1, hl, hm, hmat, hf, ht, hr, hp, hs, g0, g1⟩ := h
  have w1 := uAdd_w ht (show W64 1 by omega)
  have w2 := uAdd_w hp (show W64 1 by omega)
  have w3 := best_w hl
  unfold pMove
  generalize uAdd still 1 = t1 at *
  generalize uAdd phase 1 = p1 at *
  generalize uBest l = b at *
  generalize uAdd full (full / 4) = q1
  generalize uProd l m 256 = q2
  generalize uAdd since m = q3
  generalize uAdd since 200 = q4
  repeat' split
  all_goals exact ⟨_, _, _, _, _, rfl, ⟨by omega, by omega, hl, hm, hmat, by assumption, by first | assumption | omega, hr, by first | assumption | omega, by assumption, g0, g1⟩, by omega, by omega⟩
theorem ack_inv {st m mat full still rounds phase since high now took flight rate : Int} {l : List S52} {lim round : Bool} (h : Mod st l m mat full still rounds phase since high) (hn : W64 now) (htk : W64 took) (hrt : W64 rate) :
    ∃ st' l' m' mat' full' still' rounds' phase' since' high', pAck st l m mat full still rounds phase since high now took flight rate lim round = (st', l', m', mat', full', still', rounds', phase', since', high') ∧ Mod st' l' m' mat' full' still' rounds' phase' since' high' ∧ (0 < st → st' ≠ 0) ∧ (1 < st → st' ≠ 1) ∧ l'.length ≤ l.length + 1 := by
  have h_ := h
  obtain ⟨s0, s1, hl, hm, hmat, hf, ht, hr, hp, hs, g0, g1⟩ := h_
  unfold pAck
  dsimp only
  have e1 : W64 (if round = true then uAdd rounds 1 else rounds) := by
    split
    · exact uAdd_w hr (by omega)
    · exact hr
  have e2 : 2400 ≤ (if round = true then uHeld (uAdd high (high / 8)) else high) ∧ (if round = true then uHeld (uAdd high (high / 8)) else high) ≤ 16777216 := by
    split
    · exact uHeld_in _
    · exact ⟨g0, g1⟩
  generalize (if round = true then uAdd rounds 1 else rounds) = rounds2 at *
  generalize (if round = true then uHeld (uAdd high (high / 8)) else high) = high2 at *
  have e3 : SWf (if lim = false ∨ rate ≥ uBest l then uPush l 10 rounds2 rate else l) := by
    split
    · exact uPush_wf hl e1 hrt
    · exact hl
  have e4 : (if lim = false ∨ rate ≥ uBest l then uPush l 10 rounds2 rate else l).length ≤ l.length + 1 := by
    split
    · exact uPush_len _ _ _ _
    · omega
  generalize (if lim = false ∨ rate ≥ uBest l then uPush l 10 rounds2 rate else l) = l2 at *
  generalize decide (now ≥ uAdd mat 10000) = stale
  have e5 : W64 (if stale = true ∨ took < m then took else m) := by
    split
    · exact htk
    · exact hm
  have e6 : W64 (if stale = true ∨ took < m then now else mat) := by
    split
    · exact hn
    · exact hmat
  generalize (if stale = true ∨ took < m then took else m) = m2 at *
  generalize (if stale = true ∨ took < m then now else mat) = mat2 at *
  obtain ⟨st', full', still', phase', since', he, hM, h0, h1⟩ := move_inv (flight := flight) (lim := lim) (round := round) (stale := stale) (⟨s0, s1, e3, e5, e6, hf, ht, e1, hp, hs, e2.1, e2.2⟩ : Mod st l2 m2 mat2 full still rounds2 phase since high2) hn
  exact ⟨_, _, _, _, _, _, _, _, _, _, he, hM, h0, h1, e4⟩
theorem awake_60 : wigwaglaw13_awake.f 60 = some true := by decide +kernel
theorem awake_up : ∀ n, wigwaglaw13_awake.f (60 + n) = some true
  | 0 => awake_60
  | n + 1 => wigwaglaw13_awake.mono _ _ (awake_up n)
/-- What is so behind each round. -/
theorem end_round {l1 : List S38} {k : Nat} {i st st0 m mat full still rounds phase since high m0 mat0 full0 still0 rounds0 phase0 since0 high0 : Int} {l l0 : List S52} (h : Mod st l m mat full still rounds phase since high) (h0 : 0 < st0 → st ≠ 0) (h1 : 1 < st0 → st ≠ 1)
    (hk : wigwaglaw13_ProbeHolds.l0 k l1 true (wrap64 (i + 1)) st l m mat full still rounds phase since high = some true) : wigwaglaw13_ProbeHolds.j2 (k + 1) l1 true i st l m mat full still rounds phase since high st0 l0 m0 mat0 full0 still0 rounds0 phase0 since0 high0 = some true := by
  obtain ⟨s0, s1, hl, hm, hmat, hf, ht, hr, hp, hs, g0, g1⟩ := h
  simp only [wigwaglaw13_ProbeHolds.j2]
  rw [win_eq hl hm]
  simp only [Option.bind_some]
  have hw := win_in (st := st) (m := m) (l := l) g0 g1
  rw [if_neg (by omega), if_neg (by omega), if_neg (by omega), if_neg (by omega), hk]
  by_cases c0 : st0 > 0
  · rw [if_pos c0, if_neg (h0 c0)]
    by_cases c1 : st0 > 1
    · rw [if_pos c1, if_neg (h1 c1)]
    · rw [if_neg c1]
  · rw [if_neg c0, if_neg (by omega)]
theorem ProbeHolds : ∀ (a0 : Int) (l1 : List S38), (Lit.int .u64 a0).wf = true → (∀ x ∈ l1, WfS38 x) → ∃ k, wigwaglaw13_ProbeHolds.f k a0 l1 = some true := by
  intro a0 l1 w0 hl1
  have W0 := wf64 w0
  refine ⟨60 + 600, ?_⟩
  unfold wigwaglaw13_ProbeHolds.f
  rw [awake_up]
  simp only [Option.bind_some]
  have hn : probe_New.f a0 = some (0, [], 18446744073709551615, a0, 0, 0, 0, 0, a0, 16777216) := rfl
  rw [hn]
  simp only [Option.bind_some]
  have key : ∀ (n : Nat) (k : Nat) (i st m mat full still rounds phase since high : Int) (l : List S52), i + n = 100 → 0 ≤ i → (l.length : Int) ≤ i → 3 * n + 200 < k → Mod st l m mat full still rounds phase since high → wigwaglaw13_ProbeHolds.l0 k l1 true i st l m mat full still rounds phase since high = some true := by
    intro n
    induction n with
    | zero =>
      intro k i st m mat full still rounds phase since high l hi h0 hL hk hM
      obtain ⟨k, rfl⟩ : ∃ q, k = q + 2 := ⟨k - 2, by omega⟩
      simp only [wigwaglaw13_ProbeHolds.l0, wigwaglaw13_ProbeHolds.j1]
      have hd : decide (i < 100) = false := decide_eq_false (by omega)
      rw [hd]
      split <;> rfl
    | succ n ih =>
      intro k i st m mat full still rounds phase since high l hi h0 hL hk hM
      obtain ⟨k, rfl⟩ : ∃ q, k = q + 3 := ⟨k - 3, by omega⟩
      by_cases h1 : i < (l1.length : Int)
      · have hw : wrap64 (i + 1) = i + 1 := wrap64_is (by omega) (by omega)
        have hm : rd_T38 l1 i ∈ l1 := by
          unfold rd_T38
          rw [List.getD_eq_getElem?_getD, List.getElem?_eq_getElem (by omega)]
          exact List.getElem_mem _
        obtain ⟨we0, we1, we2, we3, we4, we5, we6, we7⟩ := hl1 _ hm
        have hd : decide (i < 100) = true := decide_eq_true (by omega)
        have W5 := wf64 we5
        have W6 := wf64 we6
        have W7 := wf64 we7
        have W00 := wf64 we0
        simp only [wigwaglaw13_ProbeHolds.l0, wigwaglaw13_ProbeHolds.j1]
        rw [hd, if_pos h1, if_pos rfl, if_pos h0, if_pos h1]
        generalize rd_T38 l1 i = e at *
        have M := hM
        obtain ⟨s0, s1, hl, hm, hmat, hf, ht, hr, hp, hs, g0, g1⟩ := M
        by_cases hlost : e.f0 = true
        · rw [if_pos hlost, loss_eq W6]
          simp only [Option.bind_some]
          rw [win_eq hl hm, win_eq hl hm]
          simp only [Option.bind_some, if_true]
          have hin := uHeld_in (uMulDiv e.f1.f6 7 10)
          have hle : mn high (uHeld (uMulDiv e.f1.f6 7 10)) ≤ high := by unfold mn; omega
          have hge : 2400 ≤ mn high (uHeld (uMulDiv e.f1.f6 7 10)) := by unfold mn; omega
          have hmono := win_mono (st := st) (m := m) (l := l) hle
          rw [if_neg (by omega)]
          have hM2 : Mod st l m mat full still rounds phase since (mn high (uHeld (uMulDiv e.f1.f6 7 10))) := ⟨s0, s1, hl, hm, hmat, hf, ht, hr, hp, hs, hge, by omega⟩
          refine end_round hM2 (by omega) (by omega) ?_
          rw [hw]
          exact ih k (i + 1) _ _ _ _ _ _ _ _ _ _ (by omega) (by omega) (by omega) (by omega) hM2
        · rw [if_neg hlost, ack_eq hl (by omega) (by omega) hp hs hm hmat hf ht hr (by omega) W7 W5]
          obtain ⟨st', l', m', mat', full', still', rounds', phase', since', high', he, hM2, q0, q1, q2⟩ := ack_inv (flight := e.f1.f6) (lim := e.f1.f8) (round := e.f1.f9) hM W00 W5 W7
          rw [he]
          simp only [Option.bind_some]
          refine end_round hM2 q0 q1 ?_
          rw [hw]
          exact ih k (i + 1) _ _ _ _ _ _ _ _ _ _ (by omega) (by omega) (by omega) (by omega) hM2
      · simp only [wigwaglaw13_ProbeHolds.l0, wigwaglaw13_ProbeHolds.j1]
        rw [if_neg h1]
        rfl
  exact key 100 _ 0 _ _ _ _ _ _ _ _ _ _ (by omega) (by omega) (by simp) (by omega) ⟨by omega, by omega, fun x hx => by (cases hx), by omega, W0, by omega, by omega, by omega, by omega, W0, by omega, by omega⟩
end Go.Proofs.Ytoanhimhomgjmaa.Pure
