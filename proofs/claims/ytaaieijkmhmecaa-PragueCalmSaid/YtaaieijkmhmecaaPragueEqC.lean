/- What the functions of layer 14 answer at numbers of 64 bits, in plain words. -/
import Derived.Test.YtaaieijkmhmecaaPPrCx6
namespace Go.Proofs.Ytaaieijkmhmecaa.PragueEqC
open Go.RowKit Go.Proofs.Ytaaieijkmhmecaa.PPrC Go.Proofs.YtaaieijkmhmecaaW.PrintWords Go.Proofs.YtaaieijkmhmecaaW.PrintLast

theorem wf64 {a : Int} (h : (Lit.int .u64 a).wf = true) : W64 a := by
  have e1 : IntKind.u64.min = 0 := rfl
  have e2 : IntKind.u64.max = 18446744073709551615 := rfl
  simp [Lit.wf, e1, e2] at h
  omega
theorem wf32 {a : Int} (h : (Lit.int .u32 a).wf = true) : 0 ≤ a ∧ a ≤ 4294967295 := by
  have e1 : IntKind.u32.min = 0 := rfl
  have e2 : IntKind.u32.max = 4294967295 := rfl
  simp [Lit.wf, e1, e2] at h
  omega
theorem add_eq {a b : Int} (ha : W64 a) (hb : W64 b) : fix_Add.f a b = some (uAdd a b) := by unfold fix_Add.f; rw [if_pos ⟨ha, hb⟩]
theorem muldiv_eq {a b c : Int} (ha : W64 a) (hb : W64 b) (hc : W64 c) : fix_MulDivT.f a b c = some (uMulDiv a b c) := by unfold fix_MulDivT.f; rw [if_pos ⟨ha, hb, hc⟩]
theorem renoack_eq {c0 c1 c2 c3 b t : Int} {l : Bool} (h0 : W64 c0) (h3 : W64 c3) (hb : W64 b) : reno_Ack.f c0 c1 c2 c3 b t l = some (uRenoAck c0 c1 c2 c3 b t l) := by unfold reno_Ack.f; rw [if_pos ⟨h0, h3, hb⟩]
theorem mark_eq {b0 b1 b2 b3 al ac mk en b t : Int} {ct : Bool} (h0 : W64 b0) (h4 : W64 al) (h6 : W64 mk) (hb : W64 b) : prague_Mark.f b0 b1 b2 b3 al ac mk en ct b t = some (uMark b0 b1 b2 b3 al ac mk en ct b t) := by unfold prague_Mark.f; rw [if_pos ⟨h0, h4, h6, hb⟩]
/-- Chapter 14's answer to bytes that came. -/
def uPAck (b0 b1 b2 b3 al ac mk en : Int) (ct : Bool) (b t lg sn : Int) (l : Bool) : Int × Int × Int × Int × Int × Int × Int × Int × Bool :=
  if lg ≥ en then ((uRenoAck b0 b1 b2 b3 b t l).1, (uRenoAck b0 b1 b2 b3 b t l).2.1, (uRenoAck b0 b1 b2 b3 b t l).2.2.1, (uRenoAck b0 b1 b2 b3 b t l).2.2.2, uAlpha al mk (uAdd ac b), 0, 0, sn, false)
  else ((uRenoAck b0 b1 b2 b3 b t l).1, (uRenoAck b0 b1 b2 b3 b t l).2.1, (uRenoAck b0 b1 b2 b3 b t l).2.2.1, (uRenoAck b0 b1 b2 b3 b t l).2.2.2, al, uAdd ac b, mk, en, ct)
theorem td16 {x : Int} (h : W64 x) : IntKind.u64.wrap (Int.tdiv x 16) = x / 16 := by
  rw [Int.tdiv_eq_ediv_of_nonneg h.1, w64 (by omega)]
theorem fall16 {x : Int} (h : W64 x) : IntKind.u64.wrap (x - IntKind.u64.wrap (Int.tdiv x 16)) = x - x / 16 := by
  rw [td16 h, w64 (by omega)]
theorem mn_min (x y : Int) : mn x y = min x y := by unfold mn; split <;> omega
theorem ack_eq {b0 b1 b2 b3 al ac mk en b t lg sn g0 g5 g6 g7 : Int} {ct l u : Bool} (h0 : W64 b0) (h3 : W64 b3) (h4 : W64 al) (h5 : W64 ac) (h6 : W64 mk) (hb : W64 b) : prague_Ack.f b0 b1 b2 b3 al ac mk en ct g0 b t lg sn g5 g6 g7 l u = some (uPAck b0 b1 b2 b3 al ac mk en ct b t lg sn l) := by
  have ht := uAdd_w h5 hb
  unfold prague_Ack.f uPAck uAlpha uShare
  rw [add_eq h5 hb, renoack_eq h0 h3 hb]
  simp only [Option.bind_some]
  by_cases he : lg ≥ en
  · simp only [if_pos he]
    by_cases hz : uAdd ac b > 0
    · rw [if_pos hz, if_neg (by omega), mn_min]
      have hm : W64 (min mk (uAdd ac b)) := by omega
      have hs := uMulDiv_w hm (b := 1048576) (by omega) ht
      rw [muldiv_eq hm (by omega) ht]
      simp only [Option.bind_some]
      rw [fall16 h4, td16 hs, add_eq (by omega) (by omega)]
      rfl
    · rw [if_neg hz, if_pos (by omega), fall16 h4, add_eq (by omega) (by omega)]
      rfl
  · simp only [if_neg he]
theorem awake_eq : wigwaglaw14_awake.f = some true := by decide +kernel
/-- The greater window stays. -/
theorem uHeld_ge {c x : Int} (h1 : c ≤ 16777216) (h : c ≤ x) : c ≤ uHeld x := by unfold uHeld; split <;> (try split) <;> omega
theorem uHeld_le {c x : Int} (h1 : 2400 ≤ c) (h : x ≤ c) : uHeld x ≤ c := by unfold uHeld; split <;> (try split) <;> omega
theorem uAdd_ge {a x : Int} (ha : W64 a) (h : 0 ≤ x) : a ≤ uAdd a x := by unfold uAdd; split <;> omega
theorem uSub_le {a x : Int} (ha : W64 a) (h : 0 ≤ x) : uSub a x ≤ a := by unfold uSub; split <;> omega
theorem wrap64_small {x : Int} (h0 : 0 ≤ x) (h1 : x ≤ 1000) : wrap64 x = x := by unfold wrap64; omega
theorem renoack_tells {c0 c1 c2 c3 b t : Int} {l : Bool} (h0 : 2400 ≤ c0) (h1 : c0 ≤ 16777216) (h3 : W64 c3) (hb : W64 b) :
    ∃ d0 d3, uRenoAck c0 c1 c2 c3 b t l = (d0, c1, c2, d3) ∧ c0 ≤ d0 ∧ 2400 ≤ d0 ∧ d0 ≤ 16777216 ∧ W64 d3 := by
  have w0 : W64 c0 := by omega
  unfold uRenoAck
  split
  · exact ⟨c0, c3, rfl, by omega, h0, h1, h3⟩
  · split
    · have hin := uHeld_in (uAdd c0 b)
      exact ⟨_, _, rfl, uHeld_ge h1 (uAdd_ge w0 hb.1), hin.1, hin.2, h3⟩
    · have wm := uMul_w hb (b := 1200) (by omega)
      have wa := uAdd_w h3 wm
      have hm : max c0 1 = c0 := by omega
      rw [hm]
      generalize uAdd c3 (uMul b 1200) = p at *
      have hd : 0 ≤ p / c0 := Int.ediv_nonneg wa.1 (by omega)
      have hr := Int.emod_nonneg p (show c0 ≠ 0 by omega)
      have hr2 := Int.emod_lt_of_pos p (show 0 < c0 by omega)
      have hin := uHeld_in (uAdd c0 (p / c0))
      exact ⟨_, _, rfl, uHeld_ge h1 (uAdd_ge w0 hd), hin.1, hin.2, by omega, by omega⟩
theorem uShare_le {m a : Int} (hm : W64 m) (ha : W64 a) : 0 ≤ uShare m a ∧ uShare m a ≤ 1048576 := by
  have hw := (uShare_w hm ha).1
  refine ⟨hw, ?_⟩
  unfold uShare uMulDiv
  split
  · omega
  · split
    · omega
    · split
      · rename_i h1 h2 h3
        have : min m a * 1048576 ≤ a * 1048576 := by omega
        omega
      · have hle : min m a * 1048576 ≤ 1048576 * a := by omega
        exact Int.ediv_le_of_le_mul (by omega) hle
theorem uAlpha_le {x m a : Int} (h0 : 0 ≤ x) (h1 : x ≤ 1048576) (hm : W64 m) (ha : W64 a) : 0 ≤ uAlpha x m a ∧ uAlpha x m a ≤ 1048576 := by
  have hs := uShare_le hm ha
  unfold uAlpha uAdd
  split <;> omega
theorem loss_eq {b0 b1 b2 b3 al ac mk en t n : Int} {ct : Bool} (h0 : 2400 ≤ b0) (h1 : b0 ≤ 16777216) (hn : W64 n) :
    ∃ d0 d1 d2 d3, prague_Loss.f b0 b1 b2 b3 al ac mk en ct t n = some (d0, d1, d2, d3, al, ac, mk, en, ct) ∧ d0 ≤ b0 ∧ 2400 ≤ d0 ∧ d0 ≤ 16777216 ∧ (d3 = b3 ∨ d3 = 0) := by
  unfold prague_Loss.f reno_Loss.f
  by_cases ht : t < b2
  · rw [if_pos ht]
    exact ⟨_, _, _, _, rfl, Int.le_refl _, h0, h1, Or.inl rfl⟩
  · rw [if_neg ht]
    have e : IntKind.u64.wrap (Int.tdiv b0 2) = b0 / 2 := by rw [Int.tdiv_eq_ediv_of_nonneg (by omega), w64 (by omega)]
    rw [e, show reno_Held.f (b0 / 2) = some (uHeld (b0 / 2)) from rfl, add_eq hn (by omega)]
    simp only [Option.bind_some]
    have hin := uHeld_in (b0 / 2)
    have hle : uHeld (b0 / 2) ≤ b0 := uHeld_le h0 (by omega)
    split
    · exact ⟨_, _, _, _, rfl, hle, hin.1, hin.2, Or.inr rfl⟩
    · exact ⟨_, _, _, _, rfl, Int.le_refl _, h0, h1, Or.inl rfl⟩
theorem rloss_eq {b0 b1 b2 b3 t n : Int} (h0 : 2400 ≤ b0) (h1 : b0 ≤ 16777216) (hn : W64 n) :
    ∃ d0 d1 d2 d3, reno_Loss.f b0 b1 b2 b3 t n = some (d0, d1, d2, d3) ∧ 2400 ≤ d0 ∧ d0 ≤ 16777216 ∧ (d3 = b3 ∨ d3 = 0) := by
  unfold reno_Loss.f
  by_cases ht : t < b2
  · rw [if_pos ht]
    exact ⟨_, _, _, _, rfl, h0, h1, Or.inl rfl⟩
  · rw [if_neg ht]
    have e : IntKind.u64.wrap (Int.tdiv b0 2) = b0 / 2 := by rw [Int.tdiv_eq_ediv_of_nonneg (by omega), w64 (by omega)]
    rw [e, show reno_Held.f (b0 / 2) = some (uHeld (b0 / 2)) from rfl, add_eq hn (by omega)]
    simp only [Option.bind_some]
    have hin := uHeld_in (b0 / 2)
    split
    · exact ⟨_, _, _, _, rfl, hin.1, hin.2, Or.inr rfl⟩
    · exact ⟨_, _, _, _, rfl, h0, h1, Or.inl rfl⟩
theorem uShare_zero (a : Int) : uShare 0 a = 0 ∨ a < 0 := by
  by_cases h : a < 0
  · exact Or.inr h
  · refine Or.inl ?_
    unfold uShare
    split
    · rfl
    · unfold uMulDiv
      rw [if_pos (by rw [show min 0 a = 0 by omega]; rfl)]
theorem uAlpha_calm {x a : Int} (hx : W64 x) (ha : W64 a) : uAlpha x 0 a = x - x / 16 := by
  have h : uShare 0 a = 0 := by
    rcases uShare_zero a with h | h
    · exact h
    · omega
  unfold uAlpha uAdd
  rw [h]
  split <;> omega
end Go.Proofs.Ytaaieijkmhmecaa.PragueEqC
