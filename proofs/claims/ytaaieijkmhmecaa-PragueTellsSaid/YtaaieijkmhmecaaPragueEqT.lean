/- What the functions of layer 14 answer at numbers of 64 bits, in plain words. -/
import Derived.Test.YtaaieijkmhmecaaPPrTx10
namespace Go.Proofs.Ytaaieijkmhmecaa.PragueEqT
open Go.RowKit Go.Proofs.Ytaaieijkmhmecaa.PPrT Go.Proofs.YtaaieijkmhmecaaW.PrintWords Go.Proofs.YtaaieijkmhmecaaW.PrintLast

theorem wf64 {a : Int} (h : (Lit.int .u64 a).wf = true) : W64 a := by
  have e1 : IntKind.u64.min = 0 := rfl
  have e2 : IntKind.u64.max = 18446744073709551615 := rfl
  simp [Lit.wf, e1, e2] at h
  omega
theorem wf32 {a : Int} (h : (Lit.int .u32 a).wf = true) : 0 ≤ a ∧ a ≤ 4294967295 := by
  have e1 : IntKind.u32.min = 0 := rfl
  have e2 : IntKind.u32.max = 4294967295 := rfl
  simp [Lit.wf, e1, e2] at h
  omega
theorem add_eq {a b : Int} (ha : W64 a) (hb : W64 b) : fix_Add.f a b = some (uAdd a b) := by unfold fix_Add.f; rw [if_pos ⟨ha, hb⟩]
theorem muldiv_eq {a b c : Int} (ha : W64 a) (hb : W64 b) (hc : W64 c) : fix_MulDivT.f a b c = some (uMulDiv a b c) := by unfold fix_MulDivT.f; rw [if_pos ⟨ha, hb, hc⟩]
theorem renoack_eq {c0 c1 c2 c3 b t : Int} {l : Bool} (h0 : W64 c0) (h3 : W64 c3) (hb : W64 b) : reno_Ack.f c0 c1 c2 c3 b t l = some (uRenoAck c0 c1 c2 c3 b t l) := by unfold reno_Ack.f; rw [if_pos ⟨h0, h3, hb⟩]
theorem mark_eq {b0 b1 b2 b3 al ac mk en b t : Int} {ct : Bool} (h0 : W64 b0) (h4 : W64 al) (h6 : W64 mk) (hb : W64 b) : prague_Mark.f b0 b1 b2 b3 al ac mk en ct b t = some (uMark b0 b1 b2 b3 al ac mk en ct b t) := by unfold prague_Mark.f; rw [if_pos ⟨h0, h4, h6, hb⟩]
/-- Chapter 14's answer to bytes that came. -/
def uPAck (b0 b1 b2 b3 al ac mk en : Int) (ct : Bool) (b t lg sn : Int) (l : Bool) : Int × Int × Int × Int × Int × Int × Int × Int × Bool :=
  if lg ≥ en then ((uRenoAck b0 b1 b2 b3 b t l).1, (uRenoAck b0 b1 b2 b3 b t l).2.1, (uRenoAck b0 b1 b2 b3 b t l).2.2.1, (uRenoAck b0 b1 b2 b3 b t l).2.2.2, uAlpha al mk (uAdd ac b), 0, 0, sn, false)
  else ((uRenoAck b0 b1 b2 b3 b t l).1, (uRenoAck b0 b1 b2 b3 b t l).2.1, (uRenoAck b0 b1 b2 b3 b t l).2.2.1, (uRenoAck b0 b1 b2 b3 b t l).2.2.2, al, uAdd ac b, mk, en, ct)
theorem td16 {x : Int} (h : W64 x) : IntKind.u64.wrap (Int.tdiv x 16) = x / 16 := by
  rw [Int.tdiv_eq_ediv_of_nonneg h.1, w64 (by omega)]
theorem fall16 {x : Int} (h : W64 x) : IntKind.u64.wrap (x - IntKind.u64.wrap (Int.tdiv x 16)) = x - x / 16 := by
  rw [td16 h, w64 (by omega)]
theorem mn_min (x y : Int) : mn x y = min x y := by unfold mn; split <;> omega
theorem ack_eq {b0 b1 b2 b3 al ac mk en b t lg sn g0 g5 g6 g7 : Int} {ct l u : Bool} (h0 : W64 b0) (h3 : W64 b3) (h4 : W64 al) (h5 : W64 ac) (h6 : W64 mk) (hb : W64 b) : prague_Ack.f b0 b1 b2 b3 al ac mk en ct g0 b t lg sn g5 g6 g7 l u = some (uPAck b0 b1 b2 b3 al ac mk en ct b t lg sn l) := by
  have ht := uAdd_w h5 hb
  unfold prague_Ack.f uPAck uAlpha uShare
  rw [add_eq h5 hb, renoack_eq h0 h3 hb]
  simp only [Option.bind_some]
  by_cases he : lg ≥ en
  · simp only [if_pos he]
    by_cases hz : uAdd ac b > 0
    · rw [if_pos hz, if_neg (by omega), mn_min]
      have hm : W64 (min mk (uAdd ac b)) := by omega
      have hs := uMulDiv_w hm (b := 1048576) (by omega) ht
      rw [muldiv_eq hm (by omega) ht]
      simp only [Option.bind_some]
      rw [fall16 h4, td16 hs, add_eq (by omega) (by omega)]
      rfl
    · rw [if_neg hz, if_pos (by omega), fall16 h4, add_eq (by omega) (by omega)]
      rfl
  · simp only [if_neg he]
theorem awake_eq : wigwaglaw14_awake.f = some true := by decide +kernel
theorem radd_eq {a b : Int} (ha : W64 a) (hb : W64 b) : wigwagref01_AddT.f a b = some (uAdd a b) := by unfold wigwagref01_AddT.f; rw [if_pos ⟨ha, hb⟩]
theorem rsub_eq {a b : Int} (ha : W64 a) (hb : W64 b) : wigwagref01_SubT.f a b = some (uSub a b) := by unfold wigwagref01_SubT.f; rw [if_pos ⟨ha, hb⟩]
theorem rmuldiv_eq {a b c : Int} (ha : W64 a) (hb : W64 b) (hc : W64 c) : wigwagref01_MulDivT.f a b c = some (uMulDiv a b c) := by unfold wigwagref01_MulDivT.f; rw [if_pos ⟨ha, hb, hc⟩]
theorem held_eq {a : Int} : reno_Held.f a = some (uHeld a) := rfl
theorem rheld_eq {a : Int} : wigwagref10_HeldT.f a = some (uHeld a) := rfl
theorem rrenoack_eq {c0 c1 c2 c3 b t : Int} {l : Bool} (h0 : W64 c0) (h3 : W64 c3) (hb : W64 b) : wigwagref10_Ack.f c0 c1 c2 c3 b t l = some (uRenoAck c0 c1 c2 c3 b t l) := by unfold wigwagref10_Ack.f; rw [if_pos ⟨h0, h3, hb⟩]
theorem rmark_eq {b0 b1 b2 b3 al ac mk en b t : Int} {ct : Bool} (h0 : W64 b0) (h4 : W64 al) (h6 : W64 mk) (hb : W64 b) : wigwagref14_Mark.f b0 b1 b2 b3 al ac mk en ct b t = some (uMark b0 b1 b2 b3 al ac mk en ct b t) := by
  have hd := uMulDiv_w h0 h4 (c := 2097152) (by omega)

  unfold wigwagref14_Mark.f uMark uLess
  rw [radd_eq h6 hb, rmuldiv_eq h0 h4 (by omega)]
  simp only [Option.bind_some]
  rw [rsub_eq h0 hd]
  simp only [Option.bind_some]
  rw [rheld_eq]
  simp only [Option.bind_some]
  by_cases hc : ct = true
  · rw [if_pos hc, if_pos (Or.inl hc)]
  · by_cases ht : t < b2
    · rw [if_neg hc, if_pos ht, if_pos (Or.inr ht)]
    · rw [if_neg hc, if_neg ht, if_neg (by simp only [not_or]; exact ⟨hc, ht⟩)]

theorem rshare_eq {m a : Int} (hm : W64 m) (ha : W64 a) : wigwagref14_share.f m a = some (uShare m a) := by
  unfold wigwagref14_share.f uShare
  split
  · rfl
  · split
    · rw [rmuldiv_eq ha (by omega) ha, show min m a = a by omega]; rfl
    · rw [rmuldiv_eq hm (by omega) ha, show min m a = m by omega]; rfl
theorem rack_eq {b0 b1 b2 b3 al ac mk en b t lg sn g0 g5 g6 g7 : Int} {ct l u : Bool} (h0 : W64 b0) (h3 : W64 b3) (h4 : W64 al) (h5 : W64 ac) (h6 : W64 mk) (hb : W64 b) : wigwagref14_Ack.f b0 b1 b2 b3 al ac mk en ct g0 b t lg sn g5 g6 g7 l u = some (uPAck b0 b1 b2 b3 al ac mk en ct b t lg sn l) := by
  have ht := uAdd_w h5 hb
  have hs := uShare_w h6 ht
  unfold wigwagref14_Ack.f uPAck uAlpha
  rw [radd_eq h5 hb, rrenoack_eq h0 h3 hb]
  simp only [Option.bind_some]
  by_cases he : lg ≥ en
  · simp only [if_pos he]
    rw [rshare_eq h6 ht]
    simp only [Option.bind_some]
    rw [fall16 h4, td16 hs, radd_eq (by omega) (by omega)]
    rfl
  · simp only [if_neg he]
theorem loss_eq {b0 b1 b2 b3 t s : Int} (h0 : W64 b0) (h2 : W64 s) : reno_Loss.f b0 b1 b2 b3 t s = some (if t < b2 then (b0, b1, b2, b3) else (uHeld (b0 / 2), uHeld (b0 / 2), uAdd s 1, 0)) := by
  unfold reno_Loss.f
  rw [Int.tdiv_eq_ediv_of_nonneg h0.1, w64 (by omega), held_eq, add_eq h2 (by omega)]
  simp only [Option.bind_some]
  split
  · rfl
  · split
    · rfl
    · rename_i h; simp at h; obtain ⟨e1, e2, e3, e4⟩ := h; simp only [Option.some.injEq, Prod.mk.injEq]; exact ⟨e1.symm, e2.symm, e3.symm, e4.symm⟩
theorem rloss_eq {b0 b1 b2 b3 t s : Int} (h0 : W64 b0) (h2 : W64 s) : wigwagref10_Loss.f b0 b1 b2 b3 t s = some (if t < b2 then (b0, b1, b2, b3) else (uHeld (b0 / 2), uHeld (b0 / 2), uAdd s 1, 0)) := by
  unfold wigwagref10_Loss.f
  rw [Int.tdiv_eq_ediv_of_nonneg h0.1, w64 (by omega), rheld_eq, radd_eq h2 (by omega)]
  simp only [Option.bind_some]
  split <;> rfl
end Go.Proofs.Ytaaieijkmhmecaa.PragueEqT
