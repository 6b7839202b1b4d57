/- What the functions of layer 12 answer at numbers of 64 bits, in plain words. -/
import Derived.Test.YtjjemhcddjgdaaaPCubx6
namespace Go.Proofs.Ytjjemhcddjgdaaa.CubicEq
open Go.RowKit Go.Proofs.Ytjjemhcddjgdaaa.PCub Go.Proofs.YtjjemhcddjgdaaaW.PrintWords Go.Proofs.YtjjemhcddjgdaaaW.PrintLast

theorem wf64 {a : Int} (h : (Lit.int .u64 a).wf = true) : W64 a := by
  have e1 : IntKind.u64.min = 0 := rfl
  have e2 : IntKind.u64.max = 18446744073709551615 := rfl
  simp [Lit.wf, e1, e2] at h
  omega
theorem wf32 {a : Int} (h : (Lit.int .u32 a).wf = true) : 0 ≤ a ∧ a ≤ 4294967295 := by
  have e1 : IntKind.u32.min = 0 := rfl
  have e2 : IntKind.u32.max = 4294967295 := rfl
  simp [Lit.wf, e1, e2] at h
  omega
theorem add_eq {a b : Int} (ha : W64 a) (hb : W64 b) : fix_Add.f a b = some (uAdd a b) := by unfold fix_Add.f; rw [if_pos ⟨ha, hb⟩]
theorem sub_eq {a b : Int} (ha : W64 a) (hb : W64 b) : fix_Sub.f a b = some (uSub a b) := by unfold fix_Sub.f; rw [if_pos ⟨ha, hb⟩]
theorem muldiv_eq {a b c : Int} (ha : W64 a) (hb : W64 b) (hc : W64 c) : fix_MulDivT.f a b c = some (uMulDiv a b c) := by unfold fix_MulDivT.f; rw [if_pos ⟨ha, hb, hc⟩]
theorem cbrt_eq {a : Int} (ha : W64 a) : fix_Cbrt.f a = some (uCbrt a) := by unfold fix_Cbrt.f; rw [if_pos ha]
theorem held_eq {a : Int} : reno_Held.f a = some (uHeld a) := rfl
theorem uMulDiv_mono {a d b c : Int} (ha : 0 ≤ a) (hd : W64 d) (hb : W64 b) (hc : W64 c) (h : a ≤ d) : uMulDiv a b c ≤ uMulDiv d b c := by
  have h1 := Int.mul_le_mul_of_nonneg_right h hb.1
  have h0 := Int.mul_nonneg ha hb.1
  have hw := (uMulDiv_w (a := d) (b := b) (c := c) hd hb hc).1
  have hw' := (uMulDiv_w (a := a) (b := b) (c := c) (by omega) hb hc).2
  unfold uMulDiv at *
  generalize a * b = p at *
  generalize d * b = q at *
  by_cases hz : p = 0
  · rw [if_pos hz]; exact hw
  · rw [if_neg hz, if_neg (show ¬ q = 0 by omega)] at *
    by_cases hq : c * 18446744073709551616 ≤ q
    · rw [if_pos hq]; exact hw'
    · rw [if_neg hq, if_neg (by omega)]
      exact Int.ediv_le_ediv (by omega) h1
theorem uCube_mono {a d : Int} (ha : W64 a) (hd : W64 d) (h : a ≤ d) : uCube a ≤ uCube d := by
  have b1 := cube_bd ha
  have b2 := cube_bd hd
  unfold uCube
  refine uMulDiv_mono b1.2.2.1 (by omega) (by omega) (by omega) ?_
  have h0 : 0 ≤ min a 2097152 := by omega
  have h1 : min a 2097152 ≤ min d 2097152 := by omega
  generalize min a 2097152 = x at *
  generalize min d 2097152 = y at *
  exact Int.mul_le_mul (Int.mul_le_mul h1 h1 h0 (by omega)) h1 h0 b2.1
theorem uCube_zero : uCube 0 = 0 := by decide +kernel
/-- What the cube says of a time, between nothing and all. -/
def uOut (most kk t : Int) : Int := if kk ≤ t then uAdd most (uCube (t - kk)) else uSub most (uCube (uSub kk t))
theorem uTarget_eq (c0 most kk t : Int) : uTarget c0 most kk t = min (max (uOut most kk t) c0) (uAdd c0 (c0 / 2)) := rfl
theorem uAdd_up {a x y : Int} (h : x ≤ y) : uAdd a x ≤ uAdd a y := by unfold uAdd; split <;> split <;> omega
theorem uAdd_ge {a x : Int} (ha : W64 a) (h : 0 ≤ x) : a ≤ uAdd a x := by unfold uAdd; split <;> omega
theorem uSub_le {a x : Int} (ha : W64 a) (h : 0 ≤ x) : uSub a x ≤ a := by unfold uSub; split <;> omega
theorem uSub_down {a x y : Int} (h : x ≤ y) : uSub a y ≤ uSub a x := by unfold uSub; split <;> split <;> omega
theorem uOut_mono {most kk t u : Int} (hm : W64 most) (hk : W64 kk) (ht : W64 t) (hu : W64 u) (h : t ≤ u) : uOut most kk t ≤ uOut most kk u := by
  unfold uOut
  by_cases h1 : kk ≤ t
  · rw [if_pos h1, if_pos (by omega)]
    exact uAdd_up (uCube_mono (by omega) (by omega) (by omega))
  · rw [if_neg h1]
    have w1 := uCube_w (uSub_w hk ht)
    by_cases h2 : kk ≤ u
    · rw [if_pos h2]
      have w2 := uCube_w (d := u - kk) (by omega)
      have := uAdd_ge hm w2.1
      have := uSub_le hm w1.1
      omega
    · rw [if_neg h2]
      exact uSub_down (uCube_mono (uSub_w hk hu) (uSub_w hk ht) (uSub_down h))
theorem uOut_at {most kk : Int} (hm : W64 most) : uOut most kk kk = most := by
  unfold uOut
  rw [if_pos (Int.le_refl _), show kk - kk = 0 by omega, uCube_zero]
  unfold uAdd
  rw [if_pos (by omega)]; omega
theorem target_eq {c0 c1 c2 c4 c5 c6 c7 t : Int} {c3 : Bool} (h0 : W64 c0) (h5 : W64 c5) (h6 : W64 c6) (ht : W64 t) : cubic_Target.f c0 c1 c2 c3 c4 c5 c6 c7 t = some (min (max (uOut c5 c6 t) c0) (uAdd c0 (c0 / 2))) := by
  unfold cubic_Target.f; rw [if_pos ⟨h0, h5, h6, ht⟩, uTarget_eq]
/-- The greatest window that is remembered behind a loss. -/
def uMost (c0 c5 : Int) : Int := if c0 < c5 then uMulDiv c0 17 20 else c0
def uLost (c0 : Int) : Int := uHeld (uMulDiv c0 7 10)
theorem uLost_w (c0 : Int) : W64 (uLost c0) := uHeld_w _
theorem loss_eq {c0 c1 c2 c4 c5 c6 c7 t s : Int} {c3 : Bool} (h0 : W64 c0) (hs : W64 s) : cubic_Loss.f c0 c1 c2 c3 c4 c5 c6 c7 t s = some (if t < c2 then (c0, c1, c2, c3, c4, c5, c6, c7) else (uLost c0, uLost c0, uAdd s 1, false, 0, uMost c0 c5, 0, 0)) := by
  unfold cubic_Loss.f uMost uLost
  rw [muldiv_eq h0 (b := 17) (c := 20) (by omega) (by omega), muldiv_eq h0 (b := 7) (c := 10) (by omega) (by omega)]
  simp only [Option.bind_some, held_eq]
  rw [add_eq hs (by omega)]
  simp only [Option.bind_some]
  split
  · rfl
  · split
    · split
      · rfl
      · rename_i h; simp at h; obtain ⟨e1, e2, e3, e4, e5, e6, e7, e8⟩ := h; subst e4; simp only [Option.some.injEq, Prod.mk.injEq]; exact ⟨e1.symm, e2.symm, e3.symm, trivial, e5.symm, e6.symm, e7.symm, e8.symm⟩
    · split
      · rfl
      · rename_i h; simp at h; obtain ⟨e1, e2, e3, e4, e5, e6, e7, e8⟩ := h; subst e4; simp only [Option.some.injEq, Prod.mk.injEq]; exact ⟨e1.symm, e2.symm, e3.symm, trivial, e5.symm, e6.symm, e7.symm, e8.symm⟩
/-- What holds of a window from its beginning on. -/
def Inv (c0 c1 c2 c4 c5 c6 c7 : Int) : Prop := 2400 ≤ c0 ∧ c0 ≤ 16777216 ∧ 2400 ≤ c1 ∧ c1 ≤ 16777216 ∧ W64 c2 ∧ W64 c4 ∧ W64 c5 ∧ W64 c6 ∧ W64 c7
theorem uHeld_ge {c x : Int} (h1 : c ≤ 16777216) (h : c ≤ x) : c ≤ uHeld x := by unfold uHeld; split <;> (try split) <;> omega
theorem mx_max (x y : Int) : mx x y = max x y := by unfold mx; split <;> omega
theorem ack_tail {c0 c1 c2 ep most kk est b now took : Int} {hs : Bool} (i0 : 2400 ≤ c0) (i1 : c0 ≤ 16777216) (we : W64 ep) (wm : W64 most) (wk : W64 kk) (ws : W64 est) (wb : W64 b) (wn : W64 now) (wt : W64 took) :
    ∃ D E, ((fix_MulDivT.f b 635 c0).bind fun t113 => ((fix_Add.f est t113).bind fun t114 => ((fix_Sub.f now ep).bind fun t115 => ((fix_Add.f t115 took).bind fun t116 => ((cubic_Target.f c0 c1 c2 hs ep most kk t114 t116).bind fun t117 => ((fix_MulDivT.f (IntKind.u64.wrap (t117 - c0)) b c0).bind fun t118 => ((fix_Add.f c0 t118).bind fun t119 => ((reno_Held.f (mx t114 t119)).bind fun t120 => (some (t120, c1, c2, hs, ep, most, kk, t114)))))))))) = some (D, c1, c2, hs, ep, most, kk, E) ∧ c0 ≤ D ∧ 2400 ≤ D ∧ D ≤ 16777216 ∧ W64 E := by
  have w0 : W64 c0 := by omega
  have w1 := uMulDiv_w wb (b := 635) (c := c0) (by omega) w0
  have w2 := uAdd_w ws w1
  have w3 := uSub_w wn we
  have w4 := uAdd_w w3 wt
  rw [muldiv_eq wb (by omega) w0]
  simp only [Option.bind_some]
  rw [add_eq ws w1, sub_eq wn we]
  simp only [Option.bind_some]
  rw [add_eq w3 wt]
  simp only [Option.bind_some]
  rw [target_eq w0 wm wk w4]
  simp only [Option.bind_some]
  have ha : uAdd c0 (c0 / 2) = c0 + c0 / 2 := by unfold uAdd; rw [if_pos (by omega)]
  rw [ha]
  generalize uOut most kk (uAdd (uSub now ep) took) = u
  generalize uAdd est (uMulDiv b 635 c0) = E at *
  have w5 : W64 (min (max u c0) (c0 + c0 / 2) - c0) := by omega
  rw [w64 w5]
  generalize min (max u c0) (c0 + c0 / 2) - c0 = m at *
  have w6 := uMulDiv_w w5 wb w0
  rw [muldiv_eq w5 wb w0]
  simp only [Option.bind_some]
  rw [add_eq w0 w6]
  simp only [Option.bind_some, held_eq, mx_max]
  have hg := uAdd_ge w0 w6.1
  have hin := uHeld_in (max E (uAdd c0 (uMulDiv m b c0)))
  exact ⟨_, _, rfl, uHeld_ge i1 (by omega), hin.1, hin.2, w2⟩
theorem ack_tells {c0 c1 c2 c4 c5 c6 c7 b t now took : Int} {c3 lim : Bool} (h : Inv c0 c1 c2 c4 c5 c6 c7) (wb : W64 b) (wn : W64 now) (wt : W64 took) :
    ∃ d0 d3 d4 d5 d6 d7, cubic_Ack.f c0 c1 c2 c3 c4 c5 c6 c7 b t now took lim = some (d0, c1, c2, d3, d4, d5, d6, d7) ∧ c0 ≤ d0 ∧ Inv d0 c1 c2 d4 d5 d6 d7 := by
  obtain ⟨i0, i1, i2, i3, w2, w4, w5, w6, w7⟩ := id h
  have w0 : W64 c0 := by omega
  unfold cubic_Ack.f
  by_cases h1 : lim = true
  · rw [if_pos h1]; exact ⟨_, _, _, _, _, _, rfl, Int.le_refl _, h⟩
  rw [if_neg h1]
  by_cases h2 : t < c2
  · rw [if_pos h2]; exact ⟨_, _, _, _, _, _, rfl, Int.le_refl _, h⟩
  rw [if_neg h2]
  by_cases h3 : c0 < c1
  · rw [if_pos h3, add_eq w0 wb]
    simp only [Option.bind_some, held_eq]
    have hin := uHeld_in (uAdd c0 b)
    exact ⟨_, _, _, _, _, _, rfl, uHeld_ge i1 (uAdd_ge w0 wb.1), hin.1, hin.2, i2, i3, w2, w4, w5, w6, w7⟩
  rw [if_neg h3]
  by_cases h4 : c3 = true
  · rw [if_pos h4]
    obtain ⟨D, E, e, g1, g2, g3, g4⟩ := ack_tail (c1 := c1) (c2 := c2) (hs := c3) i0 i1 w4 w5 w6 w7 wb wn wt
    exact ⟨_, _, _, _, _, _, e, g1, g2, g3, i2, i3, w2, w4, w5, w6, g4⟩
  rw [if_neg h4]
  have wm : W64 (mx c5 c0) := by rw [mx_max]; omega
  by_cases h5 : c0 < c5
  · rw [if_pos h5]
    have w8 : W64 (c5 - c0) := by omega
    have w9 := uMulDiv_w w8 (b := 1000000000) (c := 480) (by omega) (by omega)
    rw [w64 w8, muldiv_eq w8 (by omega) (by omega)]
    simp only [Option.bind_some]
    rw [cbrt_eq w9]
    rw [Option.bind_some]
    obtain ⟨r0, r1, _⟩ := uCbrt_tells w9
    obtain ⟨D, E, e, g1, g2, g3, g4⟩ := ack_tail (c1 := c1) (c2 := c2) (hs := true) (kk := uCbrt (uMulDiv (c5 - c0) 1000000000 480)) i0 i1 wn wm (by omega) w0 wb wn wt
    exact ⟨_, _, _, _, _, _, e, g1, g2, g3, i2, i3, w2, wn, wm, by omega, g4⟩
  · rw [if_neg h5]
    obtain ⟨D, E, e, g1, g2, g3, g4⟩ := ack_tail (c1 := c1) (c2 := c2) (hs := true) (kk := 0) i0 i1 wn wm (by omega) w0 wb wn wt
    exact ⟨_, _, _, _, _, _, e, g1, g2, g3, i2, i3, w2, wn, wm, by omega, g4⟩
theorem wrap64_small {x : Int} (h0 : 0 ≤ x) (h1 : x ≤ 1000) : wrap64 x = x := by unfold wrap64; omega
theorem awake_eq : wigwaglaw12_awake.f = some true := by decide +kernel
end Go.Proofs.Ytjjemhcddjgdaaa.CubicEq
