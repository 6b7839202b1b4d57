/- A model whose rate does not grow for three rounds is drained, and cycles as soon as no more than the path holds is under way: for every rate of at least 1000 and time of at least 10, with no condition. -/
import Derived.Test.YtoanhimhomgjmaaProEq
import Derived.Test.YtoanhimhomgjmaaPPrDx17
namespace Go.Proofs.Ytoanhimhomgjmaa.Pure
set_option linter.unusedVariables false
open Go.RowKit Go.Proofs.Ytoanhimhomgjmaa.PPrD Go.Proofs.Ytoanhimhomgjmaa.ProEq Go.Proofs.YtoanhimhomgjmaaW.PrintWords Go.Proofs.YtoanhimhomgjmaaW.PrintLast

theorem nil_wf : SWf [] := fun x hx => by cases hx
theorem one_wf {a b : Int} (ha : W64 a) (hb : W64 b) : SWf [⟨a, b⟩] := fun x hx => by
  obtain rfl := List.mem_singleton.1 hx
  exact ⟨ha, hb⟩
theorem awake_60 : wigwaglaw13_awake.f 60 = some true := by decide +kernel
theorem uAdd_small {a b : Int} (h : a + b ≤ 18446744073709551615) : uAdd a b = a + b := if_pos h
theorem push_one (n r m : Int) : uPush [⟨n, r⟩] 10 m r = [⟨m, r⟩] := by
  unfold uPush stays
  simp
theorem push_none (r m : Int) : uPush [] 10 m r = [⟨m, r⟩] := rfl
theorem step0 {t r : Int} (k : Nat) (hk : 30 < k) (ht : 10 ≤ t) (ht2 : t ≤ 65535) (hr : 1000 ≤ r) (hr2 : r ≤ 4294967295) :
    probe_Ack.f k 0 [] 18446744073709551615 0 0 0 0 0 0 16777216 0 0 0 0 0 t 1099511627776 r false true = some (0, [⟨1, r⟩], t, 0, r, 0, 1, 0, 0, 16777216) := by
  rw [ack_eq nil_wf (by simp) (by simp; omega) (by omega) (by omega) (by omega) (by omega) (by omega) (by omega) (by omega) (by omega) (by omega) (by omega)]
  have e1 : uAdd 0 1 = 1 := by decide +kernel
  have e2 : uHeld (uAdd 16777216 (16777216 / 8)) = 16777216 := by decide +kernel
  have e3 : uAdd 0 10000 = 10000 := by decide +kernel
  have e4 : uAdd 0 (0 / 4) = 0 := by decide +kernel
  unfold pAck
  simp only [e1, e2, e3, if_true, true_or, push_none]
  rw [decide_eq_false (by omega), if_pos (Or.inr (by omega)), if_pos (Or.inr (by omega))]
  unfold pMove
  rw [if_pos rfl, if_pos ⟨rfl, rfl⟩, e4, if_pos ⟨by show r > 0; omega, by show r ≥ 0; omega⟩]
  rfl
theorem stepn {t r : Int} (k : Nat) (hk : 30 < k) (ht : 10 ≤ t) (ht2 : t ≤ 65535) (hr : 1000 ≤ r) (hr2 : r ≤ 4294967295) (n : Int) (hn : 0 ≤ n) (hn2 : n ≤ 2) :
    probe_Ack.f k 0 [⟨n + 1, r⟩] t 0 r n (n + 1) 0 0 16777216 (n + 1) 0 0 0 0 t 1099511627776 r false true = some (if n + 1 = 3 then 1 else 0, [⟨n + 2, r⟩], t, 0, r, n + 1, n + 2, 0, 0, 16777216) := by
  rw [ack_eq (one_wf (by omega) (by omega)) (by simp) (by simp; omega) (by omega) (by omega) (by omega) (by omega) (by omega) (by omega) (by omega) (by omega) (by omega) (by omega)]
  have e1 : uAdd (n + 1) 1 = n + 2 := by rw [uAdd_small (by omega)]; omega
  have e5 : uAdd n 1 = n + 1 := by rw [uAdd_small (by omega)]
  have e2 : uHeld (uAdd 16777216 (16777216 / 8)) = 16777216 := by decide +kernel
  have e3 : uAdd 0 10000 = 10000 := by decide +kernel
  have e4 : uAdd r (r / 4) = r + r / 4 := uAdd_small (by omega)
  unfold pAck
  simp only [e1, e2, e3, if_true, true_or, push_one]
  rw [decide_eq_false (by omega), if_neg (by simp), if_neg (by simp)]
  unfold pMove
  rw [if_pos rfl, if_pos ⟨rfl, rfl⟩, e4, e5]
  have hb : uBest [⟨n + 2, r⟩] = r := rfl
  rw [hb, if_neg (by omega)]
  split <;> rfl
theorem holds_eq {t r : Int} (ht : 10 ≤ t) (ht2 : t ≤ 65535) (hr : 1000 ≤ r) (hr2 : r ≤ 4294967295) : uProd [⟨4, r⟩] t 256 = r * t / 1000 ∧ 0 ≤ r * t ∧ r * t ≤ 4294967295 * 65535 ∧ 1 ≤ r * t := by
  have hm := mul_bd (a := r) (b := t) (A := 4294967295) (B := 65535) (by omega) hr2 (by omega) ht2
  have h1 : 1 ≤ r * t := by
    have := Int.mul_le_mul (show 1 ≤ r by omega) (show 1 ≤ t by omega) (by omega) (show 0 ≤ r by omega)
    omega
  refine ⟨?_, hm.1, hm.2, h1⟩
  unfold uProd uGain
  rw [if_neg (by omega)]
  have hb : uBest [⟨4, r⟩] = r := rfl
  rw [hb]
  have e1 : uMulDiv r t 1000 = r * t / 1000 := by
    unfold uMulDiv
    rw [if_neg (by omega), if_neg (by omega)]
  rw [e1]
  unfold uMulDiv
  by_cases hz : r * t / 1000 * 256 = 0
  · rw [if_pos hz]; omega
  · rw [if_neg hz, if_neg (by omega)]; omega
theorem stepa {t r : Int} (k : Nat) (hk : 30 < k) (ht : 10 ≤ t) (ht2 : t ≤ 65535) (hr : 1000 ≤ r) (hr2 : r ≤ 4294967295) (f : Int) :
    probe_Ack.f k 1 [⟨4, r⟩] t 0 r 3 4 0 0 16777216 5 0 0 0 0 t f r false false = some (if f ≤ uProd [⟨4, r⟩] t 256 then (2, [⟨4, r⟩], t, 0, r, 3, 4, 0, 5, 16777216) else (1, [⟨4, r⟩], t, 0, r, 3, 4, 0, 0, 16777216)) := by
  rw [ack_eq (one_wf (by omega) (by omega)) (by simp) (by simp; omega) (by omega) (by omega) (by omega) (by omega) (by omega) (by omega) (by omega) (by omega) (by omega) (by omega)]
  have e3 : uAdd 0 10000 = 10000 := by decide +kernel
  unfold pAck
  simp only [e3, if_true, true_or, push_one, Bool.false_eq_true, if_false]
  rw [decide_eq_false (by omega), if_neg (by simp), if_neg (by simp)]
  unfold pMove
  rw [if_neg (by omega), if_pos rfl]
theorem run (a0 a1 : Int) (k4 : Nat) (hk : 50 < k4) (q0 : 1000 ≤ a0 ∧ a0 ≤ 4294967295) (q1 : 10 ≤ a1 ∧ a1 ≤ 65535) : wigwaglaw13_ProbeDrains.l0 (k4 + 1 + 1 + 1 + 1 + 1) a0 a1 true 0 0 [] 18446744073709551615 0 0 0 0 0 0 16777216 = some true := by
  have s0 := step0 (k4 + 1 + 1 + 1 + 1) (by omega) (t := a1) (r := a0) (by omega) (by omega) (by omega) (by omega)
  have s1 := stepn (k4 + 1 + 1 + 1) (by omega) (t := a1) (r := a0) (by omega) (by omega) (by omega) (by omega) 0 (by omega) (by omega)
  have s2 := stepn (k4 + 1 + 1) (by omega) (t := a1) (r := a0) (by omega) (by omega) (by omega) (by omega) 1 (by omega) (by omega)
  have s3 := stepn (k4 + 1) (by omega) (t := a1) (r := a0) (by omega) (by omega) (by omega) (by omega) 2 (by omega) (by omega)
  rw [show (0 : Int) + 1 = 1 from rfl, show (0 : Int) + 2 = 2 from rfl, if_neg (by decide)] at s1
  rw [show (1 : Int) + 1 = 2 from rfl, show (1 : Int) + 2 = 3 from rfl, if_neg (by decide)] at s2
  rw [show (2 : Int) + 1 = 3 from rfl, show (2 : Int) + 2 = 4 from rfl, if_pos rfl] at s3
  obtain ⟨hp, m0, m1, m2⟩ := holds_eq (t := a1) (r := a0) (by omega) (by omega) (by omega) (by omega)
  have sa := stepa k4 (by omega) (t := a1) (r := a0) (by omega) (by omega) (by omega) (by omega) (uProd [⟨4, a0⟩] a1 256)
  have sb := stepa k4 (by omega) (t := a1) (r := a0) (by omega) (by omega) (by omega) (by omega) (IntKind.u64.wrap (uProd [⟨4, a0⟩] a1 256 + 1))
  rw [if_pos (Int.le_refl _)] at sa
  have hwr : IntKind.u64.wrap (uProd [⟨4, a0⟩] a1 256 + 1) = uProd [⟨4, a0⟩] a1 256 + 1 := by rw [hp]; exact w64 (by omega)
  rw [hwr, if_neg (by omega)] at sb
  have hq : Int.tdiv (IntKind.u64.wrap (a0 * a1)) 1000 = a0 * a1 / 1000 := by
    rw [w64 (by omega), Int.tdiv_eq_ediv_of_nonneg m0]
  have hq2 : IntKind.u64.wrap (a0 * a1 / 1000) = a0 * a1 / 1000 := w64 (by omega)
  have hpw := prod_eq (a0 := 1) (a3 := 0) (a4 := a0) (a5 := 3) (a6 := 4) (a7 := 0) (a8 := 0) (a9 := 16777216) (a2 := a1) (parts := 256) (one_wf (a := 4) (b := a0) (by omega) (by omega)) (by omega) (by omega)
  have u0 : IntKind.u64.wrap a0 = a0 := w64 (by omega)
  have u1 : IntKind.u64.wrap a1 = a1 := w64 (by omega)
  have i0 : IntKind.u64.wrap 0 = 0 := by decide +kernel
  have i1 : IntKind.u64.wrap 1 = 1 := by decide +kernel
  have i2 : IntKind.u64.wrap 2 = 2 := by decide +kernel
  have i3 : IntKind.u64.wrap 3 = 3 := by decide +kernel
  have v0 : wrap64 (0 + 1) = 1 := by decide +kernel
  have v1 : wrap64 (1 + 1) = 2 := by decide +kernel
  have v2 : wrap64 (2 + 1) = 3 := by decide +kernel
  have v3 : wrap64 (3 + 1) = 4 := by decide +kernel
  rw [wigwaglaw13_ProbeDrains.l0]
  rw [if_pos (by decide), if_pos rfl, i0, u0, u1, s0, v0]
  simp only [Option.bind_some]
  rw [wigwaglaw13_ProbeDrains.l0]
  rw [if_pos (by decide), if_pos rfl, i1, u0, u1, s1, v1]
  simp only [Option.bind_some]
  rw [wigwaglaw13_ProbeDrains.l0]
  rw [if_pos (by decide), if_pos rfl, i2, u0, u1, s2, v2]
  simp only [Option.bind_some]
  rw [wigwaglaw13_ProbeDrains.l0]
  rw [if_pos (by decide), if_pos rfl, i3, u0, u1, s3, v3]
  simp only [Option.bind_some]
  rw [wigwaglaw13_ProbeDrains.l0]
  rw [if_neg (by decide), u0, u1, hpw]
  simp only [Option.bind_some]
  rw [sa, hwr, sb]
  simp only [Option.bind_some, if_true]
  rw [hq, hp, hq2]
  simp
theorem ProbeDrains : wigwaglaw13_ProbeDrains.Pure := by
  intro a0 a1 w0 w1
  have q0 := wf32 w0
  have q1 := wf16 w1
  obtain ⟨k4, hk⟩ : ∃ k : Nat, k = 55 := ⟨55, rfl⟩
  have hw : wigwaglaw13_awake.f (k4 + 1 + 1 + 1 + 1 + 1) = some true := by subst hk; exact awake_60
  refine ⟨k4 + 1 + 1 + 1 + 1 + 1, ?_⟩
  unfold wigwaglaw13_ProbeDrains.f
  rw [hw]
  simp only [Option.bind_some]
  by_cases h1 : a0 < 1000
  · rw [if_pos h1]
  rw [if_neg h1]
  by_cases h2 : a1 < 10
  · rw [if_pos h2]
  rw [if_neg h2]
  have hn : probe_New.f 0 = some (0, [], 18446744073709551615, 0, 0, 0, 0, 0, 0, 16777216) := rfl
  rw [hn]
  simp only [Option.bind_some]
  exact run a0 a1 k4 (by omega) (by omega) (by omega)
end Go.Proofs.Ytoanhimhomgjmaa.Pure
