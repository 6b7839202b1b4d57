/- Several texts of this claim in one: PPrNx2 PPrNx3 PPrNx4 PPrNx5 PPrNx6 PPrNx7 PPrNx8 PPrNx9 PPrNx18 PPrNx19 PPrNx1 -/
import Derived.Test.YtoanhimhomgjmaaKA
section
namespace Go.Proofs.Ytoanhimhomgjmaa.PPrN
open Go.RowKit Go.Proofs.YtoanhimhomgjmaaW.PrintWords Go.Proofs.YtoanhimhomgjmaaW.PrintLast Go.Proofs.YtoanhimhomgjmaaW.PrintMore
attribute [local go_sem] max2_int min2_int max_two min_two max_three min_three max_four min_four   -- for this text's walks alone
set_option linter.unusedVariables false
set_option linter.unusedSimpArgs false
def filt_Best.f (l0 : List (S52)) : Option (Int) := if (l0.length : Int) = 0 then (some 0) else (if 0 < (l0.length : Int) then (some ((rd_T52 l0 0).f1)) else (none))
set_option maxHeartbeats 8000000 in
set_option maxRecDepth 100000 in
theorem filt_Best.calls (A0 : Option Addr) (c0 : Nat) (l0 : List (S52)) (r : Int) (w : World) (hr0 : Kd.C k52 w A0 l0.length l0) (hc0 : l0.length ≤ c0) (h : filt_Best.f l0 = some r) :
    Calls Try.prog 23 #[.slice A0 l0.length c0] w fun e w' => e = .returned (.int .u64 r) ∧ Drawn0 w w' := by
  have HR0 := Aside0.mk hr0
  have HC0 := Aside0.mk hc0
  clear hr0 hc0
  have H : (if (l0.length : Int) = 0 then (some 0) else (if 0 < (l0.length : Int) then (some ((rd_T52 l0 0).f1)) else (none))) = some r := h
  clear h
  by_cases c2 : (l0.length : Int) = 0
  · rw [if_pos c2] at H
    have c2b0 : ((l0.length : Int) == 0) = true := beq_iff_eq.mpr c2
    have c2b1 : ((l0.length : Int) != 0) = false := bne_eq_false_iff_eq.mpr c2
    clear c2
    obtain rfl := Option.some.inj H
    go_enter Try.func23, Try.ntmps23
    go_wp2
    go_ret
    exact ⟨by first | rfl | (simp; done) | (simp [*]; done), by repeat (first | exact Drawn0.refl _ | apply Drawn0.step)⟩
  · rw [if_neg c2] at H
    have c2b0 : ((l0.length : Int) == 0) = false := beq_eq_false_iff_ne.mpr c2
    have c2b1 : ((l0.length : Int) != 0) = true := bne_iff_ne.mpr c2
    have c2b2 : ¬ (l0 = []) := fun h_ => c2 (by rw [h_]; rfl)
    by_cases c3 : 0 < (l0.length : Int)
    · rw [if_pos c3] at H
      have c3b0 : decide (0 < (l0.length : Int)) = true := decide_eq_true c3
      have c3b1 : decide (0 < l0.length) = true := decide_eq_true (by omega)
      clear c3
      obtain rfl := Option.some.inj H
      have p101 : 0 ≤ (0 : Int) := (by omega)
      have q101 : 0 < (l0.length : Int) := of_decide_eq_true (by first | (with_reducible assumption) | assumption)
      obtain ⟨ad101, e101, hx101_0, hx101_1⟩ := at_T52 HR0.out 0 p101 q101
      cases e101
      have qi101 : (0 < l0.length) = True := eq_true (by omega)
      (try rw [show ((0 : Int)).toNat = 0 from rfl] at hx101_0)
      (try rw [show 0 * 2 = 0 from rfl] at hx101_0)
      (try rw [Addr.add_zero'] at hx101_0)
      (try rw [show ((0 : Int)).toNat = 0 from rfl] at hx101_1)
      (try rw [show 0 * 2 = 0 from rfl] at hx101_1)
      (try rw [Addr.add_zero'] at hx101_1)
      replace p101 := eq_true p101
      replace q101 := eq_true q101
      go_enter Try.func23, Try.ntmps23
      go_wp2
      go_ret
      exact ⟨by first | rfl | (simp; done) | (simp [*]; done), by repeat (first | exact Drawn0.refl _ | apply Drawn0.step)⟩
    · rw [if_neg c3] at H
      exact absurd H (by simp)
def bits_Mul64.f (a0 : Int) (a1 : Int) : Option (Int × Int) := if W64 a0 ∧ W64 a1 then some (a0 * a1 / 18446744073709551616, a0 * a1 % 18446744073709551616) else none
theorem bits_Mul64.calls (a0 : Int) (a1 : Int) (r1 : Int) (r2 : Int) (w : World) (h : bits_Mul64.f a0 a1 = some (r1, r2)) :
    Calls Try.prog 46 #[.int .u64 a0, .int .u64 a1] w fun e w' => e = .returned (.tuple #[.int .u64 r1, .int .u64 r2]) ∧ Drawn0 w w' := by
  unfold bits_Mul64.f at h
  split at h
  · rename_i hw
    obtain ⟨⟨h0, h1⟩, h2, h3⟩ := hw
    obtain ⟨x, rfl⟩ := Int.eq_ofNat_of_zero_le h0
    obtain ⟨y, rfl⟩ := Int.eq_ofNat_of_zero_le h2
    simp only [Option.some.injEq, Prod.mk.injEq] at h
    obtain ⟨rfl, rfl⟩ := h
    refine (Go.Proofs.Try.bits_Mul64 x y (by omega) (by omega) w).mono ?_
    rintro e w' ⟨rfl, rfl⟩
    exact ⟨rfl, Drawn0.refl _⟩
  · cases h
def bits_LeadingZeros64.f (a0 : Int) : Option Int := if W64 a0 then some (64 - (Lib.bitLen a0.toNat : Int)) else none
theorem bits_LeadingZeros64.calls (a0 : Int) (r : Int) (w : World) (h : bits_LeadingZeros64.f a0 = some r) :
    Calls Try.prog 49 #[.int .u64 a0] w fun e w' => e = .returned (.int .i64 r) ∧ Drawn0 w w' := by
  unfold bits_LeadingZeros64.f at h
  split at h
  · rename_i hw
    obtain rfl := Option.some.inj h
    refine (Go.Proofs.Try.bits_LeadingZeros64 a0 w hw.1 hw.2).mono ?_
    rintro e w' ⟨rfl, rfl⟩
    exact ⟨rfl, Drawn0.refl _⟩
  · cases h
attribute [local go_sem] max2_int min2_int max_two min_two max_three min_three max_four min_four   -- for this text's walks alone
set_option linter.unusedVariables false
set_option linter.unusedSimpArgs false
mutual
def bits_Div64.j2 : Nat → Int → Int → Int → Int → Int → Int → Int → Int → Option (Int × Int)
  | 0, _, _, _, _, _, _, _, _ => none
  | k + 1, x2, x8, x9, x10, x11, x13, x14, x15 => if x9 = 0 then (none) else (bits_Div64.l1 k x2 x8 x9 x10 x14 x15 (IntKind.u64.wrap ((IntKind.u64.wrap ((IntKind.u64.wrap ((IntKind.u64.wrap (x11 * 4294967296)) + x13)) - (IntKind.u64.wrap (x15 * x2)))) - (IntKind.u64.wrap ((IntKind.u64.wrap (Int.tdiv (IntKind.u64.wrap ((IntKind.u64.wrap ((IntKind.u64.wrap (x11 * 4294967296)) + x13)) - (IntKind.u64.wrap (x15 * x2)))) x9)) * x9)))) (IntKind.u64.wrap ((IntKind.u64.wrap ((IntKind.u64.wrap (x11 * 4294967296)) + x13)) - (IntKind.u64.wrap (x15 * x2)))) (IntKind.u64.wrap (Int.tdiv (IntKind.u64.wrap ((IntKind.u64.wrap ((IntKind.u64.wrap (x11 * 4294967296)) + x13)) - (IntKind.u64.wrap (x15 * x2)))) x9)))
def bits_Div64.l1 : Nat → Int → Int → Int → Int → Int → Int → Int → Int → Int → Option (Int × Int)
  | 0, _, _, _, _, _, _, _, _, _ => none
  | k + 1, x2, x8, x9, x10, x14, x15, x16, x17, x18 => if x18 ≥ 4294967296 then (bits_Div64.j4 k x2 x8 x9 x10 x14 x15 x16 x17 x18 true) else (bits_Div64.j4 k x2 x8 x9 x10 x14 x15 x16 x17 x18 (decide ((IntKind.u64.wrap (x18 * x10)) > (IntKind.u64.wrap ((IntKind.u64.wrap (4294967296 * x16)) + x14)))))
def bits_Div64.j4 : Nat → Int → Int → Int → Int → Int → Int → Int → Int → Int → Bool → Option (Int × Int)
  | 0, _, _, _, _, _, _, _, _, _, _ => none
  | k + 1, x2, x8, x9, x10, x14, x15, x16, x17, x18, x113 => if x113 = true then (if (IntKind.u64.wrap (x16 + x9)) ≥ 4294967296 then (if 0 ≤ x8 then (some (IntKind.u64.wrap ((IntKind.u64.wrap (x15 * 4294967296)) + (IntKind.u64.wrap (x18 - 1))), shr .u64 (IntKind.u64.wrap ((IntKind.u64.wrap ((IntKind.u64.wrap (x17 * 4294967296)) + x14)) - (IntKind.u64.wrap ((IntKind.u64.wrap (x18 - 1)) * x2)))) x8)) else (none)) else (bits_Div64.l1 k x2 x8 x9 x10 x14 x15 (IntKind.u64.wrap (x16 + x9)) x17 (IntKind.u64.wrap (x18 - 1)))) else (if 0 ≤ x8 then (some (IntKind.u64.wrap ((IntKind.u64.wrap (x15 * 4294967296)) + x18), shr .u64 (IntKind.u64.wrap ((IntKind.u64.wrap ((IntKind.u64.wrap (x17 * 4294967296)) + x14)) - (IntKind.u64.wrap (x18 * x2)))) x8)) else (none))
def bits_Div64.l0 : Nat → Int → Int → Int → Int → Int → Int → Int → Int → Int → Option (Int × Int)
  | 0, _, _, _, _, _, _, _, _, _ => none
  | k + 1, x2, x8, x9, x10, x11, x13, x14, x15, x16 => if x15 ≥ 4294967296 then (bits_Div64.j1 k x2 x8 x9 x10 x11 x13 x14 x15 x16 true) else (bits_Div64.j1 k x2 x8 x9 x10 x11 x13 x14 x15 x16 (decide ((IntKind.u64.wrap (x15 * x10)) > (IntKind.u64.wrap ((IntKind.u64.wrap (4294967296 * x16)) + x13)))))
def bits_Div64.j1 : Nat → Int → Int → Int → Int → Int → Int → Int → Int → Int → Bool → Option (Int × Int)
  | 0, _, _, _, _, _, _, _, _, _, _ => none
  | k + 1, x2, x8, x9, x10, x11, x13, x14, x15, x16, x78 => if x78 = true then (if (IntKind.u64.wrap (x16 + x9)) ≥ 4294967296 then (bits_Div64.j2 k x2 x8 x9 x10 x11 x13 x14 (IntKind.u64.wrap (x15 - 1))) else (bits_Div64.l0 k x2 x8 x9 x10 x11 x13 x14 (IntKind.u64.wrap (x15 - 1)) (IntKind.u64.wrap (x16 + x9)))) else (bits_Div64.j2 k x2 x8 x9 x10 x11 x13 x14 x15)
end
def bits_Div64.f (k : Nat) (a0 : Int) (a1 : Int) (a2 : Int) : Option (Int × Int) := if a2 = 0 then (none) else (if a2 ≤ a0 then (none) else (if a0 = 0 then (some (IntKind.u64.wrap (Int.tdiv a1 a2), Int.tmod a1 a2)) else ((bits_LeadingZeros64.f a2).bind fun t102 => (if 0 ≤ (IntKind.u64.wrap (t102)) then (if 0 ≤ (IntKind.u64.wrap (64 - (IntKind.u64.wrap (t102)))) then (if ((shl .u64 a2 (IntKind.u64.wrap (t102))) / 4294967296) = 0 then (none) else (bits_Div64.l0 k (shl .u64 a2 (IntKind.u64.wrap (t102))) (IntKind.u64.wrap (t102)) ((shl .u64 a2 (IntKind.u64.wrap (t102))) / 4294967296) (Go.bits .and .u64 (shl .u64 a2 (IntKind.u64.wrap (t102))) 4294967295) (Go.bits .or .u64 (shl .u64 a0 (IntKind.u64.wrap (t102))) (shr .u64 a1 (IntKind.u64.wrap (64 - (IntKind.u64.wrap (t102)))))) ((shl .u64 a1 (IntKind.u64.wrap (t102))) / 4294967296) (Go.bits .and .u64 (shl .u64 a1 (IntKind.u64.wrap (t102))) 4294967295) (IntKind.u64.wrap (Int.tdiv (Go.bits .or .u64 (shl .u64 a0 (IntKind.u64.wrap (t102))) (shr .u64 a1 (IntKind.u64.wrap (64 - (IntKind.u64.wrap (t102)))))) ((shl .u64 a2 (IntKind.u64.wrap (t102))) / 4294967296))) (IntKind.u64.wrap ((Go.bits .or .u64 (shl .u64 a0 (IntKind.u64.wrap (t102))) (shr .u64 a1 (IntKind.u64.wrap (64 - (IntKind.u64.wrap (t102)))))) - (IntKind.u64.wrap ((IntKind.u64.wrap (Int.tdiv (Go.bits .or .u64 (shl .u64 a0 (IntKind.u64.wrap (t102))) (shr .u64 a1 (IntKind.u64.wrap (64 - (IntKind.u64.wrap (t102)))))) ((shl .u64 a2 (IntKind.u64.wrap (t102))) / 4294967296))) * ((shl .u64 a2 (IntKind.u64.wrap (t102))) / 4294967296))))))) else (none)) else (none)))))
set_option maxHeartbeats 8000000 in
set_option maxRecDepth 100000 in
theorem bits_Div64.calls (k : Nat) (a0 : Int) (a1 : Int) (a2 : Int) (r1 : Int) (r2 : Int) (w : World) (h : bits_Div64.f k a0 a1 a2 = some (r1, r2)) :
    Calls Try.prog 47 #[.int .u64 a0, .int .u64 a1, .int .u64 a2] w fun e w' => e = .returned (.tuple #[.int .u64 r1, .int .u64 r2]) ∧ Drawn0 w w' := by
  have H : (if a2 = 0 then (none) else (if a2 ≤ a0 then (none) else (if a0 = 0 then (some (IntKind.u64.wrap (Int.tdiv a1 a2), Int.tmod a1 a2)) else ((bits_LeadingZeros64.f a2).bind fun t102 => (if 0 ≤ (IntKind.u64.wrap (t102)) then (if 0 ≤ (IntKind.u64.wrap (64 - (IntKind.u64.wrap (t102)))) then (if ((shl .u64 a2 (IntKind.u64.wrap (t102))) / 4294967296) = 0 then (none) else (bits_Div64.l0 k (shl .u64 a2 (IntKind.u64.wrap (t102))) (IntKind.u64.wrap (t102)) ((shl .u64 a2 (IntKind.u64.wrap (t102))) / 4294967296) (Go.bits .and .u64 (shl .u64 a2 (IntKind.u64.wrap (t102))) 4294967295) (Go.bits .or .u64 (shl .u64 a0 (IntKind.u64.wrap (t102))) (shr .u64 a1 (IntKind.u64.wrap (64 - (IntKind.u64.wrap (t102)))))) ((shl .u64 a1 (IntKind.u64.wrap (t102))) / 4294967296) (Go.bits .and .u64 (shl .u64 a1 (IntKind.u64.wrap (t102))) 4294967295) (IntKind.u64.wrap (Int.tdiv (Go.bits .or .u64 (shl .u64 a0 (IntKind.u64.wrap (t102))) (shr .u64 a1 (IntKind.u64.wrap (64 - (IntKind.u64.wrap (t102)))))) ((shl .u64 a2 (IntKind.u64.wrap (t102))) / 4294967296))) (IntKind.u64.wrap ((Go.bits .or .u64 (shl .u64 a0 (IntKind.u64.wrap (t102))) (shr .u64 a1 (IntKind.u64.wrap (64 - (IntKind.u64.wrap (t102)))))) - (IntKind.u64.wrap ((IntKind.u64.wrap (Int.tdiv (Go.bits .or .u64 (shl .u64 a0 (IntKind.u64.wrap (t102))) (shr .u64 a1 (IntKind.u64.wrap (64 - (IntKind.u64.wrap (t102)))))) ((shl .u64 a2 (IntKind.u64.wrap (t102))) / 4294967296))) * ((shl .u64 a2 (IntKind.u64.wrap (t102))) / 4294967296))))))) else (none)) else (none)))))) = some (r1, r2) := h
  clear h
  by_cases c4 : a2 = 0
  · rw [if_pos c4] at H
    exact absurd H (by simp)
  · rw [if_neg c4] at H
    have c4b0 : (a2 == 0) = false := beq_eq_false_iff_ne.mpr c4
    have c4b1 : (a2 != 0) = true := bne_iff_ne.mpr c4
    by_cases c5 : a2 ≤ a0
    · rw [if_pos c5] at H
      exact absurd H (by simp)
    · rw [if_neg c5] at H
      have c5b0 : decide (a2 ≤ a0) = false := decide_eq_false c5
      clear c5
      by_cases c6 : a0 = 0
      · rw [if_pos c6] at H
        have c6b0 : (a0 == 0) = true := beq_iff_eq.mpr c6
        have c6b1 : (a0 != 0) = false := bne_eq_false_iff_eq.mpr c6
        clear c6
        simp only [Option.some.injEq, Prod.mk.injEq] at H
        obtain ⟨rfl, rfl⟩ := H
        go_enter Try.func47, Try.ntmps47
        go_wp2
        repeat (go_quiet (fail); try go_wp2)
        go_ret2
        exact ⟨by first | rfl | (simp; done) | (simp [*]; done), by repeat (first | exact Drawn0.refl _ | apply Drawn0.step)⟩
      · rw [if_neg c6] at H
        have c6b0 : (a0 == 0) = false := beq_eq_false_iff_ne.mpr c6
        have c6b1 : (a0 != 0) = true := bne_iff_ne.mpr c6
        replace H := Option.bind_eq_some_iff.mp H
        obtain ⟨t102, A70, H⟩ := H
        replace H : (if 0 ≤ (IntKind.u64.wrap (t102)) then (if 0 ≤ (IntKind.u64.wrap (64 - (IntKind.u64.wrap (t102)))) then (if ((shl .u64 a2 (IntKind.u64.wrap (t102))) / 4294967296) = 0 then (none) else (bits_Div64.l0 k (shl .u64 a2 (IntKind.u64.wrap (t102))) (IntKind.u64.wrap (t102)) ((shl .u64 a2 (IntKind.u64.wrap (t102))) / 4294967296) (Go.bits .and .u64 (shl .u64 a2 (IntKind.u64.wrap (t102))) 4294967295) (Go.bits .or .u64 (shl .u64 a0 (IntKind.u64.wrap (t102))) (shr .u64 a1 (IntKind.u64.wrap (64 - (IntKind.u64.wrap (t102)))))) ((shl .u64 a1 (IntKind.u64.wrap (t102))) / 4294967296) (Go.bits .and .u64 (shl .u64 a1 (IntKind.u64.wrap (t102))) 4294967295) (IntKind.u64.wrap (Int.tdiv (Go.bits .or .u64 (shl .u64 a0 (IntKind.u64.wrap (t102))) (shr .u64 a1 (IntKind.u64.wrap (64 - (IntKind.u64.wrap (t102)))))) ((shl .u64 a2 (IntKind.u64.wrap (t102))) / 4294967296))) (IntKind.u64.wrap ((Go.bits .or .u64 (shl .u64 a0 (IntKind.u64.wrap (t102))) (shr .u64 a1 (IntKind.u64.wrap (64 - (IntKind.u64.wrap (t102)))))) - (IntKind.u64.wrap ((IntKind.u64.wrap (Int.tdiv (Go.bits .or .u64 (shl .u64 a0 (IntKind.u64.wrap (t102))) (shr .u64 a1 (IntKind.u64.wrap (64 - (IntKind.u64.wrap (t102)))))) ((shl .u64 a2 (IntKind.u64.wrap (t102))) / 4294967296))) * ((shl .u64 a2 (IntKind.u64.wrap (t102))) / 4294967296))))))) else (none)) else (none)) = some (r1, r2) := H
        have A7 := Aside0.mk A70
        clear A70
        obtain ⟨ji8, hji8⟩ : ∃ j_ : Int, (IntKind.u64.wrap (t102)) = j_ := ⟨_, rfl⟩
        replace H : (if 0 ≤ (ji8) then (if 0 ≤ (IntKind.u64.wrap (64 - (ji8))) then (if ((shl .u64 a2 (ji8)) / 4294967296) = 0 then (none) else (bits_Div64.l0 k (shl .u64 a2 (ji8)) ji8 ((shl .u64 a2 (ji8)) / 4294967296) (Go.bits .and .u64 (shl .u64 a2 (ji8)) 4294967295) (Go.bits .or .u64 (shl .u64 a0 (ji8)) (shr .u64 a1 (IntKind.u64.wrap (64 - (ji8))))) ((shl .u64 a1 (ji8)) / 4294967296) (Go.bits .and .u64 (shl .u64 a1 (ji8)) 4294967295) (IntKind.u64.wrap (Int.tdiv (Go.bits .or .u64 (shl .u64 a0 (ji8)) (shr .u64 a1 (IntKind.u64.wrap (64 - (ji8))))) ((shl .u64 a2 (ji8)) / 4294967296))) (IntKind.u64.wrap ((Go.bits .or .u64 (shl .u64 a0 (ji8)) (shr .u64 a1 (IntKind.u64.wrap (64 - (ji8))))) - (IntKind.u64.wrap ((IntKind.u64.wrap (Int.tdiv (Go.bits .or .u64 (shl .u64 a0 (ji8)) (shr .u64 a1 (IntKind.u64.wrap (64 - (ji8))))) ((shl .u64 a2 (ji8)) / 4294967296))) * ((shl .u64 a2 (ji8)) / 4294967296))))))) else (none)) else (none)) = some (r1, r2) := by first | (rw [hji8] at H; exact H) | (simp only [hji8] at H ⊢; exact H)
        (try rw [hji8] at A7)
        by_cases c9 : 0 ≤ (ji8)
        · rw [if_pos c9] at H
          have c9b0 := eq_true c9
          have c9b1 : decide (0 ≤ (ji8)) = true := decide_eq_true c9
          clear c9
          obtain ⟨ji10, hji10⟩ : ∃ j_ : Int, (shl .u64 a2 (ji8)) = j_ := ⟨_, rfl⟩
          replace H : (if 0 ≤ (IntKind.u64.wrap (64 - (ji8))) then (if ((ji10) / 4294967296) = 0 then (none) else (bits_Div64.l0 k ji10 ji8 ((ji10) / 4294967296) (Go.bits .and .u64 (ji10) 4294967295) (Go.bits .or .u64 (shl .u64 a0 (ji8)) (shr .u64 a1 (IntKind.u64.wrap (64 - (ji8))))) ((shl .u64 a1 (ji8)) / 4294967296) (Go.bits .and .u64 (shl .u64 a1 (ji8)) 4294967295) (IntKind.u64.wrap (Int.tdiv (Go.bits .or .u64 (shl .u64 a0 (ji8)) (shr .u64 a1 (IntKind.u64.wrap (64 - (ji8))))) ((ji10) / 4294967296))) (IntKind.u64.wrap ((Go.bits .or .u64 (shl .u64 a0 (ji8)) (shr .u64 a1 (IntKind.u64.wrap (64 - (ji8))))) - (IntKind.u64.wrap ((IntKind.u64.wrap (Int.tdiv (Go.bits .or .u64 (shl .u64 a0 (ji8)) (shr .u64 a1 (IntKind.u64.wrap (64 - (ji8))))) ((ji10) / 4294967296))) * ((ji10) / 4294967296))))))) else (none)) = some (r1, r2) := by first | (rw [hji10] at H; exact H) | (simp only [hji10] at H ⊢; exact H)
          (try rw [hji10] at A7)
          have hji10_ : (IntKind.u64.wrap (a2 * 2 ^ min (ji8).toNat 64)) = ji10 := hji10
          have hji10z : (ji8) ≤ 64 → (IntKind.u64.wrap (a2 * 2 ^ (ji8).toNat)) = ji10 := shl_small hji10
          have c11b0 := eq_true (of_decide_eq_true (by first | (with_reducible assumption) | assumption) : 0 ≤ (ji8))
          obtain ⟨ji12, hji12⟩ : ∃ j_ : Int, (shl .u64 a0 (ji8)) = j_ := ⟨_, rfl⟩
          replace H : (if 0 ≤ (IntKind.u64.wrap (64 - (ji8))) then (if ((ji10) / 4294967296) = 0 then (none) else (bits_Div64.l0 k ji10 ji8 ((ji10) / 4294967296) (Go.bits .and .u64 (ji10) 4294967295) (Go.bits .or .u64 (ji12) (shr .u64 a1 (IntKind.u64.wrap (64 - (ji8))))) ((shl .u64 a1 (ji8)) / 4294967296) (Go.bits .and .u64 (shl .u64 a1 (ji8)) 4294967295) (IntKind.u64.wrap (Int.tdiv (Go.bits .or .u64 (ji12) (shr .u64 a1 (IntKind.u64.wrap (64 - (ji8))))) ((ji10) / 4294967296))) (IntKind.u64.wrap ((Go.bits .or .u64 (ji12) (shr .u64 a1 (IntKind.u64.wrap (64 - (ji8))))) - (IntKind.u64.wrap ((IntKind.u64.wrap (Int.tdiv (Go.bits .or .u64 (ji12) (shr .u64 a1 (IntKind.u64.wrap (64 - (ji8))))) ((ji10) / 4294967296))) * ((ji10) / 4294967296))))))) else (none)) = some (r1, r2) := by first | (rw [hji12] at H; exact H) | (simp only [hji12] at H ⊢; exact H)
          (try rw [hji12] at A7)
          have hji12_ : (IntKind.u64.wrap (a0 * 2 ^ min (ji8).toNat 64)) = ji12 := hji12
          have hji12z : (ji8) ≤ 64 → (IntKind.u64.wrap (a0 * 2 ^ (ji8).toNat)) = ji12 := shl_small hji12
          obtain ⟨ji13, hji13⟩ : ∃ j_ : Int, (IntKind.u64.wrap (64 - (ji8))) = j_ := ⟨_, rfl⟩
          replace H : (if 0 ≤ (ji13) then (if ((ji10) / 4294967296) = 0 then (none) else (bits_Div64.l0 k ji10 ji8 ((ji10) / 4294967296) (Go.bits .and .u64 (ji10) 4294967295) (Go.bits .or .u64 (ji12) (shr .u64 a1 (ji13))) ((shl .u64 a1 (ji8)) / 4294967296) (Go.bits .and .u64 (shl .u64 a1 (ji8)) 4294967295) (IntKind.u64.wrap (Int.tdiv (Go.bits .or .u64 (ji12) (shr .u64 a1 (ji13))) ((ji10) / 4294967296))) (IntKind.u64.wrap ((Go.bits .or .u64 (ji12) (shr .u64 a1 (ji13))) - (IntKind.u64.wrap ((IntKind.u64.wrap (Int.tdiv (Go.bits .or .u64 (ji12) (shr .u64 a1 (ji13))) ((ji10) / 4294967296))) * ((ji10) / 4294967296))))))) else (none)) = some (r1, r2) := by first | (rw [hji13] at H; exact H) | (simp only [hji13] at H ⊢; exact H)
          (try rw [hji13] at A7)
          by_cases c14 : 0 ≤ (ji13)
          · rw [if_pos c14] at H
            have c14b0 := eq_true c14
            have c14b1 : decide (0 ≤ (ji13)) = true := decide_eq_true c14
            clear c14
            obtain ⟨ji15, hji15⟩ : ∃ j_ : Int, (shr .u64 a1 (ji13)) = j_ := ⟨_, rfl⟩
            replace H : (if ((ji10) / 4294967296) = 0 then (none) else (bits_Div64.l0 k ji10 ji8 ((ji10) / 4294967296) (Go.bits .and .u64 (ji10) 4294967295) (Go.bits .or .u64 (ji12) (ji15)) ((shl .u64 a1 (ji8)) / 4294967296) (Go.bits .and .u64 (shl .u64 a1 (ji8)) 4294967295) (IntKind.u64.wrap (Int.tdiv (Go.bits .or .u64 (ji12) (ji15)) ((ji10) / 4294967296))) (IntKind.u64.wrap ((Go.bits .or .u64 (ji12) (ji15)) - (IntKind.u64.wrap ((IntKind.u64.wrap (Int.tdiv (Go.bits .or .u64 (ji12) (ji15)) ((ji10) / 4294967296))) * ((ji10) / 4294967296))))))) = some (r1, r2) := by first | (rw [hji15] at H; exact H) | (simp only [hji15] at H ⊢; exact H)
            (try rw [hji15] at A7)
            have hji15_ : (a1 / 2 ^ min (ji13).toNat 64) = ji15 := hji15
            have hji15z : (ji13) ≤ 64 → (a1 / 2 ^ (ji13).toNat) = ji15 := shr_small hji15
            have c16b0 := eq_true (of_decide_eq_true (by first | (with_reducible assumption) | assumption) : 0 ≤ (ji8))
            obtain ⟨ji17, hji17⟩ : ∃ j_ : Int, (shl .u64 a1 (ji8)) = j_ := ⟨_, rfl⟩
            replace H : (if ((ji10) / 4294967296) = 0 then (none) else (bits_Div64.l0 k ji10 ji8 ((ji10) / 4294967296) (Go.bits .and .u64 (ji10) 4294967295) (Go.bits .or .u64 (ji12) (ji15)) ((ji17) / 4294967296) (Go.bits .and .u64 (ji17) 4294967295) (IntKind.u64.wrap (Int.tdiv (Go.bits .or .u64 (ji12) (ji15)) ((ji10) / 4294967296))) (IntKind.u64.wrap ((Go.bits .or .u64 (ji12) (ji15)) - (IntKind.u64.wrap ((IntKind.u64.wrap (Int.tdiv (Go.bits .or .u64 (ji12) (ji15)) ((ji10) / 4294967296))) * ((ji10) / 4294967296))))))) = some (r1, r2) := by first | (rw [hji17] at H; exact H) | (simp only [hji17] at H ⊢; exact H)
            (try rw [hji17] at A7)
            have hji17_ : (IntKind.u64.wrap (a1 * 2 ^ min (ji8).toNat 64)) = ji17 := hji17
            have hji17z : (ji8) ≤ 64 → (IntKind.u64.wrap (a1 * 2 ^ (ji8).toNat)) = ji17 := shl_small hji17
            by_cases c18 : ((ji10) / 4294967296) = 0
            · rw [if_pos c18] at H
              exact absurd H (by simp)
            · rw [if_neg c18] at H
              have c18b0 : (((ji10) / 4294967296) == 0) = false := beq_eq_false_iff_ne.mpr c18
              have c18b1 : (((ji10) / 4294967296) != 0) = true := bne_iff_ne.mpr c18
              have HC19 := Aside0.mk H
              clear H
              go_enter Try.func47, Try.ntmps47
              go_upto_block 0 with (first | (go_at_call 49; (with_reducible refine (bits_LeadingZeros64.calls a2 t102 _ A7.out).mono ?_); rintro e w' ⟨rfl, ⟨nd, rfl⟩⟩; (try first | exact ⟨rfl, _, World.drewN_drewN _ _ _⟩ | exact ⟨rfl, _, Eq.trans (World.drewN_drewN ..) (congrArg (World.drewN _) (Nat.add_assoc ..))⟩)))
              repeat (go_quiet (first | (go_at_call 49; (with_reducible refine (bits_LeadingZeros64.calls a2 t102 _ A7.out).mono ?_); rintro e w' ⟨rfl, ⟨nd, rfl⟩⟩; (try first | exact ⟨rfl, _, World.drewN_drewN _ _ _⟩ | exact ⟨rfl, _, Eq.trans (World.drewN_drewN ..) (congrArg (World.drewN _) (Nat.add_assoc ..))⟩))); go_upto_block 0 with (first | (go_at_call 49; (with_reducible refine (bits_LeadingZeros64.calls a2 t102 _ A7.out).mono ?_); rintro e w' ⟨rfl, ⟨nd, rfl⟩⟩; (try first | exact ⟨rfl, _, World.drewN_drewN _ _ _⟩ | exact ⟨rfl, _, Eq.trans (World.drewN_drewN ..) (congrArg (World.drewN _) (Nat.add_assoc ..))⟩))))
              (try simp only [Act.put, List.setIfInBounds_toArray, List.set_cons_zero, List.set_cons_succ])
              go_cut [15] (fun v15 wc => ∃ (kq : Nat) (x15_18 : Int), v15 = .int .u64 x15_18 ∧ Aside0 (bits_Div64.j2 kq ji10 ji8 ((ji10) / 4294967296) (Go.bits .and .u64 (ji10) 4294967295) (Go.bits .or .u64 (ji12) (ji15)) ((ji17) / 4294967296) (Go.bits .and .u64 (ji17) 4294967295) x15_18 = some (r1, r2)) ∧ Aside0 (kq ≤ k) ∧ Drawn0 w wc)
              case first =>
                have H := HC19.out
                clear HC19
                have H' := Aside0.mk H
                clear H
                go_wp2
                repeat (go_quiet (fail); try go_wp2)
                go_loopg [15, 16] k (fun kq v15 v16 w' => ∃ (x15_1 : Int) (x16_1 : Int), v15 = .int .u64 x15_1 ∧ v16 = .int .u64 x16_1 ∧ Aside0 (bits_Div64.l0 kq ji10 ji8 ((ji10) / 4294967296) (Go.bits .and .u64 (ji10) 4294967295) (Go.bits .or .u64 (ji12) (ji15)) ((ji17) / 4294967296) (Go.bits .and .u64 (ji17) 4294967295) x15_1 x16_1 = some (r1, r2)) ∧ Aside0 (kq ≤ k) ∧ Drawn0 w w')
                case atStart => exact ⟨(IntKind.u64.wrap (Int.tdiv (Go.bits .or .u64 (ji12) (ji15)) ((ji10) / 4294967296))), (IntKind.u64.wrap ((Go.bits .or .u64 (ji12) (ji15)) - (IntKind.u64.wrap ((IntKind.u64.wrap (Int.tdiv (Go.bits .or .u64 (ji12) (ji15)) ((ji10) / 4294967296))) * ((ji10) / 4294967296))))), (by first | rfl | (simp; done) | (simp only [← hji10, ← hji12, ← hji15] <;> (first | rfl | simp)) | (simp [*]; done)), (by first | rfl | (simp; done) | (simp only [← hji10, ← hji12, ← hji15] <;> (first | rfl | simp)) | (simp [*]; done)), H', ⟨Nat.le_refl _⟩, by repeat (first | exact Drawn0.refl _ | apply Drawn0.step)⟩
                case round =>
                  clear H'
                  try clear c1
                  try clear p2
                  try clear c4
                  try clear c4b0
                  try clear c4b1
                  try clear c5
                  try clear c5b0
                  try clear c6
                  try clear c6b0
                  try clear c6b1
                  try clear c9
                  try clear c9b0
                  try clear c9b1
                  try clear c11
                  try clear c11b0
                  try clear c14
                  try clear c14b0
                  try clear c14b1
                  try clear c16
                  try clear c16b0
                  try clear c18
                  try clear c18b0
                  try clear c18b1
                  obtain ⟨x15_1, x16_1, rfl, rfl, HA, HK1, ⟨m1, rfl⟩⟩ := hrel
                  cases gk with
                  | zero => exact absurd HA.out (by simp [bits_Div64.l0])
                  | succ k1 =>
                    have H := HA.out
                    clear HA
                    simp only [bits_Div64.l0] at H
                    have HC20 := Aside0.mk H
                    clear H
                    go_upto_region 17 with (fail)
                    repeat (go_quiet (fail); go_upto_region 17 with (fail))
                    go_cut [78] (fun v78 wc => ∃ (kq : Nat) (x78_19 : Bool), v78 = .bool x78_19 ∧ Aside0 (bits_Div64.j1 kq ji10 ji8 ((ji10) / 4294967296) (Go.bits .and .u64 (ji10) 4294967295) (Go.bits .or .u64 (ji12) (ji15)) ((ji17) / 4294967296) (Go.bits .and .u64 (ji17) 4294967295) x15_1 x16_1 x78_19 = some (r1, r2)) ∧ Aside0 (kq ≤ k1) ∧ Drawn0 w wc)
                    case first =>
                      have H := HC20.out
                      clear HC20
                      by_cases c21 : x15_1 ≥ 4294967296
                      · rw [if_pos c21] at H
                        have c21b0 : decide (4294967296 ≤ x15_1) = true := decide_eq_true c21
                        clear c21
                        (first | rw [c21b0] | (simp only [i64_w, i32_w]; rw [c21b0]) | skip)
                        have H' := Aside0.mk H
                        clear H
                        go_wp2
                        repeat (go_quiet (fail); try go_wp2)
                        go_meet
                        case rel => exact ⟨_, (true), (by first | rfl | (simp; done) | (simp [*]; done)), H', ⟨by have := HK1.out; first | omega | exact Nat.le_refl _⟩, by repeat (first | exact Drawn0.refl _ | apply Drawn0.step)⟩
                      · rw [if_neg c21] at H
                        have c21b0 : decide (4294967296 ≤ x15_1) = false := decide_eq_false c21
                        clear c21
                        (first | rw [c21b0] | (simp only [i64_w, i32_w]; rw [c21b0]) | skip)
                        have H' := Aside0.mk H
                        clear H
                        go_wp2
                        repeat (go_quiet (fail); try go_wp2)
                        go_meet
                        case rel => exact ⟨_, (decide ((IntKind.u64.wrap (x15_1 * (Go.bits .and .u64 (ji10) 4294967295))) > (IntKind.u64.wrap ((IntKind.u64.wrap (4294967296 * x16_1)) + ((ji17) / 4294967296))))), (by first | rfl | (simp; done) | (simp only [← hji10, ← hji17] <;> (first | rfl | simp)) | (simp [*]; done)), H', ⟨by have := HK1.out; first | omega | exact Nat.le_refl _⟩, by repeat (first | exact Drawn0.refl _ | apply Drawn0.step)⟩
                    case rest =>
                      clear HC20
                      try clear c1
                      try clear c2
                      try clear p2
                      try clear c4
                      try clear c4b0
                      try clear c4b1
                      try clear c5
                      try clear c5b0
                      try clear c6
                      try clear c6b0
                      try clear c6b1
                      try clear c9
                      try clear c9b0
                      try clear c9b1
                      try clear c11
                      try clear c11b0
                      try clear c14
                      try clear c14b0
                      try clear c14b1
                      try clear c16
                      try clear c16b0
                      try clear c18
                      try clear c18b0
                      try clear c18b1
                      try clear c21
                      try clear c21b0
                      try clear p2
                      obtain ⟨kq, x78_19, rfl, HA, HJ19, ⟨mc19, rfl⟩⟩ := hcut
                      cases kq with
                      | zero => exact absurd HA.out (by simp [bits_Div64.j1])
                      | succ kj19 =>
                        have H := HA.out
                        clear HA
                        simp only [bits_Div64.j1] at H
                        by_cases c22 : x78_19 = true
                        · subst c22
                          have H1 : (if (IntKind.u64.wrap (x16_1 + ((ji10) / 4294967296))) ≥ 4294967296 then (bits_Div64.j2 kj19 ji10 ji8 ((ji10) / 4294967296) (Go.bits .and .u64 (ji10) 4294967295) (Go.bits .or .u64 (ji12) (ji15)) ((ji17) / 4294967296) (Go.bits .and .u64 (ji17) 4294967295) (IntKind.u64.wrap (x15_1 - 1))) else (bits_Div64.l0 kj19 ji10 ji8 ((ji10) / 4294967296) (Go.bits .and .u64 (ji10) 4294967295) (Go.bits .or .u64 (ji12) (ji15)) ((ji17) / 4294967296) (Go.bits .and .u64 (ji17) 4294967295) (IntKind.u64.wrap (x15_1 - 1)) (IntKind.u64.wrap (x16_1 + ((ji10) / 4294967296))))) = some (r1, r2) := by rw [if_pos rfl] at H; exact H
                          clear H
                          have H := H1
                          clear H1
                          by_cases c23 : (IntKind.u64.wrap (x16_1 + ((ji10) / 4294967296))) ≥ 4294967296
                          · rw [if_pos c23] at H
                            have c23b0 : decide (4294967296 ≤ (IntKind.u64.wrap (x16_1 + ((ji10) / 4294967296)))) = true := decide_eq_true c23
                            clear c23
                            have H' := Aside0.mk H
                            clear H
                            go_wp2
                            repeat (go_quiet (fail); try go_wp2)
                            go_meet
                            case rel => exact ⟨_, (IntKind.u64.wrap (x15_1 - 1)), (by first | rfl | (simp; done) | (simp [*]; done)), H', ⟨by have := HK1.out; have := HJ19.out; first | omega | exact Nat.le_refl _⟩, by repeat (first | exact Drawn0.refl _ | apply Drawn0.step)⟩
                          · rw [if_neg c23] at H
                            have c23b0 : decide (4294967296 ≤ (IntKind.u64.wrap (x16_1 + ((ji10) / 4294967296)))) = false := decide_eq_false c23
                            clear c23
                            have H' := Aside0.mk H
                            clear H
                            go_wp2
                            repeat (go_quiet (fail); try go_wp2)
                            go_roundg kj19
                            case measure => have := HK1.out; have := HJ19.out; omega
                            case rel => exact ⟨(IntKind.u64.wrap (x15_1 - 1)), (IntKind.u64.wrap (x16_1 + ((ji10) / 4294967296))), (by first | rfl | (simp; done) | (simp [*]; done)), (by first | rfl | (simp; done) | (simp only [← hji10] <;> (first | rfl | simp)) | (simp [*]; done)), H', ⟨by have := HK1.out; have := HJ19.out; omega⟩, by repeat (first | exact Drawn0.refl _ | apply Drawn0.step)⟩
                        · replace c22 := Bool.eq_false_iff.mpr c22
                          subst c22
                          have H1 : (bits_Div64.j2 kj19 ji10 ji8 ((ji10) / 4294967296) (Go.bits .and .u64 (ji10) 4294967295) (Go.bits .or .u64 (ji12) (ji15)) ((ji17) / 4294967296) (Go.bits .and .u64 (ji17) 4294967295) x15_1) = some (r1, r2) := by rw [if_neg (show ¬ (false = true) by decide)] at H; exact H
                          clear H
                          have H := H1
                          clear H1
                          have H' := Aside0.mk H
                          clear H
                          go_wp2
                          repeat (go_quiet (fail); try go_wp2)
                          go_meet
                          case rel => exact ⟨_, (x15_1), (by first | rfl | (simp; done) | (simp [*]; done)), H', ⟨by have := HK1.out; have := HJ19.out; first | omega | exact Nat.le_refl _⟩, by repeat (first | exact Drawn0.refl _ | apply Drawn0.step)⟩
              case rest =>
                clear HC19
                try clear c1
                try clear c2
                try clear p2
                try clear c4
                try clear c4b0
                try clear c4b1
                try clear c5
                try clear c5b0
                try clear c6
                try clear c6b0
                try clear c6b1
                try clear c9
                try clear c9b0
                try clear c9b1
                try clear c11
                try clear c11b0
                try clear c14
                try clear c14b0
                try clear c14b1
                try clear c16
                try clear c16b0
                try clear c18
                try clear c18b0
                try clear c18b1
                try clear c19
                try clear c21
                try clear c21b0
                try clear c22
                try clear c23
                try clear c23b0
                try clear p2
                obtain ⟨kq, x15_18, rfl, HA, HJ18, ⟨mc18, rfl⟩⟩ := hcut
                cases kq with
                | zero => exact absurd HA.out (by simp [bits_Div64.j2])
                | succ kj18 =>
                  have H := HA.out
                  clear HA
                  simp only [bits_Div64.j2] at H
                  by_cases c24 : ((ji10) / 4294967296) = 0
                  · rw [if_pos c24] at H
                    exact absurd H (by simp)
                  · rw [if_neg c24] at H
                    have c24b0 : (((ji10) / 4294967296) == 0) = false := beq_eq_false_iff_ne.mpr c24
                    have c24b1 : (((ji10) / 4294967296) != 0) = true := bne_iff_ne.mpr c24
                    have H' := Aside0.mk H
                    clear H
                    go_wp2
                    repeat (go_quiet (fail); try go_wp2)
                    go_loopg [16, 18] kj18 (fun kq v16 v18 w' => ∃ (x16_2 : Int) (x18_2 : Int), v16 = .int .u64 x16_2 ∧ v18 = .int .u64 x18_2 ∧ Aside0 (bits_Div64.l1 kq ji10 ji8 ((ji10) / 4294967296) (Go.bits .and .u64 (ji10) 4294967295) (Go.bits .and .u64 (ji17) 4294967295) x15_18 x16_2 (IntKind.u64.wrap ((IntKind.u64.wrap ((IntKind.u64.wrap ((Go.bits .or .u64 (ji12) (ji15)) * 4294967296)) + ((ji17) / 4294967296))) - (IntKind.u64.wrap (x15_18 * ji10)))) x18_2 = some (r1, r2)) ∧ Aside0 (kq ≤ kj18) ∧ Drawn0 w w')
                    case atStart => exact ⟨(IntKind.u64.wrap ((IntKind.u64.wrap ((IntKind.u64.wrap ((IntKind.u64.wrap ((Go.bits .or .u64 (ji12) (ji15)) * 4294967296)) + ((ji17) / 4294967296))) - (IntKind.u64.wrap (x15_18 * ji10)))) - (IntKind.u64.wrap ((IntKind.u64.wrap (Int.tdiv (IntKind.u64.wrap ((IntKind.u64.wrap ((IntKind.u64.wrap ((Go.bits .or .u64 (ji12) (ji15)) * 4294967296)) + ((ji17) / 4294967296))) - (IntKind.u64.wrap (x15_18 * ji10)))) ((ji10) / 4294967296))) * ((ji10) / 4294967296))))), (IntKind.u64.wrap (Int.tdiv (IntKind.u64.wrap ((IntKind.u64.wrap ((IntKind.u64.wrap ((Go.bits .or .u64 (ji12) (ji15)) * 4294967296)) + ((ji17) / 4294967296))) - (IntKind.u64.wrap (x15_18 * ji10)))) ((ji10) / 4294967296))), (by first | rfl | (simp; done) | (simp only [← hji10, ← hji12, ← hji15, ← hji17] <;> (first | rfl | simp)) | (simp [*]; done)), (by first | rfl | (simp; done) | (simp only [← hji10, ← hji12, ← hji15, ← hji17] <;> (first | rfl | simp)) | (simp [*]; done)), H', ⟨Nat.le_refl _⟩, by repeat (first | exact Drawn0.refl _ | apply Drawn0.step)⟩
                    case round =>
                      clear H'
                      try clear c1
                      try clear c2
                      try clear p2
                      try clear c4
                      try clear c4b0
                      try clear c4b1
                      try clear c5
                      try clear c5b0
                      try clear c6
                      try clear c6b0
                      try clear c6b1
                      try clear c9
                      try clear c9b0
                      try clear c9b1
                      try clear c11
                      try clear c11b0
                      try clear c14
                      try clear c14b0
                      try clear c14b1
                      try clear c16
                      try clear c16b0
                      try clear c18
                      try clear c18b0
                      try clear c18b1
                      try clear c19
                      try clear c21
                      try clear c21b0
                      try clear c22
                      try clear c23
                      try clear c23b0
                      try clear c24
                      try clear c24b0
                      try clear c24b1
                      try clear p2
                      obtain ⟨x16_2, x18_2, rfl, rfl, HA, HK2, ⟨m2, rfl⟩⟩ := hrel
                      cases gk with
                      | zero => exact absurd HA.out (by simp [bits_Div64.l1])
                      | succ k2 =>
                        have H := HA.out
                        clear HA
                        simp only [bits_Div64.l1] at H
                        have HC25 := Aside0.mk H
                        clear H
                        go_upto_region 24 with (fail)
                        repeat (go_quiet (fail); go_upto_region 24 with (fail))
                        go_cut [113] (fun v113 wc => ∃ (kq : Nat) (x113_24 : Bool), v113 = .bool x113_24 ∧ Aside0 (bits_Div64.j4 kq ji10 ji8 ((ji10) / 4294967296) (Go.bits .and .u64 (ji10) 4294967295) (Go.bits .and .u64 (ji17) 4294967295) x15_18 x16_2 (IntKind.u64.wrap ((IntKind.u64.wrap ((IntKind.u64.wrap ((Go.bits .or .u64 (ji12) (ji15)) * 4294967296)) + ((ji17) / 4294967296))) - (IntKind.u64.wrap (x15_18 * ji10)))) x18_2 x113_24 = some (r1, r2)) ∧ Aside0 (kq ≤ k2) ∧ Drawn0 w wc)
                        case first =>
                          have H := HC25.out
                          clear HC25
                          by_cases c26 : x18_2 ≥ 4294967296
                          · rw [if_pos c26] at H
                            have c26b0 : decide (4294967296 ≤ x18_2) = true := decide_eq_true c26
                            clear c26
                            (first | rw [c26b0] | (simp only [i64_w, i32_w]; rw [c26b0]) | skip)
                            have H' := Aside0.mk H
                            clear H
                            go_wp2
                            repeat (go_quiet (fail); try go_wp2)
                            go_meet
                            case rel => exact ⟨_, (true), (by first | rfl | (simp; done) | (simp [*]; done)), H', ⟨by have := HJ18.out; have := HK2.out; first | omega | exact Nat.le_refl _⟩, by repeat (first | exact Drawn0.refl _ | apply Drawn0.step)⟩
                          · rw [if_neg c26] at H
                            have c26b0 : decide (4294967296 ≤ x18_2) = false := decide_eq_false c26
                            clear c26
                            (first | rw [c26b0] | (simp only [i64_w, i32_w]; rw [c26b0]) | skip)
                            have H' := Aside0.mk H
                            clear H
                            go_wp2
                            repeat (go_quiet (fail); try go_wp2)
                            go_meet
                            case rel => exact ⟨_, (decide ((IntKind.u64.wrap (x18_2 * (Go.bits .and .u64 (ji10) 4294967295))) > (IntKind.u64.wrap ((IntKind.u64.wrap (4294967296 * x16_2)) + (Go.bits .and .u64 (ji17) 4294967295))))), (by first | rfl | (simp; done) | (simp only [← hji10, ← hji17] <;> (first | rfl | simp)) | (simp [*]; done)), H', ⟨by have := HJ18.out; have := HK2.out; first | omega | exact Nat.le_refl _⟩, by repeat (first | exact Drawn0.refl _ | apply Drawn0.step)⟩
                        case rest =>
                          clear HC25
                          try clear c1
                          try clear c2
                          try clear p2
                          try clear c4
                          try clear c4b0
                          try clear c4b1
                          try clear c5
                          try clear c5b0
                          try clear c6
                          try clear c6b0
                          try clear c6b1
                          try clear c9
                          try clear c9b0
                          try clear c9b1
                          try clear c11
                          try clear c11b0
                          try clear c14
                          try clear c14b0
                          try clear c14b1
                          try clear c16
                          try clear c16b0
                          try clear c18
                          try clear c18b0
                          try clear c18b1
                          try clear c19
                          try clear c21
                          try clear c21b0
                          try clear c22
                          try clear c23
                          try clear c23b0
                          try clear c24
                          try clear c24b0
                          try clear c24b1
                          try clear c26
                          try clear c26b0
                          try clear p2
                          obtain ⟨kq, x113_24, rfl, HA, HJ24, ⟨mc24, rfl⟩⟩ := hcut
                          cases kq with
                          | zero => exact absurd HA.out (by simp [bits_Div64.j4])
                          | succ kj24 =>
                            have H := HA.out
                            clear HA
                            simp only [bits_Div64.j4] at H
                            by_cases c27 : x113_24 = true
                            · subst c27
                              have H1 : (if (IntKind.u64.wrap (x16_2 + ((ji10) / 4294967296))) ≥ 4294967296 then (if 0 ≤ ji8 then (some (IntKind.u64.wrap ((IntKind.u64.wrap (x15_18 * 4294967296)) + (IntKind.u64.wrap (x18_2 - 1))), shr .u64 (IntKind.u64.wrap ((IntKind.u64.wrap ((IntKind.u64.wrap ((IntKind.u64.wrap ((IntKind.u64.wrap ((IntKind.u64.wrap ((Go.bits .or .u64 (ji12) (ji15)) * 4294967296)) + ((ji17) / 4294967296))) - (IntKind.u64.wrap (x15_18 * ji10)))) * 4294967296)) + (Go.bits .and .u64 (ji17) 4294967295))) - (IntKind.u64.wrap ((IntKind.u64.wrap (x18_2 - 1)) * ji10)))) ji8)) else (none)) else (bits_Div64.l1 kj24 ji10 ji8 ((ji10) / 4294967296) (Go.bits .and .u64 (ji10) 4294967295) (Go.bits .and .u64 (ji17) 4294967295) x15_18 (IntKind.u64.wrap (x16_2 + ((ji10) / 4294967296))) (IntKind.u64.wrap ((IntKind.u64.wrap ((IntKind.u64.wrap ((Go.bits .or .u64 (ji12) (ji15)) * 4294967296)) + ((ji17) / 4294967296))) - (IntKind.u64.wrap (x15_18 * ji10)))) (IntKind.u64.wrap (x18_2 - 1)))) = some (r1, r2) := by rw [if_pos rfl] at H; exact H
                              clear H
                              have H := H1
                              clear H1
                              by_cases c28 : (IntKind.u64.wrap (x16_2 + ((ji10) / 4294967296))) ≥ 4294967296
                              · rw [if_pos c28] at H
                                have c28b0 : decide (4294967296 ≤ (IntKind.u64.wrap (x16_2 + ((ji10) / 4294967296)))) = true := decide_eq_true c28
                                clear c28
                                by_cases c29 : 0 ≤ ji8
                                · rw [if_pos c29] at H
                                  have c29b0 := eq_true c29
                                  have c29b1 : decide (0 ≤ ji8) = true := decide_eq_true c29
                                  clear c29
                                  obtain ⟨ji30, hji30⟩ : ∃ j_ : Int, (shr .u64 (IntKind.u64.wrap ((IntKind.u64.wrap ((IntKind.u64.wrap ((IntKind.u64.wrap ((IntKind.u64.wrap ((IntKind.u64.wrap ((Go.bits .or .u64 (ji12) (ji15)) * 4294967296)) + ((ji17) / 4294967296))) - (IntKind.u64.wrap (x15_18 * ji10)))) * 4294967296)) + (Go.bits .and .u64 (ji17) 4294967295))) - (IntKind.u64.wrap ((IntKind.u64.wrap (x18_2 - 1)) * ji10)))) ji8) = j_ := ⟨_, rfl⟩
                                  replace H : (some (IntKind.u64.wrap ((IntKind.u64.wrap (x15_18 * 4294967296)) + (IntKind.u64.wrap (x18_2 - 1))), ji30)) = some (r1, r2) := by first | (rw [hji30] at H; exact H) | (simp only [hji30] at H ⊢; exact H)
                                  have hji30_ : ((IntKind.u64.wrap ((IntKind.u64.wrap ((IntKind.u64.wrap ((IntKind.u64.wrap ((IntKind.u64.wrap ((IntKind.u64.wrap ((Go.bits .or .u64 (ji12) (ji15)) * 4294967296)) + ((ji17) / 4294967296))) - (IntKind.u64.wrap (x15_18 * ji10)))) * 4294967296)) + (Go.bits .and .u64 (ji17) 4294967295))) - (IntKind.u64.wrap ((IntKind.u64.wrap (x18_2 - 1)) * ji10)))) / 2 ^ min ji8.toNat 64) = ji30 := hji30
                                  have hji30z : ji8 ≤ 64 → ((IntKind.u64.wrap ((IntKind.u64.wrap ((IntKind.u64.wrap ((IntKind.u64.wrap ((IntKind.u64.wrap ((IntKind.u64.wrap ((Go.bits .or .u64 (ji12) (ji15)) * 4294967296)) + ((ji17) / 4294967296))) - (IntKind.u64.wrap (x15_18 * ji10)))) * 4294967296)) + (Go.bits .and .u64 (ji17) 4294967295))) - (IntKind.u64.wrap ((IntKind.u64.wrap (x18_2 - 1)) * ji10)))) / 2 ^ ji8.toNat) = ji30 := shr_small hji30
                                  simp only [Option.some.injEq, Prod.mk.injEq] at H
                                  obtain ⟨rfl, rfl⟩ := H
                                  go_wp2
                                  repeat (go_quiet (fail); try go_wp2)
                                  go_ret2
                                  exact ⟨by first | rfl | (simp; done) | (simp only [← hji8, ← hji10, ← hji12, ← hji13, ← hji15, ← hji17, ← hji30] <;> (first | rfl | simp)) | (simp [*]; done), by repeat (first | exact Drawn0.refl _ | apply Drawn0.step)⟩
                                · rw [if_neg c29] at H
                                  exact absurd H (by simp)
                              · rw [if_neg c28] at H
                                have c28b0 : decide (4294967296 ≤ (IntKind.u64.wrap (x16_2 + ((ji10) / 4294967296)))) = false := decide_eq_false c28
                                clear c28
                                have H' := Aside0.mk H
                                clear H
                                go_wp2
                                repeat (go_quiet (fail); try go_wp2)
                                go_roundg kj24
                                case measure => have := HJ18.out; have := HK2.out; have := HJ24.out; omega
                                case rel => exact ⟨(IntKind.u64.wrap (x16_2 + ((ji10) / 4294967296))), (IntKind.u64.wrap (x18_2 - 1)), (by first | rfl | (simp; done) | (simp only [← hji10] <;> (first | rfl | simp)) | (simp [*]; done)), (by first | rfl | (simp; done) | (simp [*]; done)), H', ⟨by have := HJ18.out; have := HK2.out; have := HJ24.out; omega⟩, by repeat (first | exact Drawn0.refl _ | apply Drawn0.step)⟩
                            · replace c27 := Bool.eq_false_iff.mpr c27
                              subst c27
                              have H1 : (if 0 ≤ ji8 then (some (IntKind.u64.wrap ((IntKind.u64.wrap (x15_18 * 4294967296)) + x18_2), shr .u64 (IntKind.u64.wrap ((IntKind.u64.wrap ((IntKind.u64.wrap ((IntKind.u64.wrap ((IntKind.u64.wrap ((IntKind.u64.wrap ((Go.bits .or .u64 (ji12) (ji15)) * 4294967296)) + ((ji17) / 4294967296))) - (IntKind.u64.wrap (x15_18 * ji10)))) * 4294967296)) + (Go.bits .and .u64 (ji17) 4294967295))) - (IntKind.u64.wrap (x18_2 * ji10)))) ji8)) else (none)) = some (r1, r2) := by rw [if_neg (show ¬ (false = true) by decide)] at H; exact H
                              clear H
                              have H := H1
                              clear H1
                              by_cases c31 : 0 ≤ ji8
                              · rw [if_pos c31] at H
                                have c31b0 := eq_true c31
                                have c31b1 : decide (0 ≤ ji8) = true := decide_eq_true c31
                                clear c31
                                obtain ⟨ji32, hji32⟩ : ∃ j_ : Int, (shr .u64 (IntKind.u64.wrap ((IntKind.u64.wrap ((IntKind.u64.wrap ((IntKind.u64.wrap ((IntKind.u64.wrap ((IntKind.u64.wrap ((Go.bits .or .u64 (ji12) (ji15)) * 4294967296)) + ((ji17) / 4294967296))) - (IntKind.u64.wrap (x15_18 * ji10)))) * 4294967296)) + (Go.bits .and .u64 (ji17) 4294967295))) - (IntKind.u64.wrap (x18_2 * ji10)))) ji8) = j_ := ⟨_, rfl⟩
                                replace H : (some (IntKind.u64.wrap ((IntKind.u64.wrap (x15_18 * 4294967296)) + x18_2), ji32)) = some (r1, r2) := by first | (rw [hji32] at H; exact H) | (simp only [hji32] at H ⊢; exact H)
                                have hji32_ : ((IntKind.u64.wrap ((IntKind.u64.wrap ((IntKind.u64.wrap ((IntKind.u64.wrap ((IntKind.u64.wrap ((IntKind.u64.wrap ((Go.bits .or .u64 (ji12) (ji15)) * 4294967296)) + ((ji17) / 4294967296))) - (IntKind.u64.wrap (x15_18 * ji10)))) * 4294967296)) + (Go.bits .and .u64 (ji17) 4294967295))) - (IntKind.u64.wrap (x18_2 * ji10)))) / 2 ^ min ji8.toNat 64) = ji32 := hji32
                                have hji32z : ji8 ≤ 64 → ((IntKind.u64.wrap ((IntKind.u64.wrap ((IntKind.u64.wrap ((IntKind.u64.wrap ((IntKind.u64.wrap ((IntKind.u64.wrap ((Go.bits .or .u64 (ji12) (ji15)) * 4294967296)) + ((ji17) / 4294967296))) - (IntKind.u64.wrap (x15_18 * ji10)))) * 4294967296)) + (Go.bits .and .u64 (ji17) 4294967295))) - (IntKind.u64.wrap (x18_2 * ji10)))) / 2 ^ ji8.toNat) = ji32 := shr_small hji32
                                simp only [Option.some.injEq, Prod.mk.injEq] at H
                                obtain ⟨rfl, rfl⟩ := H
                                go_wp2
                                repeat (go_quiet (fail); try go_wp2)
                                go_ret2
                                exact ⟨by first | rfl | (simp; done) | (simp only [← hji8, ← hji10, ← hji12, ← hji13, ← hji15, ← hji17, ← hji32] <;> (first | rfl | simp)) | (simp [*]; done), by repeat (first | exact Drawn0.refl _ | apply Drawn0.step)⟩
                              · rw [if_neg c31] at H
                                exact absurd H (by simp)
          · rw [if_neg c14] at H
            exact absurd H (by simp)
        · rw [if_neg c9] at H
          exact absurd H (by simp)
attribute [local go_sem] max2_int min2_int max_two min_two max_three min_three max_four min_four   -- for this text's walks alone
set_option linter.unusedVariables false
set_option linter.unusedSimpArgs false
def fix_MulDiv.j0 : Nat → Int → Int → Int → Bool → Option (Int)
  | 0, _, _, _, _ => none
  | k + 1, x2, x7, x8, x17 => if x17 = true then (some 0) else (if x7 ≥ x2 then (some 18446744073709551615) else ((bits_Div64.f k x7 x8 x2).bind fun bt105 => (some bt105.1)))
def fix_MulDiv.f (k : Nat) (a0 : Int) (a1 : Int) (a2 : Int) : Option (Int) := (bits_Mul64.f a0 a1).bind fun bt103 => (if bt103.1 = 0 then (fix_MulDiv.j0 k a2 bt103.1 bt103.2 (bt103.2 == 0)) else (fix_MulDiv.j0 k a2 bt103.1 bt103.2 false))
set_option maxHeartbeats 8000000 in
set_option maxRecDepth 100000 in
theorem fix_MulDiv.calls (k : Nat) (a0 : Int) (a1 : Int) (a2 : Int) (r : Int) (w : World) (h : fix_MulDiv.f k a0 a1 a2 = some r) :
    Calls Try.prog 35 #[.int .u64 a0, .int .u64 a1, .int .u64 a2] w fun e w' => e = .returned (.int .u64 r) ∧ Drawn0 w w' := by
  have H : ((bits_Mul64.f a0 a1).bind fun bt103 => (if bt103.1 = 0 then (fix_MulDiv.j0 k a2 bt103.1 bt103.2 (bt103.2 == 0)) else (fix_MulDiv.j0 k a2 bt103.1 bt103.2 false))) = some r := h
  clear h
  replace H := Option.bind_eq_some_iff.mp H
  obtain ⟨⟨t103, t104⟩, A40, H⟩ := H
  replace H : (if t103 = 0 then (fix_MulDiv.j0 k a2 t103 t104 (t104 == 0)) else (fix_MulDiv.j0 k a2 t103 t104 false)) = some r := H
  have A4 := Aside0.mk A40
  clear A40
  have HC5 := Aside0.mk H
  clear H
  go_enter Try.func35, Try.ntmps35
  go_upto_region 2 with (first | ((with_reducible refine gate_callee (f := 46) rfl ?_); refine goesL_ (some 14) rfl rfl Try.func46 (by kernel_rfl) rfl #[.int .u64 a0, .int .u64 a1] rfl (by (try simp only [List.map_toArray, List.map_cons, List.map_nil]); first | done | rfl | (simp only [List.length_drop, List.length_take]; rfl)) ?_; (with_reducible refine (bits_Mul64.calls a0 a1 t103 t104 _ A4.out).mono ?_); rintro e w' ⟨rfl, ⟨nd, rfl⟩⟩; refine ⟨_, rfl, ?_⟩))
  (try simp only [Act.put, List.setIfInBounds_toArray, List.set_cons_zero, List.set_cons_succ])
  go_cut [17] (fun v17 wc => ∃ (kq : Nat) (x17_4 : Bool), v17 = .bool x17_4 ∧ Aside0 (fix_MulDiv.j0 kq a2 t103 t104 x17_4 = some r) ∧ Aside0 (kq ≤ k) ∧ Drawn0 w wc)
  case first =>
    have H := HC5.out
    clear HC5
    by_cases c6 : t103 = 0
    · rw [if_pos c6] at H
      have c6b0 : (t103 == 0) = true := beq_iff_eq.mpr c6
      have c6b1 : (t103 != 0) = false := bne_eq_false_iff_eq.mpr c6
      clear c6
      (first | rw [c6b0] | (simp only [i64_w, i32_w]; rw [c6b0]) | skip)
      have H' := Aside0.mk H
      clear H
      go_wp2
      go_meet
      case rel => exact ⟨_, ((t104 == 0)), (by first | rfl | (simp; done) | (simp [*]; done)), H', ⟨by first | omega | exact Nat.le_refl _⟩, by repeat (first | exact Drawn0.refl _ | apply Drawn0.step)⟩
    · rw [if_neg c6] at H
      have c6b0 : (t103 == 0) = false := beq_eq_false_iff_ne.mpr c6
      have c6b1 : (t103 != 0) = true := bne_iff_ne.mpr c6
      (first | rw [c6b0] | (simp only [i64_w, i32_w]; rw [c6b0]) | skip)
      have H' := Aside0.mk H
      clear H
      go_wp2
      go_meet
      case rel => exact ⟨_, (false), (by first | rfl | (simp; done) | (simp [*]; done)), H', ⟨by first | omega | exact Nat.le_refl _⟩, by repeat (first | exact Drawn0.refl _ | apply Drawn0.step)⟩
  case rest =>
    clear HC5
    try clear p2
    try clear c3
    try clear c4
    try clear c6
    try clear c6b0
    try clear c6b1
    obtain ⟨kq, x17_4, rfl, HA, HJ4, ⟨mc4, rfl⟩⟩ := hcut
    cases kq with
    | zero => exact absurd HA.out (by simp [fix_MulDiv.j0])
    | succ kj4 =>
      have H := HA.out
      clear HA
      simp only [fix_MulDiv.j0] at H
      by_cases c7 : x17_4 = true
      · subst c7
        have H1 : (some 0) = some r := by rw [if_pos rfl] at H; exact H
        clear H
        have H := H1
        clear H1
        obtain rfl := Option.some.inj H
        go_wp2
        go_ret
        exact ⟨by first | rfl | (simp; done) | (simp [*]; done), by repeat (first | exact Drawn0.refl _ | apply Drawn0.step)⟩
      · replace c7 := Bool.eq_false_iff.mpr c7
        subst c7
        have H1 : (if t103 ≥ a2 then (some 18446744073709551615) else ((bits_Div64.f kj4 t103 t104 a2).bind fun bt105 => (some bt105.1))) = some r := by rw [if_neg (show ¬ (false = true) by decide)] at H; exact H
        clear H
        have H := H1
        clear H1
        by_cases c8 : t103 ≥ a2
        · rw [if_pos c8] at H
          have c8b0 : decide (a2 ≤ t103) = true := decide_eq_true c8
          clear c8
          obtain rfl := Option.some.inj H
          go_wp2
          go_ret
          exact ⟨by first | rfl | (simp; done) | (simp [*]; done), by repeat (first | exact Drawn0.refl _ | apply Drawn0.step)⟩
        · rw [if_neg c8] at H
          have c8b0 : decide (a2 ≤ t103) = false := decide_eq_false c8
          clear c8
          replace H := Option.bind_eq_some_iff.mp H
          obtain ⟨⟨t105, t106⟩, A90, H⟩ := H
          replace H : (some t105) = some r := H
          have A9 := Aside0.mk A90
          clear A90
          obtain rfl := Option.some.inj H
          go_wp2_with (first | ((with_reducible refine gate_callee (f := 47) rfl ?_); refine goesL_ (some 32) rfl rfl Try.func47 (by kernel_rfl) rfl #[.int .u64 t103, .int .u64 t104, .int .u64 a2] rfl (by (try simp only [List.map_toArray, List.map_cons, List.map_nil]); first | done | rfl | (simp only [List.length_drop, List.length_take]; rfl)) ?_; (with_reducible refine (bits_Div64.calls kj4 t103 t104 a2 t105 t106 _ A9.out).mono ?_); rintro e w' ⟨rfl, ⟨nd, rfl⟩⟩; refine ⟨_, rfl, ?_⟩))
          go_ret
          exact ⟨by first | rfl | (simp; done) | (simp [*]; done), by repeat (first | exact Drawn0.refl _ | apply Drawn0.step)⟩
attribute [local go_sem] max2_int min2_int max_two min_two max_three min_three max_four min_four   -- for this text's walks alone
set_option linter.unusedVariables false
set_option linter.unusedSimpArgs false
theorem div_test {yn1 yn0 v u d q rh : Int} (hv : v = yn1 * 4294967296 + yn0) (hv0 : 0 < v) (h : q * yn1 + rh = u) :
    (u * 4294967296 + d) / v < q ↔ 4294967296 * rh + d < q * yn0 := by
  rw [Int.ediv_lt_iff_lt_mul hv0, hv, Int.mul_add, ← Int.mul_assoc]
  generalize q * yn1 = p at *
  generalize q * yn0 = m at *
  omega
theorem div_digit {v u d : Int} (hv0 : 0 < v) (hu0 : 0 ≤ u) (hu : u < v) (hd0 : 0 ≤ d) (hd : d < 4294967296) :
    0 ≤ (u * 4294967296 + d) / v ∧ (u * 4294967296 + d) / v ≤ 4294967295 := by
  refine ⟨Int.ediv_nonneg (by omega) (by omega), ?_⟩
  have : (u * 4294967296 + d) / v < 4294967296 := (Int.ediv_lt_iff_lt_mul hv0).2 (by omega)
  omega
theorem div_l1 {v s yn1 yn0 un0 q1 u : Int} (hv : v = yn1 * 4294967296 + yn0) (hy1 : 2147483648 ≤ yn1) (hy1' : yn1 < 4294967296) (hy0 : 0 ≤ yn0) (hy0' : yn0 < 4294967296)
    (hu0 : 0 ≤ u) (hu : u < v) (hd0 : 0 ≤ un0) (hd : un0 < 4294967296) (hs : 0 ≤ s) (n : Nat) :
    ∀ (k : Nat) (rh q : Int), q * yn1 + rh = u → (u * 4294967296 + un0) / v ≤ q → q ≤ 4294967297 → 0 ≤ rh → rh < 4294967296 → q - (u * 4294967296 + un0) / v = n → 2 * n + 2 ≤ k →
    ∃ r, bits_Div64.l1 k v s yn1 yn0 un0 q1 rh u q = some (IntKind.u64.wrap (IntKind.u64.wrap (q1 * 4294967296) + (u * 4294967296 + un0) / v), r) := by
  have hv0 : 0 < v := by omega
  obtain ⟨hQ0, hQ1⟩ := div_digit hv0 hu0 hu hd0 hd
  induction n with
  | zero =>
    intro k rh q h1 h2 h3 h4 h5 h6 hk
    obtain ⟨k, rfl⟩ : ∃ m, k = m + 2 := ⟨k - 2, by omega⟩
    have ht := div_test (d := un0) hv hv0 h1
    have hb := mul_bd (a := q) (b := yn0) (A := 4294967295) (B := 4294967295) (by omega) (by omega) hy0 (by omega)
    generalize (u * 4294967296 + un0) / v = Q at *
    obtain rfl : q = Q := by omega
    have hng : ¬ (4294967296 * rh + un0 < q * yn0) := by rw [← ht]; omega
    simp only [bits_Div64.l1]
    rw [if_neg (by omega), w64 (x := q * yn0) (by omega), w64 (x := 4294967296 * rh) (by omega), w64 (x := 4294967296 * rh + un0) (by omega), decide_eq_false (by omega)]
    simp only [bits_Div64.j4]
    rw [if_neg (by simp), if_pos hs]
    exact ⟨_, rfl⟩
  | succ n ih =>
    intro k rh q h1 h2 h3 h4 h5 h6 hk
    obtain ⟨k, rfl⟩ : ∃ m, k = m + 2 := ⟨k - 2, by omega⟩
    have ht := div_test (d := un0) hv hv0 h1
    have hgt : (u * 4294967296 + un0) / v < q := by omega
    have ht1 := ht.1 hgt
    have h1' : (q - 1) * yn1 + (rh + yn1) = u := by rw [Int.sub_mul, Int.one_mul]; omega
    have hstep : bits_Div64.l1 (k + 2) v s yn1 yn0 un0 q1 rh u q = bits_Div64.j4 (k + 1) v s yn1 yn0 un0 q1 rh u q true := by
      simp only [bits_Div64.l1]
      by_cases hc : q ≥ 4294967296
      · rw [if_pos hc]
      · have hb := mul_bd (a := q) (b := yn0) (A := 4294967295) (B := 4294967295) (by omega) (by omega) hy0 (by omega)
        rw [if_neg hc, w64 (x := q * yn0) (by omega), w64 (x := 4294967296 * rh) (by omega), w64 (x := 4294967296 * rh + un0) (by omega), decide_eq_true (by omega)]
    rw [hstep]
    simp only [bits_Div64.j4]
    rw [if_pos trivial, w64 (x := rh + yn1) (by omega), w64 (x := q - 1) (by omega)]
    by_cases hc : rh + yn1 ≥ 4294967296
    · have hm := mul_bd (a := q - 1) (b := yn0) (A := 4294967296) (B := 4294967295) (by omega) (by omega) hy0 (by omega)
      have hq : q - 1 = (u * 4294967296 + un0) / v := by
        have ht' := div_test (d := un0) hv hv0 h1'
        have : ¬ ((u * 4294967296 + un0) / v < q - 1) := by rw [ht']; omega
        omega
      rw [if_pos hc, if_pos hs, hq]
      exact ⟨_, rfl⟩
    · rw [if_neg hc]
      exact ih k (rh + yn1) (q - 1) h1' (by omega) (by omega) (by omega) (by omega) (by omega) (by omega)
theorem div_rest {v u d : Int} (hv0 : 0 < v) (hv1 : v ≤ 18446744073709551615) :
    IntKind.u64.wrap (IntKind.u64.wrap (IntKind.u64.wrap (u * 4294967296) + d) - IntKind.u64.wrap ((u * 4294967296 + d) / v * v)) = (u * 4294967296 + d) % v := by
  have h1 := Int.emod_add_mul_ediv (u * 4294967296 + d) v
  have h2 := Int.emod_nonneg (u * 4294967296 + d) (b := v) (by omega)
  have h3 := Int.emod_lt_of_pos (u * 4294967296 + d) hv0
  rw [Int.mul_comm v] at h1
  rw [ww, ww, ww, ww]
  generalize (u * 4294967296 + d) / v * v = p at *
  omega
theorem div_l0 {v s yn1 yn0 un1 un0 u : Int} (hv : v = yn1 * 4294967296 + yn0) (hy1 : 2147483648 ≤ yn1) (hy1' : yn1 < 4294967296) (hy0 : 0 ≤ yn0) (hy0' : yn0 < 4294967296)
    (hu0 : 0 ≤ u) (hu : u < v) (hd0 : 0 ≤ un1) (hd : un1 < 4294967296) (n : Nat) :
    ∀ (k : Nat) (rh q : Int), q * yn1 + rh = u → (u * 4294967296 + un1) / v ≤ q → q ≤ 4294967297 → 0 ≤ rh → rh < 4294967296 → q - (u * 4294967296 + un1) / v = n → 2 * n + 2 ≤ k →
    ∃ j, k ≤ j + 2 * n + 2 ∧ bits_Div64.l0 k v s yn1 yn0 u un1 un0 q rh = bits_Div64.j2 j v s yn1 yn0 u un1 un0 ((u * 4294967296 + un1) / v) := by
  have hv0 : 0 < v := by omega
  obtain ⟨hQ0, hQ1⟩ := div_digit hv0 hu0 hu hd0 hd
  induction n with
  | zero =>
    intro k rh q h1 h2 h3 h4 h5 h6 hk
    obtain ⟨k, rfl⟩ : ∃ m, k = m + 2 := ⟨k - 2, by omega⟩
    have ht := div_test (d := un1) hv hv0 h1
    have hb := mul_bd (a := q) (b := yn0) (A := 4294967295) (B := 4294967295) (by omega) (by omega) hy0 (by omega)
    generalize (u * 4294967296 + un1) / v = Q at *
    obtain rfl : q = Q := by omega
    have hng : ¬ (4294967296 * rh + un1 < q * yn0) := by rw [← ht]; omega
    simp only [bits_Div64.l0]
    rw [if_neg (by omega), w64 (x := q * yn0) (by omega), w64 (x := 4294967296 * rh) (by omega), w64 (x := 4294967296 * rh + un1) (by omega), decide_eq_false (by omega)]
    simp only [bits_Div64.j1]
    rw [if_neg (by simp)]
    exact ⟨k, by omega, rfl⟩
  | succ n ih =>
    intro k rh q h1 h2 h3 h4 h5 h6 hk
    obtain ⟨k, rfl⟩ : ∃ m, k = m + 2 := ⟨k - 2, by omega⟩
    have ht := div_test (d := un1) hv hv0 h1
    have hgt : (u * 4294967296 + un1) / v < q := by omega
    have ht1 := ht.1 hgt
    have h1' : (q - 1) * yn1 + (rh + yn1) = u := by rw [Int.sub_mul, Int.one_mul]; omega
    have hstep : bits_Div64.l0 (k + 2) v s yn1 yn0 u un1 un0 q rh = bits_Div64.j1 (k + 1) v s yn1 yn0 u un1 un0 q rh true := by
      simp only [bits_Div64.l0]
      by_cases hc : q ≥ 4294967296
      · rw [if_pos hc]
      · have hb := mul_bd (a := q) (b := yn0) (A := 4294967295) (B := 4294967295) (by omega) (by omega) hy0 (by omega)
        rw [if_neg hc, w64 (x := q * yn0) (by omega), w64 (x := 4294967296 * rh) (by omega), w64 (x := 4294967296 * rh + un1) (by omega), decide_eq_true (by omega)]
    rw [hstep]
    simp only [bits_Div64.j1]
    rw [if_pos trivial, w64 (x := rh + yn1) (by omega), w64 (x := q - 1) (by omega)]
    by_cases hc : rh + yn1 ≥ 4294967296
    · have hm := mul_bd (a := q - 1) (b := yn0) (A := 4294967296) (B := 4294967295) (by omega) (by omega) hy0 (by omega)
      have hq : q - 1 = (u * 4294967296 + un1) / v := by
        have ht' := div_test (d := un1) hv hv0 h1'
        have : ¬ ((u * 4294967296 + un1) / v < q - 1) := by rw [ht']; omega
        omega
      rw [if_pos hc, hq]
      exact ⟨k, by omega, rfl⟩
    · rw [if_neg hc]
      obtain ⟨j, hj, e⟩ := ih k (rh + yn1) (q - 1) h1' (by omega) (by omega) (by omega) (by omega) (by omega) (by omega)
      exact ⟨j, by omega, e⟩
theorem div_guess {v yn1 yn0 u d : Int} (hv : v = yn1 * 4294967296 + yn0) (hy1 : 2147483648 ≤ yn1) (hy1' : yn1 < 4294967296) (hy0 : 0 ≤ yn0) (hy0' : yn0 < 4294967296)
    (hu0 : 0 ≤ u) (hu : u < v) (hd0 : 0 ≤ d) (hd : d < 4294967296) :
    u / yn1 * yn1 + u % yn1 = u ∧ (u * 4294967296 + d) / v ≤ u / yn1 ∧ u / yn1 ≤ 4294967297 ∧ 0 ≤ u % yn1 ∧ u % yn1 < 4294967296 := by
  have h1 := Int.emod_add_mul_ediv u yn1
  have h2 := Int.emod_nonneg u (b := yn1) (by omega)
  have h3 := Int.emod_lt_of_pos u (b := yn1) (by omega)
  have e : u / yn1 * yn1 + u % yn1 = u := by rw [Int.mul_comm]; omega
  have hq0 : 0 ≤ u / yn1 := Int.ediv_nonneg hu0 (by omega)
  refine ⟨e, ?_, ?_, h2, by omega⟩
  · have ht := div_test (d := d) (u := u) (q := u / yn1 + 1) (rh := u % yn1 - yn1) hv (by omega) (by rw [Int.add_mul, Int.one_mul]; omega)
    have hm := Int.mul_nonneg hq0 hy0
    have : 4294967296 * (u % yn1 - yn1) + d < (u / yn1 + 1) * yn0 := by rw [Int.add_mul, Int.one_mul]; omega
    have := ht.2 this
    omega
  · have : u / yn1 < 4294967298 := (Int.ediv_lt_iff_lt_mul (by omega)).2 (by omega)
    omega
theorem and_mask (x : Int) (h : W64 x) : Go.bits .and .u64 x 4294967295 = x % 4294967296 := by
  rw [u64_and x 4294967295 h.1 (by omega) (by omega) (by omega)]
  have e : (4294967295 : Int).toNat = 2 ^ 32 - 1 := rfl
  rw [e, Nat.and_two_pow_sub_one_eq_mod]
  omega
theorem or_low (q b : Int) (n : Nat) (hn : n ≤ 64) (h0 : 0 ≤ q) (hb0 : 0 ≤ b) (hb : b < 2 ^ n) (hq : q * 2 ^ n ≤ 18446744073709551615) : Go.bits .or .u64 (q * 2 ^ n) b = q * 2 ^ n + b := by
  have hp : (0 : Int) < 2 ^ n := Int.pow_pos (by omega)
  have h64 : (2 : Nat) ^ n ≤ 2 ^ 64 := Nat.pow_le_pow_right (by omega) hn
  obtain ⟨q, rfl⟩ := Int.eq_ofNat_of_zero_le h0
  obtain ⟨b, rfl⟩ := Int.eq_ofNat_of_zero_le hb0
  have hc : ((2 ^ n : Nat) : Int) = 2 ^ n := by simp
  have hqn : (q : Int) * 2 ^ n = ((2 ^ n * q : Nat) : Int) := by rw [Int.natCast_mul, hc, Int.mul_comm]
  have hbn : b < 2 ^ n := by rw [← hc] at hb; omega
  rw [hqn] at hq ⊢
  rw [u64_or _ _ (by omega) (by omega) (by omega) (by omega), Int.toNat_natCast, Int.toNat_natCast, ← Nat.two_pow_add_eq_or_of_lt hbn]
  omega
theorem div64_tells (hi lo y : Int) (h1 : W64 hi) (h2 : W64 lo) (h3 : W64 y) (hlt : hi < y) :
    ∃ k r, bits_Div64.f k hi lo y = some ((hi * 18446744073709551616 + lo) / y, r) := by
  have hy0 : 0 < y := by omega
  by_cases hz : hi = 0
  · refine ⟨0, Int.tmod lo y, ?_⟩
    unfold bits_Div64.f
    rw [if_neg (by omega), if_neg (by omega), if_pos hz, Int.tdiv_eq_ediv_of_nonneg h2.1]
    have hd0 : 0 ≤ lo / y := Int.ediv_nonneg h2.1 h3.1
    have hd1 : lo / y ≤ lo := Int.ediv_le_self y h2.1
    rw [w64 (by omega), hz, Int.zero_mul, Int.zero_add]
  · -- the shift
    have hy : y.toNat < 2 ^ 64 := by omega
    obtain ⟨b1, b2, b3⟩ := Lib.bitLenAux_bounds 64 y.toNat hy (by omega)
    have b4 : Lib.bitLenAux 64 y.toNat ≤ 64 := Lib.bitLen_le y.toNat 64 (Nat.le_refl _) hy
    have eL : Lib.bitLen y.toNat = Lib.bitLenAux 64 y.toNat := rfl
    generalize Lib.bitLenAux 64 y.toNat = L at *
    obtain ⟨s, hs⟩ : ∃ s : Nat, s + L = 64 := ⟨64 - L, by omega⟩
    have hP0 : (0 : Int) < 2 ^ s := Int.pow_pos (by omega)
    have hL0 : (0 : Int) < 2 ^ L := Int.pow_pos (by omega)
    have hPL : (2 : Int) ^ s * 2 ^ L = 18446744073709551616 := by rw [← Int.pow_add, hs]; rfl
    have hyL : y < 2 ^ L := by
      have : ((y.toNat : Nat) : Int) < ((2 ^ L : Nat) : Int) := by exact_mod_cast b3
      rw [Int.natCast_pow] at this
      have e : ((2 : Nat) : Int) = 2 := rfl
      rw [e] at this; omega
    have hyL' : 2 ^ L ≤ 2 * y := by
      have : ((2 ^ (L - 1) : Nat) : Int) ≤ ((y.toNat : Nat) : Int) := by exact_mod_cast b2
      rw [Int.natCast_pow] at this
      have e : ((2 : Nat) : Int) = 2 := rfl
      rw [e] at this
      have e2 : (2 : Int) ^ L = 2 ^ (L - 1) * 2 := by rw [← Int.pow_succ]; congr 1; omega
      omega
    -- the numbers
    have hv1 : y * 2 ^ s < 18446744073709551616 := by rw [← hPL, Int.mul_comm (2 ^ s)]; exact Int.mul_lt_mul_of_pos_right hyL hP0
    have hv2 : 18446744073709551616 ≤ 2 * (y * 2 ^ s) := by
      rw [← hPL, Int.mul_comm (2 ^ s), ← Int.mul_assoc]; exact Int.mul_le_mul_of_nonneg_right hyL' (by omega)
    have hh1 : hi * 2 ^ s ≤ y * 2 ^ s := Int.mul_le_mul_of_nonneg_right (by omega) (by omega)
    have hh0 : 0 ≤ hi * 2 ^ s := Int.mul_nonneg h1.1 (by omega)
    have hlo0 : 0 ≤ lo / 2 ^ L := Int.ediv_nonneg h2.1 (by omega)
    have hlo1 : lo / 2 ^ L < 2 ^ s := (Int.ediv_lt_iff_lt_mul hL0).2 (by omega)
    have hlP : 0 ≤ lo * 2 ^ s := Int.mul_nonneg h2.1 (by omega)
    have hcarry : lo * 2 ^ s / 18446744073709551616 = lo / 2 ^ L := by
      rw [← hPL, Int.mul_comm lo, Int.mul_ediv_mul_of_pos _ _ hP0]
    have hsum : (hi * 2 ^ s + lo / 2 ^ L) * 18446744073709551616 + lo * 2 ^ s % 18446744073709551616 = (hi * 18446744073709551616 + lo) * 2 ^ s := by
      have e1 : (hi * 18446744073709551616 + lo) * 2 ^ s = hi * 2 ^ s * 18446744073709551616 + lo * 2 ^ s := by
        rw [Int.add_mul, Int.mul_assoc, Int.mul_assoc, Int.mul_comm 18446744073709551616]
      rw [e1, ← hcarry]
      omega
    have hltv : hi * 2 ^ s + lo / 2 ^ L < y * 2 ^ s := by
      have e2 : (hi * 18446744073709551616 + lo) * 2 ^ s < y * 18446744073709551616 * 2 ^ s := Int.mul_lt_mul_of_pos_right (by omega) hP0
      rw [Int.mul_assoc, Int.mul_comm 18446744073709551616, ← Int.mul_assoc] at e2
      omega
    have efin : (hi * 18446744073709551616 + lo) / y = ((hi * 2 ^ s + lo / 2 ^ L) * 18446744073709551616 + lo * 2 ^ s % 18446744073709551616) / (y * 2 ^ s) := by
      rw [hsum, Int.mul_comm _ (2 ^ s), Int.mul_comm _ (2 ^ s), Int.mul_ediv_mul_of_pos _ _ hP0]
    have ew : IntKind.u64.wrap (64 - (L : Int)) = s := by rw [w64 (by omega)]; omega
    have ew2 : IntKind.u64.wrap (64 - (s : Int)) = L := by rw [w64 (by omega)]; omega
    have es1 : shl .u64 y (s : Int) = y * 2 ^ s := by
      unfold shl
      rw [Int.toNat_natCast, Nat.min_eq_left (by show s ≤ 64; omega), w64 (by omega)]
    have es2 : shl .u64 hi (s : Int) = hi * 2 ^ s := by
      unfold shl
      rw [Int.toNat_natCast, Nat.min_eq_left (by show s ≤ 64; omega), w64 (by omega)]
    have es3 : shl .u64 lo (s : Int) = lo * 2 ^ s % 18446744073709551616 := by
      unfold shl
      rw [Int.toNat_natCast, Nat.min_eq_left (by show s ≤ 64; omega), ww]
    have es4 : shr .u64 lo (L : Int) = lo / 2 ^ L := by
      unfold shr
      rw [Int.toNat_natCast, Nat.min_eq_left (by show L ≤ 64; omega)]
    have es5 : Go.bits .or .u64 (hi * 2 ^ s) (lo / 2 ^ L) = hi * 2 ^ s + lo / 2 ^ L := or_low hi _ s (by omega) h1.1 hlo0 hlo1 (by omega)
    have hm0 := w64_mod (lo * 2 ^ s)
    have hu0 : 0 ≤ hi * 2 ^ s + lo / 2 ^ L := by omega
    rw [efin]
    -- the code
    have hcode : ∀ k, bits_Div64.f k hi lo y = bits_Div64.l0 k (y * 2 ^ s) s (y * 2 ^ s / 4294967296) (y * 2 ^ s % 4294967296) (hi * 2 ^ s + lo / 2 ^ L) (lo * 2 ^ s % 18446744073709551616 / 4294967296) (lo * 2 ^ s % 18446744073709551616 % 4294967296)
        ((hi * 2 ^ s + lo / 2 ^ L) / (y * 2 ^ s / 4294967296)) ((hi * 2 ^ s + lo / 2 ^ L) % (y * 2 ^ s / 4294967296)) := by
      intro k
      unfold bits_Div64.f bits_LeadingZeros64.f
      rw [if_neg (by omega), if_neg (by omega), if_neg hz, if_pos h3]
      simp only [Option.bind_some]
      rw [eL, ew, ew2, es1, es2, es3, es4, es5, and_mask _ hm0, and_mask _ (by omega)]
      rw [if_pos (by omega), if_pos (by omega), if_neg (by omega)]
      generalize hi * 2 ^ s + lo / 2 ^ L = u at *
      generalize y * 2 ^ s = v at *
      obtain ⟨g1, g2, g3, g4, g5⟩ := div_guess (v := v) (yn1 := v / 4294967296) (yn0 := v % 4294967296) (u := u) (d := 0) (by omega) (by omega) (by omega) (by omega) (by omega) hu0 hltv (by omega) (by omega)
      have hq0 : 0 ≤ u / (v / 4294967296) := Int.ediv_nonneg hu0 (by omega)
      have hqm := Int.mul_nonneg hq0 (show (0 : Int) ≤ v / 4294967296 by omega)
      rw [Int.tdiv_eq_ediv_of_nonneg hu0, w64 (x := u / (v / 4294967296)) (by omega)]
      generalize u / (v / 4294967296) * (v / 4294967296) = m at *
      rw [w64 (x := m) (by omega), w64 (x := u - m) (by omega)]
      congr 1
      omega
    generalize hi * 2 ^ s + lo / 2 ^ L = u at *
    generalize y * 2 ^ s = v at *
    generalize lo * 2 ^ s % 18446744073709551616 = un at *
    clear efin es5 es4 es3 es2 es1 ew ew2 hsum hcarry
    obtain ⟨g1, g2, g3, g4, g5⟩ := div_guess (v := v) (yn1 := v / 4294967296) (yn0 := v % 4294967296) (u := u) (d := un / 4294967296) (by omega) (by omega) (by omega) (by omega) (by omega) hu0 hltv (by omega) (by omega)
    obtain ⟨n, hn⟩ : ∃ n : Nat, u / (v / 4294967296) - (u * 4294967296 + un / 4294967296) / v = n := ⟨(u / (v / 4294967296) - (u * 4294967296 + un / 4294967296) / v).toNat, by omega⟩
    have hrest := div_rest (v := v) (u := u) (d := un / 4294967296) (by omega) (by omega)
    have hr0 := Int.emod_nonneg (u * 4294967296 + un / 4294967296) (b := v) (by omega)
    have hr1 := Int.emod_lt_of_pos (u * 4294967296 + un / 4294967296) (b := v) (by omega)
    have hdm := Int.emod_add_mul_ediv (u * 4294967296 + un / 4294967296) v
    obtain ⟨hQ0, hQ1⟩ := div_digit (v := v) (u := u) (d := un / 4294967296) (by omega) hu0 hltv (by omega) (by omega)
    obtain ⟨f1, f2, f3, f4, f5⟩ := div_guess (v := v) (yn1 := v / 4294967296) (yn0 := v % 4294967296) (u := (u * 4294967296 + un / 4294967296) % v) (d := un % 4294967296) (by omega) (by omega) (by omega) (by omega) (by omega) hr0 hr1 (by omega) (by omega)
    have efin2 : (u * 18446744073709551616 + un) / v = (u * 4294967296 + un / 4294967296) / v * 4294967296 + ((u * 4294967296 + un / 4294967296) % v * 4294967296 + un % 4294967296) / v := by
      generalize (u * 4294967296 + un / 4294967296) % v = u' at *
      generalize (u * 4294967296 + un / 4294967296) / v = Q at *
      have e : u * 18446744073709551616 + un = (u' * 4294967296 + un % 4294967296) + v * (Q * 4294967296) := by
        rw [← Int.mul_assoc]; omega
      rw [e, Int.add_mul_ediv_left _ _ (by omega)]
      omega
    obtain ⟨hZ0, hZ1⟩ := div_digit (v := v) (u := (u * 4294967296 + un / 4294967296) % v) (d := un % 4294967296) (by omega) hr0 hr1 (by omega) (by omega)
    obtain ⟨n', hn'⟩ : ∃ n : Nat, (u * 4294967296 + un / 4294967296) % v / (v / 4294967296) - ((u * 4294967296 + un / 4294967296) % v * 4294967296 + un % 4294967296) / v = n := ⟨((u * 4294967296 + un / 4294967296) % v / (v / 4294967296) - ((u * 4294967296 + un / 4294967296) % v * 4294967296 + un % 4294967296) / v).toNat, by omega⟩
    obtain ⟨j, hj, e0⟩ := div_l0 (v := v) (s := s) (yn1 := v / 4294967296) (yn0 := v % 4294967296) (un1 := un / 4294967296) (un0 := un % 4294967296) (u := u) (by omega) (by omega) (by omega) (by omega) (by omega) hu0 hltv (by omega) (by omega) n (2 * n + 2 * n' + 8) _ _ g1 g2 g3 g4 g5 hn (by omega)
    refine ⟨2 * n + 2 * n' + 8, ?_⟩
    rw [hcode, e0]
    obtain ⟨j, rfl⟩ : ∃ m, j = m + 1 := ⟨j - 1, by omega⟩
    simp only [bits_Div64.j2]
    rw [if_neg (by omega), hrest, Int.tdiv_eq_ediv_of_nonneg hr0]
    rw [efin2]
    generalize (u * 4294967296 + un / 4294967296) % v = u' at *
    have hq0 : 0 ≤ u' / (v / 4294967296) := Int.ediv_nonneg hr0 (by omega)
    have hqm := Int.mul_nonneg hq0 (show (0 : Int) ≤ v / 4294967296 by omega)
    rw [w64 (x := u' / (v / 4294967296)) (by omega)]
    have hm' : IntKind.u64.wrap (u' - IntKind.u64.wrap (u' / (v / 4294967296) * (v / 4294967296))) = u' % (v / 4294967296) := by
      generalize u' / (v / 4294967296) * (v / 4294967296) = m at *
      rw [w64 (x := m) (by omega), w64 (x := u' - m) (by omega)]; omega
    rw [hm']
    obtain ⟨r, er⟩ := div_l1 (v := v) (s := s) (yn1 := v / 4294967296) (yn0 := v % 4294967296) (un0 := un % 4294967296) (q1 := (u * 4294967296 + un / 4294967296) / v) (u := u') (by omega) (by omega) (by omega) (by omega) (by omega) hr0 hr1 (by omega) (by omega) (by omega) n' j _ _ f1 f2 f3 f4 f5 hn' (by omega)
    rw [er]
    refine ⟨r, ?_⟩
    rw [w64 (x := (u * 4294967296 + un / 4294967296) / v * 4294967296) (by omega), w64 (by omega)]
theorem muldiv_tells (a b c : Int) (h1 : W64 a) (h2 : W64 b) (h3 : W64 c) : ∃ k, fix_MulDiv.f k a b c = some (uMulDiv a b c) := by
  have hp := Int.mul_nonneg h1.1 h2.1
  have hp' := mul_bd (A := 18446744073709551615) (B := 18446744073709551615) h1.1 h1.2 h2.1 h2.2
  unfold fix_MulDiv.f bits_Mul64.f uMulDiv
  rw [if_pos ⟨h1, h2⟩]
  simp only [Option.bind_some]
  generalize a * b = p at *
  by_cases hz : p = 0
  · refine ⟨1, ?_⟩
    subst hz
    simp [fix_MulDiv.j0]
  · by_cases hc : c * 18446744073709551616 ≤ p
    · refine ⟨1, ?_⟩
      have e : ∀ z, (z = true → False) → fix_MulDiv.j0 1 c (p / 18446744073709551616) (p % 18446744073709551616) z = some 18446744073709551615 := by
        intro z hz'
        simp only [fix_MulDiv.j0]
        rw [if_neg hz', if_pos (by omega)]
      rw [if_neg hz, if_pos hc]
      split
      · exact e _ (by simp; omega)
      · exact e _ (by simp)
    · obtain ⟨k, r, hk⟩ := div64_tells (p / 18446744073709551616) (p % 18446744073709551616) c (by omega) (by omega) h3 (by omega)
      have ep : p / 18446744073709551616 * 18446744073709551616 + p % 18446744073709551616 = p := by omega
      rw [ep] at hk
      refine ⟨k + 1, ?_⟩
      have e : ∀ z, (z = true → False) → fix_MulDiv.j0 (k + 1) c (p / 18446744073709551616) (p % 18446744073709551616) z = some (p / c) := by
        intro z hz'
        simp only [fix_MulDiv.j0]
        rw [if_neg hz', if_neg (by omega), hk]
        rfl
      rw [if_neg hz, if_neg hc]
      split
      · exact e _ (by simp; omega)
      · exact e _ (by simp)
def fix_MulDivT.f (a0 : Int) (a1 : Int) (a2 : Int) : Option Int := if W64 a0 ∧ W64 a1 ∧ W64 a2 then some (uMulDiv a0 a1 a2) else none
theorem fix_MulDivT.calls (a0 : Int) (a1 : Int) (a2 : Int) (r : Int) (w : World) (h : fix_MulDivT.f a0 a1 a2 = some r) :
    Calls Try.prog 35 #[.int .u64 a0, .int .u64 a1, .int .u64 a2] w fun e w' => e = .returned (.int .u64 r) ∧ Drawn0 w w' := by
  unfold fix_MulDivT.f at h
  split at h
  · rename_i hw
    obtain ⟨k, hk⟩ := muldiv_tells a0 a1 a2 hw.1 hw.2.1 hw.2.2
    exact fix_MulDiv.calls k a0 a1 a2 r w (hk.trans h)
  · cases h
theorem fix_MulDivT.C (a b c : Int) (ha : W64 a) (hb : W64 b) (hc : W64 c) (w : World) : Calls Try.prog 35 #[.int .u64 a, .int .u64 b, .int .u64 c] w fun e w' => e = .returned (.int .u64 (uMulDiv a b c)) ∧ Drawn0 w w' :=
  fix_MulDivT.calls a b c _ w (by unfold fix_MulDivT.f; rw [if_pos ⟨ha, hb, hc⟩])
theorem fix_MulDivT.Q (a b c : Int) (ha : W64 a) (hb : W64 b) (hc : W64 c) (w : World) (n : Nat) : Calls Try.prog 35 #[.int .u64 a, .int .u64 b, .int .u64 c] (w.drewN n) fun e w' => e = .returned (.int .u64 (uMulDiv a b c)) ∧ ∃ m, w' = w.drewN m := quiet_c (fix_MulDivT.C a b c ha hb hc) n
attribute [local go_sem] max2_int min2_int max_two min_two max_three min_three max_four min_four   -- for this text's walks alone
set_option linter.unusedVariables false
set_option linter.unusedSimpArgs false
def fix_Gain.f (a0 : Int) (a1 : Int) : Option (Int) := (fix_MulDivT.f a0 a1 256).bind fun t107 => (some t107)
set_option maxHeartbeats 8000000 in
set_option maxRecDepth 100000 in
theorem fix_Gain.calls (a0 : Int) (a1 : Int) (r : Int) (w : World) (h : fix_Gain.f a0 a1 = some r) :
    Calls Try.prog 37 #[.int .u64 a0, .int .u64 a1] w fun e w' => e = .returned (.int .u64 r) ∧ Drawn0 w w' := by
  have H : ((fix_MulDivT.f a0 a1 256).bind fun t107 => (some t107)) = some r := h
  clear h
  replace H := Option.bind_eq_some_iff.mp H
  obtain ⟨t107, A30, H⟩ := H
  replace H : (some t107) = some r := H
  have A3 := Aside0.mk A30
  clear A30
  obtain rfl := Option.some.inj H
  go_enter Try.func37, Try.ntmps37
  go_wp2_with (first | ((with_reducible refine gate_callee (f := 35) rfl ?_); refine goesL_ (some 7) rfl rfl Try.func35 (by kernel_rfl) rfl #[.int .u64 a0, .int .u64 a1, .int .u64 256] rfl (by (try simp only [List.map_toArray, List.map_cons, List.map_nil]); first | done | rfl | (simp only [List.length_drop, List.length_take]; rfl)) ?_; (with_reducible refine (fix_MulDivT.calls a0 a1 256 t107 _ A3.out).mono ?_); rintro e w' ⟨rfl, ⟨nd, rfl⟩⟩; refine ⟨_, rfl, ?_⟩))
  go_ret
  exact ⟨by first | rfl | (simp; done) | (simp [*]; done), by repeat (first | exact Drawn0.refl _ | apply Drawn0.step)⟩
def probe_Product.f (a0_0 : Int) (l0_1 : List (S52)) (a0_2 : Int) (a0_3 : Int) (a0_4 : Int) (a0_5 : Int) (a0_6 : Int) (a0_7 : Int) (a0_8 : Int) (a0_9 : Int) (a1 : Int) : Option (Int) := if a0_2 = 18446744073709551615 then (some 0) else ((filt_Best.f l0_1).bind fun t109 => ((fix_MulDivT.f t109 a0_2 1000).bind fun t110 => ((fix_Gain.f t110 a1).bind fun t111 => (some t111))))
set_option maxHeartbeats 8000000 in
set_option maxRecDepth 100000 in
theorem probe_Product.calls (a0_0 : Int) (A0_1 : Option Addr) (c0_1 : Nat) (l0_1 : List (S52)) (a0_2 : Int) (a0_3 : Int) (a0_4 : Int) (a0_5 : Int) (a0_6 : Int) (a0_7 : Int) (a0_8 : Int) (a0_9 : Int) (a1 : Int) (r : Int) (w : World) (hr0_1 : Kd.C k52 w A0_1 l0_1.length l0_1) (hc0_1 : l0_1.length ≤ c0_1) (h : probe_Product.f a0_0 l0_1 a0_2 a0_3 a0_4 a0_5 a0_6 a0_7 a0_8 a0_9 a1 = some r) :
    Calls Try.prog 17 #[.agg #[.int .i64 a0_0, .slice A0_1 l0_1.length c0_1, .int .u64 a0_2, .int .u64 a0_3, .int .u64 a0_4, .int .u64 a0_5, .int .u64 a0_6, .int .u64 a0_7, .int .u64 a0_8, .int .u64 a0_9], .int .u64 a1] w fun e w' => e = .returned (.int .u64 r) ∧ Below w.heap.size w w' := by
  have hu26 := Try.underlying26
  have HR0_1 := Aside0.mk hr0_1
  have HC0_1 := Aside0.mk hc0_1
  clear hr0_1 hc0_1
  have HB := Aside0.mk (Below.refl w.heap.size w)
  have H : (if a0_2 = 18446744073709551615 then (some 0) else ((filt_Best.f l0_1).bind fun t109 => ((fix_MulDivT.f t109 a0_2 1000).bind fun t110 => ((fix_Gain.f t110 a1).bind fun t111 => (some t111))))) = some r := h
  clear h
  by_cases c3 : a0_2 = 18446744073709551615
  · rw [if_pos c3] at H
    have c3b0 : (a0_2 == 18446744073709551615) = true := beq_iff_eq.mpr c3
    have c3b1 : (a0_2 != 18446744073709551615) = false := bne_eq_false_iff_eq.mpr c3
    clear c3
    obtain rfl := Option.some.inj H
    go_enter Try.func17, Try.ntmps17
    go_wp2_with (first | ((with_reducible refine gate_dst (N := 2) rfl ?_); refine box_event ?hg (N := 2) ?hd (cs := #[.int .i64 a0_0, .slice A0_1 l0_1.length c0_1, .int .u64 a0_2, .int .u64 a0_3, .int .u64 a0_4, .int .u64 a0_5, .int .u64 a0_6, .int .u64 a0_7, .int .u64 a0_8, .int .u64 a0_9]) (t := 26) ?hr ?_; (case hd => rfl); (case hg => rfl); (case hr => first | (go_simp; done) | (go_simp; rfl)); intro gb108 hg w4 hbox hb; have n0_ := Aside0.mk (below_step (by repeat (first | (with_reducible first | exact HB.out | apply below_alloc | apply pw_below_drewN | apply below_drew1) | exact HB.out)) hb); have n1_ := Aside0.mk (hbox); have n2_ := Aside0.mk ((by rw [hg]; exact (below_size (by repeat (first | (with_reducible first | exact HB.out | apply below_alloc | apply pw_below_drewN | apply below_drew1) | exact HB.out))) : w.heap.size ≤ gb108)); have n3_ := Aside0.mk ((by rw [hg]; exact (below_size (by repeat (first | (with_reducible first | exact HB.out | apply below_alloc | apply pw_below_drewN | apply below_drew1) | exact HB.out))) : w.heap.size ≤ gb108)); clear HB; have HB := n0_; have BK108 := n1_; have GW108 := n2_; have GE108 := n3_; clear n0_ n1_ n2_ n3_; clear hb hbox hg; have hcz5_0 : w4.cell? ⟨gb108, 0, none⟩ = some (.int .i64 a0_0) := (blk_cell BK108.out 0).trans rfl; have hcz5_1 : w4.cell? ⟨gb108, 1, none⟩ = some (.slice A0_1 l0_1.length c0_1) := (blk_cell BK108.out 1).trans rfl; have hcz5_2 : w4.cell? ⟨gb108, 2, none⟩ = some (.int .u64 a0_2) := (blk_cell BK108.out 2).trans rfl; have hcz5_3 : w4.cell? ⟨gb108, 3, none⟩ = some (.int .u64 a0_3) := (blk_cell BK108.out 3).trans rfl; have hcz5_4 : w4.cell? ⟨gb108, 4, none⟩ = some (.int .u64 a0_4) := (blk_cell BK108.out 4).trans rfl; have hcz5_5 : w4.cell? ⟨gb108, 5, none⟩ = some (.int .u64 a0_5) := (blk_cell BK108.out 5).trans rfl; have hcz5_6 : w4.cell? ⟨gb108, 6, none⟩ = some (.int .u64 a0_6) := (blk_cell BK108.out 6).trans rfl; have hcz5_7 : w4.cell? ⟨gb108, 7, none⟩ = some (.int .u64 a0_7) := (blk_cell BK108.out 7).trans rfl; have hcz5_8 : w4.cell? ⟨gb108, 8, none⟩ = some (.int .u64 a0_8) := (blk_cell BK108.out 8).trans rfl; have hcz5_9 : w4.cell? ⟨gb108, 9, none⟩ = some (.int .u64 a0_9) := (blk_cell BK108.out 9).trans rfl; have hfz5_0 := blk_frozen BK108.out 0; have hfz5_1 := blk_frozen BK108.out 1; have hfz5_2 := blk_frozen BK108.out 2; have hfz5_3 := blk_frozen BK108.out 3; have hfz5_4 := blk_frozen BK108.out 4; have hfz5_5 := blk_frozen BK108.out 5; have hfz5_6 := blk_frozen BK108.out 6; have hfz5_7 := blk_frozen BK108.out 7; have hfz5_8 := blk_frozen BK108.out 8; have hfz5_9 := blk_frozen BK108.out 9))
    repeat (go_quiet (first | ((with_reducible refine gate_dst (N := 2) rfl ?_); refine box_event ?hg (N := 2) ?hd (cs := #[.int .i64 a0_0, .slice A0_1 l0_1.length c0_1, .int .u64 a0_2, .int .u64 a0_3, .int .u64 a0_4, .int .u64 a0_5, .int .u64 a0_6, .int .u64 a0_7, .int .u64 a0_8, .int .u64 a0_9]) (t := 26) ?hr ?_; (case hd => rfl); (case hg => rfl); (case hr => first | (go_simp; done) | (go_simp; rfl)); intro gb108 hg w4 hbox hb; have n0_ := Aside0.mk (below_step (by repeat (first | (with_reducible first | exact HB.out | apply below_alloc | apply pw_below_drewN | apply below_drew1) | exact HB.out)) hb); have n1_ := Aside0.mk (hbox); have n2_ := Aside0.mk ((by rw [hg]; exact (below_size (by repeat (first | (with_reducible first | exact HB.out | apply below_alloc | apply pw_below_drewN | apply below_drew1) | exact HB.out))) : w.heap.size ≤ gb108)); have n3_ := Aside0.mk ((by rw [hg]; exact (below_size (by repeat (first | (with_reducible first | exact HB.out | apply below_alloc | apply pw_below_drewN | apply below_drew1) | exact HB.out))) : w.heap.size ≤ gb108)); clear HB; have HB := n0_; have BK108 := n1_; have GW108 := n2_; have GE108 := n3_; clear n0_ n1_ n2_ n3_; clear hb hbox hg; have hcz5_0 : w4.cell? ⟨gb108, 0, none⟩ = some (.int .i64 a0_0) := (blk_cell BK108.out 0).trans rfl; have hcz5_1 : w4.cell? ⟨gb108, 1, none⟩ = some (.slice A0_1 l0_1.length c0_1) := (blk_cell BK108.out 1).trans rfl; have hcz5_2 : w4.cell? ⟨gb108, 2, none⟩ = some (.int .u64 a0_2) := (blk_cell BK108.out 2).trans rfl; have hcz5_3 : w4.cell? ⟨gb108, 3, none⟩ = some (.int .u64 a0_3) := (blk_cell BK108.out 3).trans rfl; have hcz5_4 : w4.cell? ⟨gb108, 4, none⟩ = some (.int .u64 a0_4) := (blk_cell BK108.out 4).trans rfl; have hcz5_5 : w4.cell? ⟨gb108, 5, none⟩ = some (.int .u64 a0_5) := (blk_cell BK108.out 5).trans rfl; have hcz5_6 : w4.cell? ⟨gb108, 6, none⟩ = some (.int .u64 a0_6) := (blk_cell BK108.out 6).trans rfl; have hcz5_7 : w4.cell? ⟨gb108, 7, none⟩ = some (.int .u64 a0_7) := (blk_cell BK108.out 7).trans rfl; have hcz5_8 : w4.cell? ⟨gb108, 8, none⟩ = some (.int .u64 a0_8) := (blk_cell BK108.out 8).trans rfl; have hcz5_9 : w4.cell? ⟨gb108, 9, none⟩ = some (.int .u64 a0_9) := (blk_cell BK108.out 9).trans rfl; have hfz5_0 := blk_frozen BK108.out 0; have hfz5_1 := blk_frozen BK108.out 1; have hfz5_2 := blk_frozen BK108.out 2; have hfz5_3 := blk_frozen BK108.out 3; have hfz5_4 := blk_frozen BK108.out 4; have hfz5_5 := blk_frozen BK108.out 5; have hfz5_6 := blk_frozen BK108.out 6; have hfz5_7 := blk_frozen BK108.out 7; have hfz5_8 := blk_frozen BK108.out 8; have hfz5_9 := blk_frozen BK108.out 9)); try go_wp2_with (first | ((with_reducible refine gate_dst (N := 2) rfl ?_); refine box_event ?hg (N := 2) ?hd (cs := #[.int .i64 a0_0, .slice A0_1 l0_1.length c0_1, .int .u64 a0_2, .int .u64 a0_3, .int .u64 a0_4, .int .u64 a0_5, .int .u64 a0_6, .int .u64 a0_7, .int .u64 a0_8, .int .u64 a0_9]) (t := 26) ?hr ?_; (case hd => rfl); (case hg => rfl); (case hr => first | (go_simp; done) | (go_simp; rfl)); intro gb108 hg w4 hbox hb; have n0_ := Aside0.mk (below_step (by repeat (first | (with_reducible first | exact HB.out | apply below_alloc | apply pw_below_drewN | apply below_drew1) | exact HB.out)) hb); have n1_ := Aside0.mk (hbox); have n2_ := Aside0.mk ((by rw [hg]; exact (below_size (by repeat (first | (with_reducible first | exact HB.out | apply below_alloc | apply pw_below_drewN | apply below_drew1) | exact HB.out))) : w.heap.size ≤ gb108)); have n3_ := Aside0.mk ((by rw [hg]; exact (below_size (by repeat (first | (with_reducible first | exact HB.out | apply below_alloc | apply pw_below_drewN | apply below_drew1) | exact HB.out))) : w.heap.size ≤ gb108)); clear HB; have HB := n0_; have BK108 := n1_; have GW108 := n2_; have GE108 := n3_; clear n0_ n1_ n2_ n3_; clear hb hbox hg; have hcz5_0 : w4.cell? ⟨gb108, 0, none⟩ = some (.int .i64 a0_0) := (blk_cell BK108.out 0).trans rfl; have hcz5_1 : w4.cell? ⟨gb108, 1, none⟩ = some (.slice A0_1 l0_1.length c0_1) := (blk_cell BK108.out 1).trans rfl; have hcz5_2 : w4.cell? ⟨gb108, 2, none⟩ = some (.int .u64 a0_2) := (blk_cell BK108.out 2).trans rfl; have hcz5_3 : w4.cell? ⟨gb108, 3, none⟩ = some (.int .u64 a0_3) := (blk_cell BK108.out 3).trans rfl; have hcz5_4 : w4.cell? ⟨gb108, 4, none⟩ = some (.int .u64 a0_4) := (blk_cell BK108.out 4).trans rfl; have hcz5_5 : w4.cell? ⟨gb108, 5, none⟩ = some (.int .u64 a0_5) := (blk_cell BK108.out 5).trans rfl; have hcz5_6 : w4.cell? ⟨gb108, 6, none⟩ = some (.int .u64 a0_6) := (blk_cell BK108.out 6).trans rfl; have hcz5_7 : w4.cell? ⟨gb108, 7, none⟩ = some (.int .u64 a0_7) := (blk_cell BK108.out 7).trans rfl; have hcz5_8 : w4.cell? ⟨gb108, 8, none⟩ = some (.int .u64 a0_8) := (blk_cell BK108.out 8).trans rfl; have hcz5_9 : w4.cell? ⟨gb108, 9, none⟩ = some (.int .u64 a0_9) := (blk_cell BK108.out 9).trans rfl; have hfz5_0 := blk_frozen BK108.out 0; have hfz5_1 := blk_frozen BK108.out 1; have hfz5_2 := blk_frozen BK108.out 2; have hfz5_3 := blk_frozen BK108.out 3; have hfz5_4 := blk_frozen BK108.out 4; have hfz5_5 := blk_frozen BK108.out 5; have hfz5_6 := blk_frozen BK108.out 6; have hfz5_7 := blk_frozen BK108.out 7; have hfz5_8 := blk_frozen BK108.out 8; have hfz5_9 := blk_frozen BK108.out 9)))
    go_ret
    exact ⟨by first | rfl | (simp [errW_none, errW_some] <;> rfl) | (simp [*, errW_none, errW_some] <;> rfl), by repeat (first | (with_reducible first | exact HB.out | apply below_alloc | apply pw_below_drewN | apply below_drew1 | refine below_set ?_ GE108.out) | exact HB.out)⟩
  · rw [if_neg c3] at H
    have c3b0 : (a0_2 == 18446744073709551615) = false := beq_eq_false_iff_ne.mpr c3
    have c3b1 : (a0_2 != 18446744073709551615) = true := bne_iff_ne.mpr c3
    replace H := Option.bind_eq_some_iff.mp H
    obtain ⟨t109, A60, H⟩ := H
    replace H : ((fix_MulDivT.f t109 a0_2 1000).bind fun t110 => ((fix_Gain.f t110 a1).bind fun t111 => (some t111))) = some r := H
    have A6 := Aside0.mk A60
    clear A60
    replace H := Option.bind_eq_some_iff.mp H
    obtain ⟨t110, A70, H⟩ := H
    replace H : ((fix_Gain.f t110 a1).bind fun t111 => (some t111)) = some r := H
    have A7 := Aside0.mk A70
    clear A70
    replace H := Option.bind_eq_some_iff.mp H
    obtain ⟨t111, A80, H⟩ := H
    replace H : (some t111) = some r := H
    have A8 := Aside0.mk A80
    clear A80
    obtain rfl := Option.some.inj H
    go_enter Try.func17, Try.ntmps17
    go_wp2_with (first | ((with_reducible refine gate_dst (N := 2) rfl ?_); refine box_event ?hg (N := 2) ?hd (cs := #[.int .i64 a0_0, .slice A0_1 l0_1.length c0_1, .int .u64 a0_2, .int .u64 a0_3, .int .u64 a0_4, .int .u64 a0_5, .int .u64 a0_6, .int .u64 a0_7, .int .u64 a0_8, .int .u64 a0_9]) (t := 26) ?hr ?_; (case hd => rfl); (case hg => rfl); (case hr => first | (go_simp; done) | (go_simp; rfl)); intro gb108 hg w9 hbox hb; have n0_ := Aside0.mk (below_step (by repeat (first | (with_reducible first | exact HB.out | apply below_alloc | apply pw_below_drewN | apply below_drew1) | exact HB.out)) hb); have n1_ := Aside0.mk (hbox); have n2_ := Aside0.mk ((by rw [hg]; exact (below_size (by repeat (first | (with_reducible first | exact HB.out | apply below_alloc | apply pw_below_drewN | apply below_drew1) | exact HB.out))) : w.heap.size ≤ gb108)); have n3_ := Aside0.mk ((by rw [hg]; exact (below_size (by repeat (first | (with_reducible first | exact HB.out | apply below_alloc | apply pw_below_drewN | apply below_drew1) | exact HB.out))) : w.heap.size ≤ gb108)); clear HB; have HB := n0_; have BK108 := n1_; have GW108 := n2_; have GE108 := n3_; clear n0_ n1_ n2_ n3_; clear hb hbox hg; have hcz10_0 : w9.cell? ⟨gb108, 0, none⟩ = some (.int .i64 a0_0) := (blk_cell BK108.out 0).trans rfl; have hcz10_1 : w9.cell? ⟨gb108, 1, none⟩ = some (.slice A0_1 l0_1.length c0_1) := (blk_cell BK108.out 1).trans rfl; have hcz10_2 : w9.cell? ⟨gb108, 2, none⟩ = some (.int .u64 a0_2) := (blk_cell BK108.out 2).trans rfl; have hcz10_3 : w9.cell? ⟨gb108, 3, none⟩ = some (.int .u64 a0_3) := (blk_cell BK108.out 3).trans rfl; have hcz10_4 : w9.cell? ⟨gb108, 4, none⟩ = some (.int .u64 a0_4) := (blk_cell BK108.out 4).trans rfl; have hcz10_5 : w9.cell? ⟨gb108, 5, none⟩ = some (.int .u64 a0_5) := (blk_cell BK108.out 5).trans rfl; have hcz10_6 : w9.cell? ⟨gb108, 6, none⟩ = some (.int .u64 a0_6) := (blk_cell BK108.out 6).trans rfl; have hcz10_7 : w9.cell? ⟨gb108, 7, none⟩ = some (.int .u64 a0_7) := (blk_cell BK108.out 7).trans rfl; have hcz10_8 : w9.cell? ⟨gb108, 8, none⟩ = some (.int .u64 a0_8) := (blk_cell BK108.out 8).trans rfl; have hcz10_9 : w9.cell? ⟨gb108, 9, none⟩ = some (.int .u64 a0_9) := (blk_cell BK108.out 9).trans rfl; have hfz10_0 := blk_frozen BK108.out 0; have hfz10_1 := blk_frozen BK108.out 1; have hfz10_2 := blk_frozen BK108.out 2; have hfz10_3 := blk_frozen BK108.out 3; have hfz10_4 := blk_frozen BK108.out 4; have hfz10_5 := blk_frozen BK108.out 5; have hfz10_6 := blk_frozen BK108.out 6; have hfz10_7 := blk_frozen BK108.out 7; have hfz10_8 := blk_frozen BK108.out 8; have hfz10_9 := blk_frozen BK108.out 9) | (go_at_call 23; (with_reducible refine (filt_Best.calls _ _ l0_1 t109 _ ?side1 ?side2 A6.out).mono ?_); (case side1 => repeat (first | exact (Kd.C_below HR0_1.out HB.out) | (with_reducible refine Kd.C_alloc ?_ _) | (with_reducible refine Kd.C_drewN ?_ _) | (with_reducible refine Kd.C_drew ?_))); (case side2 => exact HC0_1.out); rintro e w' ⟨rfl, ⟨nd, rfl⟩⟩; (try first | exact ⟨rfl, _, World.drewN_drewN _ _ _⟩ | exact ⟨rfl, _, Eq.trans (World.drewN_drewN ..) (congrArg (World.drewN _) (Nat.add_assoc ..))⟩)) | (go_at_call 35; (with_reducible refine (fix_MulDivT.calls t109 a0_2 1000 t110 _ A7.out).mono ?_); rintro e w' ⟨rfl, ⟨nd, rfl⟩⟩; (try first | exact ⟨rfl, _, World.drewN_drewN _ _ _⟩ | exact ⟨rfl, _, Eq.trans (World.drewN_drewN ..) (congrArg (World.drewN _) (Nat.add_assoc ..))⟩)) | (go_at_call 37; (with_reducible refine (fix_Gain.calls t110 a1 t111 _ A8.out).mono ?_); rintro e w' ⟨rfl, ⟨nd, rfl⟩⟩; (try first | exact ⟨rfl, _, World.drewN_drewN _ _ _⟩ | exact ⟨rfl, _, Eq.trans (World.drewN_drewN ..) (congrArg (World.drewN _) (Nat.add_assoc ..))⟩)))
    repeat (go_quiet (first | ((with_reducible refine gate_dst (N := 2) rfl ?_); refine box_event ?hg (N := 2) ?hd (cs := #[.int .i64 a0_0, .slice A0_1 l0_1.length c0_1, .int .u64 a0_2, .int .u64 a0_3, .int .u64 a0_4, .int .u64 a0_5, .int .u64 a0_6, .int .u64 a0_7, .int .u64 a0_8, .int .u64 a0_9]) (t := 26) ?hr ?_; (case hd => rfl); (case hg => rfl); (case hr => first | (go_simp; done) | (go_simp; rfl)); intro gb108 hg w9 hbox hb; have n0_ := Aside0.mk (below_step (by repeat (first | (with_reducible first | exact HB.out | apply below_alloc | apply pw_below_drewN | apply below_drew1) | exact HB.out)) hb); have n1_ := Aside0.mk (hbox); have n2_ := Aside0.mk ((by rw [hg]; exact (below_size (by repeat (first | (with_reducible first | exact HB.out | apply below_alloc | apply pw_below_drewN | apply below_drew1) | exact HB.out))) : w.heap.size ≤ gb108)); have n3_ := Aside0.mk ((by rw [hg]; exact (below_size (by repeat (first | (with_reducible first | exact HB.out | apply below_alloc | apply pw_below_drewN | apply below_drew1) | exact HB.out))) : w.heap.size ≤ gb108)); clear HB; have HB := n0_; have BK108 := n1_; have GW108 := n2_; have GE108 := n3_; clear n0_ n1_ n2_ n3_; clear hb hbox hg; have hcz10_0 : w9.cell? ⟨gb108, 0, none⟩ = some (.int .i64 a0_0) := (blk_cell BK108.out 0).trans rfl; have hcz10_1 : w9.cell? ⟨gb108, 1, none⟩ = some (.slice A0_1 l0_1.length c0_1) := (blk_cell BK108.out 1).trans rfl; have hcz10_2 : w9.cell? ⟨gb108, 2, none⟩ = some (.int .u64 a0_2) := (blk_cell BK108.out 2).trans rfl; have hcz10_3 : w9.cell? ⟨gb108, 3, none⟩ = some (.int .u64 a0_3) := (blk_cell BK108.out 3).trans rfl; have hcz10_4 : w9.cell? ⟨gb108, 4, none⟩ = some (.int .u64 a0_4) := (blk_cell BK108.out 4).trans rfl; have hcz10_5 : w9.cell? ⟨gb108, 5, none⟩ = some (.int .u64 a0_5) := (blk_cell BK108.out 5).trans rfl; have hcz10_6 : w9.cell? ⟨gb108, 6, none⟩ = some (.int .u64 a0_6) := (blk_cell BK108.out 6).trans rfl; have hcz10_7 : w9.cell? ⟨gb108, 7, none⟩ = some (.int .u64 a0_7) := (blk_cell BK108.out 7).trans rfl; have hcz10_8 : w9.cell? ⟨gb108, 8, none⟩ = some (.int .u64 a0_8) := (blk_cell BK108.out 8).trans rfl; have hcz10_9 : w9.cell? ⟨gb108, 9, none⟩ = some (.int .u64 a0_9) := (blk_cell BK108.out 9).trans rfl; have hfz10_0 := blk_frozen BK108.out 0; have hfz10_1 := blk_frozen BK108.out 1; have hfz10_2 := blk_frozen BK108.out 2; have hfz10_3 := blk_frozen BK108.out 3; have hfz10_4 := blk_frozen BK108.out 4; have hfz10_5 := blk_frozen BK108.out 5; have hfz10_6 := blk_frozen BK108.out 6; have hfz10_7 := blk_frozen BK108.out 7; have hfz10_8 := blk_frozen BK108.out 8; have hfz10_9 := blk_frozen BK108.out 9) | (go_at_call 23; (with_reducible refine (filt_Best.calls _ _ l0_1 t109 _ ?side1 ?side2 A6.out).mono ?_); (case side1 => repeat (first | exact (Kd.C_below HR0_1.out HB.out) | (with_reducible refine Kd.C_alloc ?_ _) | (with_reducible refine Kd.C_drewN ?_ _) | (with_reducible refine Kd.C_drew ?_))); (case side2 => exact HC0_1.out); rintro e w' ⟨rfl, ⟨nd, rfl⟩⟩; (try first | exact ⟨rfl, _, World.drewN_drewN _ _ _⟩ | exact ⟨rfl, _, Eq.trans (World.drewN_drewN ..) (congrArg (World.drewN _) (Nat.add_assoc ..))⟩)) | (go_at_call 35; (with_reducible refine (fix_MulDivT.calls t109 a0_2 1000 t110 _ A7.out).mono ?_); rintro e w' ⟨rfl, ⟨nd, rfl⟩⟩; (try first | exact ⟨rfl, _, World.drewN_drewN _ _ _⟩ | exact ⟨rfl, _, Eq.trans (World.drewN_drewN ..) (congrArg (World.drewN _) (Nat.add_assoc ..))⟩)) | (go_at_call 37; (with_reducible refine (fix_Gain.calls t110 a1 t111 _ A8.out).mono ?_); rintro e w' ⟨rfl, ⟨nd, rfl⟩⟩; (try first | exact ⟨rfl, _, World.drewN_drewN _ _ _⟩ | exact ⟨rfl, _, Eq.trans (World.drewN_drewN ..) (congrArg (World.drewN _) (Nat.add_assoc ..))⟩))); try go_wp2_with (first | ((with_reducible refine gate_dst (N := 2) rfl ?_); refine box_event ?hg (N := 2) ?hd (cs := #[.int .i64 a0_0, .slice A0_1 l0_1.length c0_1, .int .u64 a0_2, .int .u64 a0_3, .int .u64 a0_4, .int .u64 a0_5, .int .u64 a0_6, .int .u64 a0_7, .int .u64 a0_8, .int .u64 a0_9]) (t := 26) ?hr ?_; (case hd => rfl); (case hg => rfl); (case hr => first | (go_simp; done) | (go_simp; rfl)); intro gb108 hg w9 hbox hb; have n0_ := Aside0.mk (below_step (by repeat (first | (with_reducible first | exact HB.out | apply below_alloc | apply pw_below_drewN | apply below_drew1) | exact HB.out)) hb); have n1_ := Aside0.mk (hbox); have n2_ := Aside0.mk ((by rw [hg]; exact (below_size (by repeat (first | (with_reducible first | exact HB.out | apply below_alloc | apply pw_below_drewN | apply below_drew1) | exact HB.out))) : w.heap.size ≤ gb108)); have n3_ := Aside0.mk ((by rw [hg]; exact (below_size (by repeat (first | (with_reducible first | exact HB.out | apply below_alloc | apply pw_below_drewN | apply below_drew1) | exact HB.out))) : w.heap.size ≤ gb108)); clear HB; have HB := n0_; have BK108 := n1_; have GW108 := n2_; have GE108 := n3_; clear n0_ n1_ n2_ n3_; clear hb hbox hg; have hcz10_0 : w9.cell? ⟨gb108, 0, none⟩ = some (.int .i64 a0_0) := (blk_cell BK108.out 0).trans rfl; have hcz10_1 : w9.cell? ⟨gb108, 1, none⟩ = some (.slice A0_1 l0_1.length c0_1) := (blk_cell BK108.out 1).trans rfl; have hcz10_2 : w9.cell? ⟨gb108, 2, none⟩ = some (.int .u64 a0_2) := (blk_cell BK108.out 2).trans rfl; have hcz10_3 : w9.cell? ⟨gb108, 3, none⟩ = some (.int .u64 a0_3) := (blk_cell BK108.out 3).trans rfl; have hcz10_4 : w9.cell? ⟨gb108, 4, none⟩ = some (.int .u64 a0_4) := (blk_cell BK108.out 4).trans rfl; have hcz10_5 : w9.cell? ⟨gb108, 5, none⟩ = some (.int .u64 a0_5) := (blk_cell BK108.out 5).trans rfl; have hcz10_6 : w9.cell? ⟨gb108, 6, none⟩ = some (.int .u64 a0_6) := (blk_cell BK108.out 6).trans rfl; have hcz10_7 : w9.cell? ⟨gb108, 7, none⟩ = some (.int .u64 a0_7) := (blk_cell BK108.out 7).trans rfl; have hcz10_8 : w9.cell? ⟨gb108, 8, none⟩ = some (.int .u64 a0_8) := (blk_cell BK108.out 8).trans rfl; have hcz10_9 : w9.cell? ⟨gb108, 9, none⟩ = some (.int .u64 a0_9) := (blk_cell BK108.out 9).trans rfl; have hfz10_0 := blk_frozen BK108.out 0; have hfz10_1 := blk_frozen BK108.out 1; have hfz10_2 := blk_frozen BK108.out 2; have hfz10_3 := blk_frozen BK108.out 3; have hfz10_4 := blk_frozen BK108.out 4; have hfz10_5 := blk_frozen BK108.out 5; have hfz10_6 := blk_frozen BK108.out 6; have hfz10_7 := blk_frozen BK108.out 7; have hfz10_8 := blk_frozen BK108.out 8; have hfz10_9 := blk_frozen BK108.out 9) | (go_at_call 23; (with_reducible refine (filt_Best.calls _ _ l0_1 t109 _ ?side1 ?side2 A6.out).mono ?_); (case side1 => repeat (first | exact (Kd.C_below HR0_1.out HB.out) | (with_reducible refine Kd.C_alloc ?_ _) | (with_reducible refine Kd.C_drewN ?_ _) | (with_reducible refine Kd.C_drew ?_))); (case side2 => exact HC0_1.out); rintro e w' ⟨rfl, ⟨nd, rfl⟩⟩; (try first | exact ⟨rfl, _, World.drewN_drewN _ _ _⟩ | exact ⟨rfl, _, Eq.trans (World.drewN_drewN ..) (congrArg (World.drewN _) (Nat.add_assoc ..))⟩)) | (go_at_call 35; (with_reducible refine (fix_MulDivT.calls t109 a0_2 1000 t110 _ A7.out).mono ?_); rintro e w' ⟨rfl, ⟨nd, rfl⟩⟩; (try first | exact ⟨rfl, _, World.drewN_drewN _ _ _⟩ | exact ⟨rfl, _, Eq.trans (World.drewN_drewN ..) (congrArg (World.drewN _) (Nat.add_assoc ..))⟩)) | (go_at_call 37; (with_reducible refine (fix_Gain.calls t110 a1 t111 _ A8.out).mono ?_); rintro e w' ⟨rfl, ⟨nd, rfl⟩⟩; (try first | exact ⟨rfl, _, World.drewN_drewN _ _ _⟩ | exact ⟨rfl, _, Eq.trans (World.drewN_drewN ..) (congrArg (World.drewN _) (Nat.add_assoc ..))⟩))))
    go_ret
    exact ⟨by first | rfl | (simp [errW_none, errW_some] <;> rfl) | (simp [*, errW_none, errW_some] <;> rfl), by repeat (first | (with_reducible first | exact HB.out | apply below_alloc | apply pw_below_drewN | apply below_drew1 | refine below_set ?_ GE108.out) | exact HB.out)⟩
def api_Sample_25.f (l0 : List (S52)) : Option ((List (S52))) := (some (([] : List (S52)) : List (S52))).bind fun y112 => (if y112.length + l0.length < 8796093022208 then (some (y112 ++ l0)) else (none))
set_option maxHeartbeats 8000000 in
set_option maxRecDepth 100000 in
theorem api_Sample_25.calls (A0 : Option Addr) (c0 : Nat) (l0 : List (S52)) (r : List (S52)) (w : World) (hr0 : Kd.C k52 w A0 l0.length l0) (hc0 : l0.length ≤ c0) (h : api_Sample_25.f l0 = some r) :
    Calls Try.prog 25 #[.slice A0 l0.length c0] w fun e w' => ∃ v0_ : Value, e = .returned (v0_) ∧ Kd.R k52 52 w' w.heap.size (fun _ => True) v0_ r ∧ Below w.heap.size w w' := by
  have HR0 := Aside0.mk hr0
  have HC0 := Aside0.mk hc0
  clear HR0 HC0
  have hn0 : ∀ (n c : Nat) (w : World), (binOp .eql 23 (.slice none n c) (.slice none 0 0)).run Try.prog w = .ok (.bool true) w := fun _ _ _ => by kernel_rfl
  have hn1 : ∀ (ad : Addr) (n c : Nat) (w : World), (binOp .eql 23 (.slice (some ad) n c) (.slice none 0 0)).run Try.prog w = .ok (.bool false) w := fun _ _ _ _ => by kernel_rfl
  rcases A0 with _ | ad0
  · have hl : l0 = [] := by
      cases l0 with
      | nil => rfl
      | cons x y =>
        obtain ⟨ad, he, _⟩ := hr0.2.2 (by simp)
        cases he
    subst hl
    have hr : r = [] := by
      unfold api_Sample_25.f at h
      simpa using h.symm
    subst hr
    go_enter Try.func25, Try.ntmps25
    go_wp2
    go_ret
    exact ⟨_, rfl, Kd.R_nil _ _ _ _ _, Below.refl _ _⟩
  have HR0 := Aside0.mk hr0
  have HC0 := Aside0.mk hc0
  clear hr0 hc0
  have HB := Aside0.mk (Below.refl w.heap.size w)
  have H : ((some (([] : List (S52)) : List (S52))).bind fun y112 => (if y112.length + l0.length < 8796093022208 then (some (y112 ++ l0)) else (none))) = some r := h
  clear h
  obtain ⟨y112, hy112⟩ : ∃ y_ : List (S52), y_ = (([] : List (S52))) := ⟨_, rfl⟩
  replace H : (if y112.length + l0.length < 8796093022208 then (some (y112 ++ l0)) else (none)) = some r := by first | (rw [hy112]; with_reducible exact H) | (have H2_ := (Option.bind_some _ _).symm.trans H; rw [hy112]; with_reducible exact H2_) | (have H2_ := (Option.bind_some _ _).symm.trans H; with_reducible exact H2_) | with_reducible exact H | (rw [hy112]; exact H) | exact H
  have Ny112 := Aside0.mk hy112
  clear hy112
  by_cases c2 : y112.length + l0.length < 8796093022208
  · rw [if_pos c2] at H
    have LMc2 := Aside0.mk c2
    clear c2
    obtain ⟨y115, hy115⟩ : ∃ y_ : List (S52), y_ = (y112 ++ l0) := ⟨_, rfl⟩
    replace H : (some y115) = some r := by first | (rw [hy115]; with_reducible exact H) | (have H2_ := (Option.bind_some _ _).symm.trans H; rw [hy115]; with_reducible exact H2_) | (have H2_ := (Option.bind_some _ _).symm.trans H; with_reducible exact H2_) | with_reducible exact H | (rw [hy115]; exact H) | exact H
    have Ny115 := Aside0.mk hy115
    clear hy115
    obtain rfl := Option.some.inj H
    go_enter Try.func25, Try.ntmps25
    go_wp2_with (first | ((with_reducible refine gate_dst (N := 5) rfl ?_); refine Kd.R_lit k52 _ 52 ?hg (N := 5) ?hd (xs := ([] : List (S52))) (inner := []) (ok := fun _ => True) (okp := fun _ => True) ?hr ?hp (fun _ hk => hk) trivial (Below.refl _ _) (Nat.le_refl _) (by simp) ?_; (case hd => rfl); (case hg => rfl); (case hr => first | (go_simp; done) | (go_simp; rfl)); (case hp => exact (Reps.none _ _)); intro v113 w3 ho4 hb hg_ hnew_; clear hg_ hnew_; (first | rw [← Ny112.out] at ho4 | (simp only [Int.reduceToNat] at ho4; rw [← Ny112.out] at ho4)); have n0_ := Aside0.mk (Kd.R_lower ho4 (below_size (by repeat (first | (with_reducible first | exact HB.out | apply below_alloc | apply pw_below_drewN | apply below_drew1) | exact HB.out)))); have n1_ := Aside0.mk (below_step (by repeat (first | (with_reducible first | exact HB.out | apply below_alloc | apply pw_below_drewN | apply below_drew1) | exact HB.out)) hb); clear HB; have HO114 := n0_; have HB := n1_; clear n0_ n1_; clear hb ho4) | ((with_reducible refine gate_builtin (b := .append) (xs := #[.tmp 5, .tmp 6]) rfl ?_); at_builtin; refine Kd.R_append_rows k52 (w0 := w) w.heap.size rfl (.tmp 5) (.tmp 6) 23 52 (.agg #[(.int .u64 0), (.int .u64 0)]) 16 rfl Try.underlying23 info52 rfl (by decide) (by omega) v113 y112 l0 _ _ _ (fun _ => True) (fun _ => False) rfl rfl ?aO ?aR (fun _ _ h => h) (fun _ h => h.elim) ?aF ?aB ?aS ?aL ?_; (case aR => repeat (first | exact (Kd.C_below HR0.out HB.out) | (with_reducible refine Kd.C_alloc ?_ _) | (with_reducible refine Kd.C_drewN ?_ _) | (with_reducible refine Kd.C_drew ?_))); (case aB => exact (by repeat (first | (with_reducible first | exact HB.out | apply below_alloc | apply pw_below_drewN | apply below_drew1) | exact HB.out))); (case aF => exact (fun _ _ => trivial)); (case aO => exact (by (with_reducible repeat (first | apply Kd.R_alloc | apply Kd.R_drewN | apply Kd.R_drew)); exact HO114.out)); (case aS => exact (below_size (by repeat (first | (with_reducible first | exact HB.out | apply below_alloc | apply pw_below_drewN | apply below_drew1) | exact HB.out)))); (case aL => have := LMc2.out; omega); intro v116 w5 ho hb hg hat; rw [← Ny115.out] at ho; have n0_ := Aside0.mk (hb); have n1_ := Aside0.mk (ho); clear HB; clear HO114; have HB := n0_; have HO117 := n1_; clear n0_ n1_; clear ho hb hg hat))
    go_ret
    exact ⟨_, by first | rfl | (simp [errW_none, errW_some] <;> rfl) | (simp [*, errW_none, errW_some] <;> rfl), by (with_reducible repeat (first | apply Kd.R_alloc | apply Kd.R_drewN | apply Kd.R_drew)); exact HO117.out, by repeat (first | (with_reducible first | exact HB.out | apply below_alloc | apply pw_below_drewN | apply below_drew1) | exact HB.out)⟩
  · rw [if_neg c2] at H
    exact absurd H (by simp)
attribute [local go_sem] max2_int min2_int max_two min_two max_three min_three max_four min_four   -- for this text's walks alone
set_option linter.unusedVariables false
set_option linter.unusedSimpArgs false
theorem fix_Add.add64 (x y : Int) (hx : 0 ≤ x) (hy : 0 ≤ y) (w : World) : (callFunc 40 #[.int .u64 x, .int .u64 y, .int .u64 0]).run Try.prog w =
    .ok (.value (.tuple #[.int .u64 ((x + y) % 18446744073709551616), .int .u64 ((x + y) / 18446744073709551616)])) w := by
  rw [run_callFunc_extern Try.func40 (by kernel_rfl) (by kernel_rfl) (by kernel_rfl) (e := Go.add64Entry) (by kernel_rfl), Go.run_add64 x y 0 hx hy (by omega) (by omega)]
  simp only [Result.andThen, Int.add_zero]
def fix_Add.f (a0 : Int) (a1 : Int) : Option Int := if W64 a0 ∧ W64 a1 then some (uAdd a0 a1) else none
set_option maxHeartbeats 1000000 in
theorem fix_Add.calls (a0 : Int) (a1 : Int) (r : Int) (w : World) (h : fix_Add.f a0 a1 = some r) :
    Calls Try.prog 26 #[.int .u64 a0, .int .u64 a1] w fun e w' => e = .returned (.int .u64 r) ∧ Drawn0 w w' := by
  unfold fix_Add.f at h
  split at h
  · rename_i hw
    obtain ⟨⟨h0, h1⟩, h2, h3⟩ := hw
    have hr := Lib.hid (Option.some.inj h)
    clear h
    by_cases hc : a0 + a1 ≤ 18446744073709551615
    · have hd : decide (0 < (a0 + a1) / 18446744073709551616) = false := by simp; omega
      go_enter Try.func26, Try.ntmps26
      go_wp2_with (simp only [fix_Add.add64 a0 a1 h0 h2])
      go_ret
      refine ⟨?_, Drawn0.refl _⟩
      exact ret_int (by rw [← hr.out]; unfold uAdd; rw [if_pos hc]; omega)
    · have hd : decide (0 < (a0 + a1) / 18446744073709551616) = true := by simp; omega
      go_enter Try.func26, Try.ntmps26
      go_wp2_with (simp only [fix_Add.add64 a0 a1 h0 h2])
      go_ret
      refine ⟨?_, Drawn0.refl _⟩
      exact ret_int (by rw [← hr.out]; unfold uAdd; rw [if_neg (by omega)])
  · cases h
theorem fix_Add.C (a b : Int) (ha : W64 a) (hb : W64 b) (w : World) : Calls Try.prog 26 #[.int .u64 a, .int .u64 b] w fun e w' => e = .returned (.int .u64 (uAdd a b)) ∧ Drawn0 w w' :=
  fix_Add.calls a b _ w (by unfold fix_Add.f; rw [if_pos ⟨ha, hb⟩])
theorem fix_Add.Q (a b : Int) (ha : W64 a) (hb : W64 b) (w : World) (n : Nat) : Calls Try.prog 26 #[.int .u64 a, .int .u64 b] (w.drewN n) fun e w' => e = .returned (.int .u64 (uAdd a b)) ∧ ∃ m, w' = w.drewN m := quiet_c (fix_Add.C a b ha hb) n
theorem reno_Held.C (a : Int) (w : World) : Calls Try.prog 27 #[.int .u64 a] w fun e w' => e = .returned (.int .u64 (uHeld a)) ∧ Drawn0 w w' := by
  unfold uHeld
  by_cases h : a < 2400
  · rw [if_pos h]
    go_enter Try.func27, Try.ntmps27
    go_wp2
    go_ret
    exact ⟨ret_int (by first | rfl | omega), Drawn0.refl _⟩
  · rw [if_neg h]
    by_cases h' : 16777216 < a
    · rw [if_pos h']
      go_enter Try.func27, Try.ntmps27
      go_wp2
      go_ret
      exact ⟨ret_int (by first | rfl | omega), Drawn0.refl _⟩
    · rw [if_neg h']
      go_enter Try.func27, Try.ntmps27
      go_wp2
      go_ret
      exact ⟨ret_int (by first | rfl | omega), Drawn0.refl _⟩
theorem reno_Held.Q (a : Int) (w : World) (n : Nat) : Calls Try.prog 27 #[.int .u64 a] (w.drewN n) fun e w' => e = .returned (.int .u64 (uHeld a)) ∧ ∃ m, w' = w.drewN m := quiet_c (reno_Held.C a) n
def reno_Held.f (a0 : Int) : Option Int := some (uHeld a0)
theorem reno_Held.calls (a0 : Int) (r : Int) (w : World) (h : reno_Held.f a0 = some r) :
    Calls Try.prog 27 #[.int .u64 a0] w fun e w' => e = .returned (.int .u64 r) ∧ Drawn0 w w' := by
  obtain rfl := Option.some.inj h
  exact reno_Held.C a0 w
def filt_PushMax_1.f (x0 x1 a1 e : Int) : Option Bool := (fix_Add.f x0 a1).bind fun t => some (decide (e / 18446744073709551616 ≤ t) && decide (e % 18446744073709551616 < x1))
set_option maxHeartbeats 1000000 in
theorem filt_PushMax_1.C (x0 x1 a1 s0 s1 : Int) (gw gs : Nat) (w : World) (ha : W64 x0) (hb : W64 a1) (hw : w.cell? ⟨gw, 0, none⟩ = some (.int .u64 a1)) (h0 : w.cell? ⟨gs, 0, none⟩ = some (.int .u64 s0)) (h1 : w.cell? ⟨gs, 1, none⟩ = some (.int .u64 s1)) :
    Calls Try.prog 42 #[.agg #[.int .u64 x0, .int .u64 x1], .pointer (some ⟨gw, 0, none⟩), .pointer (some ⟨gs, 0, none⟩)] w fun e w' => e = .returned (.bool (decide (s0 ≤ uAdd x0 a1) && decide (s1 < x1))) ∧ Below w.heap.size w w' := by
  have hu := Try.underlying52
  cases hd : decide (s0 ≤ uAdd x0 a1) <;> (
    go_enter Try.func42, Try.ntmps42
    go_wp2_with (first | ((with_reducible refine gate_dst (N := 3) rfl ?_); refine box_event ?hg (N := 3) ?hd (cs := #[.int .u64 x0, .int .u64 x1]) (t := 52) ?hr ?_; (case hd => rfl); (case hg => rfl); (case hr => first | (go_simp; done) | (go_simp; rfl)); intro gb hg w1 hbox hb1; have k0 : w1.cell? ⟨gb, 0, none⟩ = some (.int .u64 x0) := (blk_cell hbox 0).trans rfl; have k1 : w1.cell? ⟨gb, 1, none⟩ = some (.int .u64 x1) := (blk_cell hbox 1).trans rfl; replace hw := (hb1.cell (World.block_lt_of_cell? w _ hw)).trans hw; replace h0 := (hb1.cell (World.block_lt_of_cell? w _ h0)).trans h0; replace h1 := (hb1.cell (World.block_lt_of_cell? w _ h1)).trans h1; clear hbox hg))
    go_quiet ((go_at_call 26; with_reducible exact fix_Add.Q x0 a1 ha hb w1 _))
    go_wp2
    go_ret
    exact ⟨by simp, pw_below_drewN hb1 _⟩)
theorem filt_PushMax_1.calls (x0 x1 a1 e : Int) (r : Bool) (gw gs : Nat) (w : World) (hw : w.cell? ⟨gw, 0, none⟩ = some (.int .u64 a1)) (h0 : w.cell? ⟨gs, 0, none⟩ = some (.int .u64 (e / 18446744073709551616))) (h1 : w.cell? ⟨gs, 1, none⟩ = some (.int .u64 (e % 18446744073709551616))) (h : filt_PushMax_1.f x0 x1 a1 e = some r) :
    Calls Try.prog 42 #[.agg #[.int .u64 x0, .int .u64 x1], .pointer (some ⟨gw, 0, none⟩), .pointer (some ⟨gs, 0, none⟩)] w fun e w' => e = .returned (.bool r) ∧ Below w.heap.size w w' := by
  unfold filt_PushMax_1.f fix_Add.f at h
  split at h
  · rename_i hw2
    simp only [Option.bind_some, Option.some.injEq] at h
    subst h
    exact filt_PushMax_1.C x0 x1 a1 _ _ gw gs w hw2.1 hw2.2 hw h0 h1
  · simp at h
attribute [local go_sem] max2_int min2_int max_two min_two max_three min_three max_four min_four   -- for this text's walks alone
set_option linter.unusedVariables false
set_option linter.unusedSimpArgs false
def api_Sample_41.l0 : Nat → Int → Int → List (S52) → List (S52) → Int → Int → Int → Int → Option ((List (S52)))
  | 0, _, _, _, _, _, _, _, _ => none
  | k + 1, x2, x3, x7, x10, x11, x12, x119000, x119001 => if x12 < x11 then (if 0 ≤ x12 then (if x12 < (x10.length : Int) then ((filt_PushMax_1.f ((rd_T52 x10 x12).f0) ((rd_T52 x10 x12).f1) x2 x3).bind fun t121 => (if t121 = true then (if x7.length < 8796093022208 then (api_Sample_41.l0 k x2 x3 (x7 ++ [(⟨(rd_T52 x10 x12).f0, (rd_T52 x10 x12).f1⟩ : S52)]) x10 x11 (wrap64 (x12 + 1)) x119000 x119001) else (none)) else (api_Sample_41.l0 k x2 x3 x7 x10 x11 (wrap64 (x12 + 1)) x119000 x119001))) else (none)) else (none)) else (if x7.length < 8796093022208 then (some (x7 ++ [(⟨x119000, x119001⟩ : S52)])) else (none))
def api_Sample_41.f (k : Nat) (l0 : List (S52)) (a1_0 : Int) (a1_1 : Int) (a2 : Int) (a3 : Int) : Option ((List (S52))) := api_Sample_41.l0 k a2 a3 ([] : List (S52)) l0 (l0.length : Int) 0 a1_0 a1_1
set_option maxHeartbeats 8000000 in
set_option maxRecDepth 100000 in
theorem api_Sample_41.calls (k : Nat) (A0 : Option Addr) (c0 : Nat) (l0 : List (S52)) (a1_0 : Int) (a1_1 : Int) (a2 : Int) (a3 : Int) (r : List (S52)) (gw gs : Nat) (w : World) (hgw : w.cell? ⟨gw, 0, none⟩ = some (.int .u64 a2)) (hg0 : w.cell? ⟨gs, 0, none⟩ = some (.int .u64 (a3 / 18446744073709551616))) (hg1 : w.cell? ⟨gs, 1, none⟩ = some (.int .u64 (a3 % 18446744073709551616))) (hr0 : Kd.C k52 w A0 l0.length l0) (hc0 : l0.length ≤ c0) (h : api_Sample_41.f k l0 a1_0 a1_1 a2 a3 = some r) :
    Calls Try.prog 41 #[.slice A0 l0.length c0, .agg #[.int .u64 a1_0, .int .u64 a1_1], .func (.func 42) #[] #[.pointer (some ⟨gw, 0, none⟩), .pointer (some ⟨gs, 0, none⟩)]] w fun e w' => ∃ v0_ : Value, e = .returned (v0_) ∧ Kd.R k52 52 w' w.heap.size (fun _ => True) v0_ r ∧ Below w.heap.size w w' := by
  have hu52 := Try.underlying52
  have HR0 := Aside0.mk hr0
  have HC0 := Aside0.mk hc0
  clear hr0 hc0
  have HB := Aside0.mk (Below.refl w.heap.size w)
  have H : (api_Sample_41.l0 k a2 a3 ([] : List (S52)) l0 (l0.length : Int) 0 a1_0 a1_1) = some r := h
  clear h
  have H' := Aside0.mk H
  clear H
  go_enter Try.func41, Try.ntmps41
  go_wp2_with (first | ((with_reducible refine gate_dst (N := 4) rfl ?_); refine box_event ?hg (N := 4) ?hd (cs := #[.int .u64 a1_0, .int .u64 a1_1]) (t := 52) ?hr ?_; (case hd => rfl); (case hg => rfl); (case hr => first | (go_simp; done) | (go_simp; rfl)); intro gb118 hg w5 hbox hb; have n0_ := Aside0.mk (below_step (by repeat (first | (with_reducible first | exact HB.out | apply below_alloc | apply pw_below_drewN | apply below_drew1) | exact HB.out)) hb); have n1_ := Aside0.mk (hbox); have n2_ := Aside0.mk ((by rw [hg]; exact (below_size (by repeat (first | (with_reducible first | exact HB.out | apply below_alloc | apply pw_below_drewN | apply below_drew1) | exact HB.out))) : w.heap.size ≤ gb118)); have n3_ := Aside0.mk ((by rw [hg]; exact (below_size (by repeat (first | (with_reducible first | exact HB.out | apply below_alloc | apply pw_below_drewN | apply below_drew1) | exact HB.out))) : w.heap.size ≤ gb118)); clear HB; have HB := n0_; have BK118 := n1_; have GW118 := n2_; have GE118 := n3_; clear n0_ n1_ n2_ n3_; clear hb hbox hg))
  go_loopg [7, 12] k (fun kq v7 v12 w' => ∃ (x7_1 : List (S52)) (x12_1 : Int), v12 = .int .i64 x12_1 ∧ Aside0 (api_Sample_41.l0 kq a2 a3 x7_1 l0 (l0.length : Int) x12_1 a1_0 a1_1 = some r) ∧ Aside0 (kq ≤ k) ∧ Aside0 (Kd.R k52 52 w' w.heap.size (fun k_ => k_ ≠ gb118) v7 x7_1) ∧ Aside0 (w'.heap[gb118]? = some (.cells #[.int .u64 a1_0, .int .u64 a1_1] 52 (0, 0))) ∧ Aside0 (Below w.heap.size w w'))
  case atStart => exact ⟨(([] : List (S52))), (0), (by first | rfl | (simp; done) | (simp [*]; done)), H', ⟨Nat.le_refl _⟩, ⟨by first | exact Kd.R_nil .. | exact Kd.N_nil .. | exact Kd.V_nil .. | exact Kd.Q_nil .. | exact Kd.S_nil _ _ _ _ _⟩, ⟨by (with_reducible repeat (first | refine blk_drewN ?_ _ | refine blk_drew ?_ | refine blk_alloc ?_ _)); exact BK118.out⟩, ⟨by repeat (first | (with_reducible first | exact HB.out | apply below_alloc | apply pw_below_drewN | apply below_drew1 | refine below_set ?_ GE118.out) | exact HB.out)⟩⟩
  case round =>
    clear H'
    try clear p2
    try clear c4
    obtain ⟨x7_1, x12_1, rfl, HA, HK1, HO_7, BK118, HB⟩ := hrel
    cases gk with
    | zero => exact absurd HA.out (by simp [api_Sample_41.l0])
    | succ k1 =>
      have H := HA.out
      clear HA
      simp only [api_Sample_41.l0] at H
      by_cases c6 : x12_1 < (l0.length : Int)
      · rw [if_pos c6] at H
        have c6b0 : decide (x12_1 < (l0.length : Int)) = true := decide_eq_true c6
        clear c6
        by_cases c7 : 0 ≤ x12_1
        · rw [if_pos c7] at H
          have c7b0 : decide (0 ≤ x12_1) = true := decide_eq_true c7
          clear c7
          by_cases c8 : x12_1 < (l0.length : Int)
          · rw [if_pos c8] at H
            have c8b0 : decide (x12_1 < (l0.length : Int)) = true := decide_eq_true c8
            clear c8
            replace H := Option.bind_eq_some_iff.mp H
            obtain ⟨t121, A90, H⟩ := H
            replace H : (if t121 = true then (if x7_1.length < 8796093022208 then (api_Sample_41.l0 k1 a2 a3 (x7_1 ++ [(⟨(rd_T52 l0 x12_1).f0, (rd_T52 l0 x12_1).f1⟩ : S52)]) l0 (l0.length : Int) (wrap64 (x12_1 + 1)) a1_0 a1_1) else (none)) else (api_Sample_41.l0 k1 a2 a3 x7_1 l0 (l0.length : Int) (wrap64 (x12_1 + 1)) a1_0 a1_1)) = some r := H
            have A9 := Aside0.mk A90
            clear A90
            by_cases c10 : t121 = true
            · subst c10
              have H1 : (if x7_1.length < 8796093022208 then (api_Sample_41.l0 k1 a2 a3 (x7_1 ++ [(⟨(rd_T52 l0 x12_1).f0, (rd_T52 l0 x12_1).f1⟩ : S52)]) l0 (l0.length : Int) (wrap64 (x12_1 + 1)) a1_0 a1_1) else (none)) = some r := by rw [if_pos rfl] at H; exact H
              clear H
              have H := H1
              clear H1
              by_cases c11 : x7_1.length < 8796093022208
              · rw [if_pos c11] at H
                have LMc11 := Aside0.mk c11
                clear c11
                obtain ⟨y122, hy122⟩ : ∃ y_ : List (S52), y_ = (x7_1 ++ [(⟨(rd_T52 l0 x12_1).f0, (rd_T52 l0 x12_1).f1⟩ : S52)]) := ⟨_, rfl⟩
                replace H : (api_Sample_41.l0 k1 a2 a3 y122 l0 (l0.length : Int) (wrap64 (x12_1 + 1)) a1_0 a1_1) = some r := by first | (rw [hy122]; with_reducible exact H) | (have H2_ := (Option.bind_some _ _).symm.trans H; rw [hy122]; with_reducible exact H2_) | (have H2_ := (Option.bind_some _ _).symm.trans H; with_reducible exact H2_) | with_reducible exact H | (rw [hy122]; exact H) | exact H
                have Ny122 := Aside0.mk hy122
                clear hy122
                have H' := Aside0.mk H
                clear H
                have p119 : 0 ≤ (x12_1 : Int) := of_decide_eq_true (by first | (with_reducible assumption) | assumption)
                have q119 : x12_1 < (l0.length : Int) := of_decide_eq_true (by first | (with_reducible assumption) | assumption)
                obtain ⟨ad119, e119, hx119_0, hx119_1⟩ := at_T52 HR0.out x12_1 p119 q119
                cases e119
                replace hx119_0 := (HB.out.cell (World.block_lt_of_cell? w _ hx119_0)).trans hx119_0
                replace hx119_1 := (HB.out.cell (World.block_lt_of_cell? w _ hx119_1)).trans hx119_1
                replace p119 := eq_true p119
                replace q119 := eq_true q119
                go_wp2_with (first | ((with_reducible refine gate_dst (N := 9) rfl ?_); refine box_event ?hg (N := 9) ?hd (cs := #[.int .u64 0, .int .u64 0]) (t := 52) ?hr ?_; (case hd => rfl); (case hg => rfl); (case hr => first | (go_simp; done) | (go_simp; rfl)); intro gb120 hg w12 hbox hb; have n0_ := Aside0.mk (Kd.R_below (Kd.R_elderB (by (with_reducible repeat (first | apply Kd.R_alloc | apply Kd.R_drewN | apply Kd.R_drew)); exact HO_7.out) gb120 (Nat.le_of_eq hg.symm)) hb); have n1_ := Aside0.mk (blk_below (g := gb118) (o := .cells #[.int .u64 a1_0, .int .u64 a1_1] 52 (0, 0)) (by (with_reducible repeat (first | refine blk_drewN ?_ _ | refine blk_drew ?_ | refine blk_alloc ?_ _)); exact BK118.out) hb); have n2_ := Aside0.mk (below_step (by repeat (first | (with_reducible first | exact HB.out | apply below_alloc | apply pw_below_drewN | apply below_drew1 | refine below_set ?_ GE118.out) | exact HB.out)) hb); have n3_ := Aside0.mk (hbox); have n4_ := Aside0.mk ((by rw [hg]; exact (below_size (by repeat (first | (with_reducible first | exact HB.out | apply below_alloc | apply pw_below_drewN | apply below_drew1 | refine below_set ?_ GE118.out) | exact HB.out))) : w.heap.size ≤ gb120)); have n5_ := Aside0.mk ((by rw [hg]; exact (below_size (by repeat (first | (with_reducible first | exact HB.out | apply below_alloc | apply pw_below_drewN | apply below_drew1 | refine below_set ?_ GE118.out) | exact HB.out))) : w.heap.size ≤ gb120)); have n6_ := Aside0.mk ((by rw [hg]; exact Nat.ne_of_lt (blk_lt (g := gb118) (o := .cells #[.int .u64 a1_0, .int .u64 a1_1] 52 (0, 0)) (by (with_reducible repeat (first | refine blk_drewN ?_ _ | refine blk_drew ?_ | refine blk_alloc ?_ _)); exact BK118.out)) : gb118 ≠ gb120)); have n7_ := Aside0.mk ((by rw [hg]; exact Nat.ne_of_gt (blk_lt (g := gb118) (o := .cells #[.int .u64 a1_0, .int .u64 a1_1] 52 (0, 0)) (by (with_reducible repeat (first | refine blk_drewN ?_ _ | refine blk_drew ?_ | refine blk_alloc ?_ _)); exact BK118.out)) : gb120 ≠ gb118)); clear HO_7; clear BK118; clear HB; have HO_7 := n0_; have BK118 := n1_; have HB := n2_; have BK120 := n3_; have GW120 := n4_; have GE120 := n5_; have NB118_120 := n6_; have NB120_118 := n7_; clear n0_ n1_ n2_ n3_ n4_ n5_ n6_ n7_; clear hb hbox hg; have hnb13 := NB120_118.out; have hnc13 := NB118_120.out; have hcz14_0 : w12.cell? ⟨gb120, 0, none⟩ = some (.int .u64 0) := (blk_cell BK120.out 0).trans rfl; have hcz14_1 : w12.cell? ⟨gb120, 1, none⟩ = some (.int .u64 0) := (blk_cell BK120.out 1).trans rfl; have hfz14_0 := blk_frozen BK120.out 0; have hfz14_1 := blk_frozen BK120.out 1) | ((go_at_call 42); (refine Calls.mono (filt_PushMax_1.calls ((rd_T52 l0 x12_1).f0) ((rd_T52 l0 x12_1).f1) a2 a3 true gw gs _ ?c1 ?c2 ?c3 A9.out) ?_); (case c1 => exact (Below.cell (by repeat (first | (with_reducible first | exact HB.out | apply below_alloc | apply pw_below_drewN | apply below_drew1 | refine below_set ?_ GE118.out | refine below_set ?_ GE120.out) | exact HB.out)) (World.block_lt_of_cell? w _ hgw)).trans hgw); (case c2 => exact (Below.cell (by repeat (first | (with_reducible first | exact HB.out | apply below_alloc | apply pw_below_drewN | apply below_drew1 | refine below_set ?_ GE118.out | refine below_set ?_ GE120.out) | exact HB.out)) (World.block_lt_of_cell? w _ hg0)).trans hg0); (case c3 => exact (Below.cell (by repeat (first | (with_reducible first | exact HB.out | apply below_alloc | apply pw_below_drewN | apply below_drew1 | refine below_set ?_ GE118.out | refine below_set ?_ GE120.out) | exact HB.out)) (World.block_lt_of_cell? w _ hg1)).trans hg1); rintro e w15 ⟨rfl, hb⟩; have n0_ := Aside0.mk (Kd.R_below (by (with_reducible repeat (first | apply Kd.R_alloc | apply Kd.R_drewN | apply Kd.R_drew)); exact (Kd.R_mono (Kd.R_far (p := ⟨gb120, 1, none⟩) (Kd.R_far (p := ⟨gb120, 0, none⟩) (Kd.R_mono HO_7.out (fun k_ hk => (⟨hk, hk.2⟩ : _ ∧ k_ ≠ gb120))) (fun _ hk => hk.2) (.int .u64 ((rd_T52 l0 x12_1).f0))) (fun _ hk => hk.2) (.int .u64 ((rd_T52 l0 x12_1).f1))) (fun _ h_ => h_.1))) hb); have n1_ := Aside0.mk (blk_below (g := gb118) (o := .cells #[.int .u64 a1_0, .int .u64 a1_1] 52 (0, 0)) (by (with_reducible repeat (first | refine blk_drewN ?_ _ | refine blk_drew ?_ | refine blk_alloc ?_ _)); refine blk_far ?_ NB118_120.out _; (with_reducible repeat (first | refine blk_drewN ?_ _ | refine blk_drew ?_ | refine blk_alloc ?_ _)); refine blk_far ?_ NB118_120.out _; (with_reducible repeat (first | refine blk_drewN ?_ _ | refine blk_drew ?_ | refine blk_alloc ?_ _)); exact BK118.out) hb); have n2_ := Aside0.mk (blk_below (g := gb120) (o := .cells #[.int .u64 ((rd_T52 l0 x12_1).f0), .int .u64 ((rd_T52 l0 x12_1).f1)] 52 (0, 0)) (by (with_reducible repeat (first | refine blk_drewN ?_ _ | refine blk_drew ?_ | refine blk_alloc ?_ _)); refine blk_put (cs := #[.int .u64 ((rd_T52 l0 x12_1).f0), .int .u64 0]) ?_ 1 _ rfl; (with_reducible repeat (first | refine blk_drewN ?_ _ | refine blk_drew ?_ | refine blk_alloc ?_ _)); refine blk_put (cs := #[.int .u64 0, .int .u64 0]) ?_ 0 _ rfl; (with_reducible repeat (first | refine blk_drewN ?_ _ | refine blk_drew ?_ | refine blk_alloc ?_ _)); exact BK120.out) hb); have n3_ := Aside0.mk (below_step (by repeat (first | (with_reducible first | exact HB.out | apply below_alloc | apply pw_below_drewN | apply below_drew1 | refine below_set ?_ GE118.out | refine below_set ?_ GE120.out) | exact HB.out)) hb); clear HO_7; clear BK118; clear BK120; clear HB; have HO_7 := n0_; have BK118 := n1_; have BK120 := n2_; have HB := n3_; clear n0_ n1_ n2_ n3_; (try clear hb); (try clear hb2); (try clear hk); (try clear hi); have hcz16_0 : w15.cell? ⟨gb120, 0, none⟩ = some (.int .u64 ((rd_T52 l0 x12_1).f0)) := (blk_cell BK120.out 0).trans rfl; have hcz16_1 : w15.cell? ⟨gb120, 1, none⟩ = some (.int .u64 ((rd_T52 l0 x12_1).f1)) := (blk_cell BK120.out 1).trans rfl; have hfz16_0 := blk_frozen BK120.out 0; have hfz16_1 := blk_frozen BK120.out 1) | ((with_reducible refine gate_builtin (b := .append) (xs := #[.tmp 19, .tmp 21]) rfl ?_); at_builtin; refine Kd.R_append k52 (w0 := w) w.heap.size rfl (.tmp 19) (.tmp 21) 23 52 (.agg #[(.int .u64 0), (.int .u64 0)]) 16 rfl Try.underlying23 info52 rfl (by decide) (by omega) u7 x7_1 (⟨(rd_T52 l0 x12_1).f0, (rd_T52 l0 x12_1).f1⟩ : S52) [.int .u64 ((rd_T52 l0 x12_1).f0), .int .u64 ((rd_T52 l0 x12_1).f1)] (fun k_ => k_ ≠ gb118 ∧ k_ ≠ gb120) (fun _ => False) rfl rfl ?aP (fun _ hk => hk.elim) ?aF ?aO ?aB ?aS ?aL ?_; (case aP => exact k52_mkM _ _ _ (⟨(rd_T52 l0 x12_1).f0, (rd_T52 l0 x12_1).f1⟩ : S52)); (case aB => exact (by repeat (first | (with_reducible first | exact HB.out | apply below_alloc | apply pw_below_drewN | apply below_drew1 | refine below_set ?_ GE118.out | refine below_set ?_ GE120.out) | exact HB.out))); (case aF => exact (fun k_ hk => ⟨Kd.freshB (g := gb118) (o := .cells #[.int .u64 a1_0, .int .u64 a1_1] 52 (0, 0)) (by (with_reducible repeat (first | refine blk_drewN ?_ _ | refine blk_drew ?_ | refine blk_alloc ?_ _)); exact BK118.out) k_ hk, Kd.freshB (g := gb120) (o := .cells #[.int .u64 ((rd_T52 l0 x12_1).f0), .int .u64 ((rd_T52 l0 x12_1).f1)] 52 (0, 0)) (by (with_reducible repeat (first | refine blk_drewN ?_ _ | refine blk_drew ?_ | refine blk_alloc ?_ _)); exact BK120.out) k_ hk⟩)); (case aO => exact (by (with_reducible repeat (first | apply Kd.R_alloc | apply Kd.R_drewN | apply Kd.R_drew)); exact HO_7.out)); (case aS => exact (below_size (by repeat (first | (with_reducible first | exact HB.out | apply below_alloc | apply pw_below_drewN | apply below_drew1 | refine below_set ?_ GE118.out | refine below_set ?_ GE120.out) | exact HB.out)))); (case aL => have := LMc11.out; omega); intro v123 w17 ho hb hg hat; rw [← Ny122.out] at ho; have n0_ := Aside0.mk (blk_grown (g := gb118) (o := .cells #[.int .u64 a1_0, .int .u64 a1_1] 52 (0, 0)) (by (with_reducible repeat (first | refine blk_drewN ?_ _ | refine blk_drew ?_ | refine blk_alloc ?_ _)); exact BK118.out) hg (Kd.R_away HO_7.out (fun _ hk => hk.1))); have n1_ := Aside0.mk (blk_grown (g := gb120) (o := .cells #[.int .u64 ((rd_T52 l0 x12_1).f0), .int .u64 ((rd_T52 l0 x12_1).f1)] 52 (0, 0)) (by (with_reducible repeat (first | refine blk_drewN ?_ _ | refine blk_drew ?_ | refine blk_alloc ?_ _)); exact BK120.out) hg (Kd.R_away HO_7.out (fun _ hk => hk.2))); have n2_ := Aside0.mk (hb); have n3_ := Aside0.mk (ho); clear BK118; clear BK120; clear HB; clear HO_7; have BK118 := n0_; have BK120 := n1_; have HB := n2_; have HO124 := n3_; clear n0_ n1_ n2_ n3_; clear ho hb hg hat))
                go_roundg k1
                case measure => have := HK1.out; omega
                case rel => exact ⟨(y122), (wrap64 (x12_1 + 1)), (by first | rfl | (simp; done) | (simp [*]; done)), H', ⟨by have := HK1.out; omega⟩, ⟨by (with_reducible repeat (first | apply Kd.R_alloc | apply Kd.R_drewN | apply Kd.R_drew)); exact Kd.R_mono HO124.out (fun _ hk => hk.1)⟩, ⟨by (with_reducible repeat (first | refine blk_drewN ?_ _ | refine blk_drew ?_ | refine blk_alloc ?_ _)); exact BK118.out⟩, ⟨by repeat (first | (with_reducible first | exact HB.out | apply below_alloc | apply pw_below_drewN | apply below_drew1 | refine below_set ?_ GE118.out | refine below_set ?_ GE120.out) | exact HB.out)⟩⟩
              · rw [if_neg c11] at H
                exact absurd H (by simp)
            · replace c10 := Bool.eq_false_iff.mpr c10
              subst c10
              have H1 : (api_Sample_41.l0 k1 a2 a3 x7_1 l0 (l0.length : Int) (wrap64 (x12_1 + 1)) a1_0 a1_1) = some r := by rw [if_neg (show ¬ (false = true) by decide)] at H; exact H
              clear H
              have H := H1
              clear H1
              have H' := Aside0.mk H
              clear H
              have p119 : 0 ≤ (x12_1 : Int) := of_decide_eq_true (by first | (with_reducible assumption) | assumption)
              have q119 : x12_1 < (l0.length : Int) := of_decide_eq_true (by first | (with_reducible assumption) | assumption)
              obtain ⟨ad119, e119, hx119_0, hx119_1⟩ := at_T52 HR0.out x12_1 p119 q119
              cases e119
              replace hx119_0 := (HB.out.cell (World.block_lt_of_cell? w _ hx119_0)).trans hx119_0
              replace hx119_1 := (HB.out.cell (World.block_lt_of_cell? w _ hx119_1)).trans hx119_1
              replace p119 := eq_true p119
              replace q119 := eq_true q119
              go_wp2_with (first | ((with_reducible refine gate_dst (N := 9) rfl ?_); refine box_event ?hg (N := 9) ?hd (cs := #[.int .u64 0, .int .u64 0]) (t := 52) ?hr ?_; (case hd => rfl); (case hg => rfl); (case hr => first | (go_simp; done) | (go_simp; rfl)); intro gb120 hg w18 hbox hb; have n0_ := Aside0.mk (Kd.R_below (Kd.R_elderB (by (with_reducible repeat (first | apply Kd.R_alloc | apply Kd.R_drewN | apply Kd.R_drew)); exact HO_7.out) gb120 (Nat.le_of_eq hg.symm)) hb); have n1_ := Aside0.mk (blk_below (g := gb118) (o := .cells #[.int .u64 a1_0, .int .u64 a1_1] 52 (0, 0)) (by (with_reducible repeat (first | refine blk_drewN ?_ _ | refine blk_drew ?_ | refine blk_alloc ?_ _)); exact BK118.out) hb); have n2_ := Aside0.mk (below_step (by repeat (first | (with_reducible first | exact HB.out | apply below_alloc | apply pw_below_drewN | apply below_drew1 | refine below_set ?_ GE118.out) | exact HB.out)) hb); have n3_ := Aside0.mk (hbox); have n4_ := Aside0.mk ((by rw [hg]; exact (below_size (by repeat (first | (with_reducible first | exact HB.out | apply below_alloc | apply pw_below_drewN | apply below_drew1 | refine below_set ?_ GE118.out) | exact HB.out))) : w.heap.size ≤ gb120)); have n5_ := Aside0.mk ((by rw [hg]; exact (below_size (by repeat (first | (with_reducible first | exact HB.out | apply below_alloc | apply pw_below_drewN | apply below_drew1 | refine below_set ?_ GE118.out) | exact HB.out))) : w.heap.size ≤ gb120)); have n6_ := Aside0.mk ((by rw [hg]; exact Nat.ne_of_lt (blk_lt (g := gb118) (o := .cells #[.int .u64 a1_0, .int .u64 a1_1] 52 (0, 0)) (by (with_reducible repeat (first | refine blk_drewN ?_ _ | refine blk_drew ?_ | refine blk_alloc ?_ _)); exact BK118.out)) : gb118 ≠ gb120)); have n7_ := Aside0.mk ((by rw [hg]; exact Nat.ne_of_gt (blk_lt (g := gb118) (o := .cells #[.int .u64 a1_0, .int .u64 a1_1] 52 (0, 0)) (by (with_reducible repeat (first | refine blk_drewN ?_ _ | refine blk_drew ?_ | refine blk_alloc ?_ _)); exact BK118.out)) : gb120 ≠ gb118)); clear HO_7; clear BK118; clear HB; have HO_7 := n0_; have BK118 := n1_; have HB := n2_; have BK120 := n3_; have GW120 := n4_; have GE120 := n5_; have NB118_120 := n6_; have NB120_118 := n7_; clear n0_ n1_ n2_ n3_ n4_ n5_ n6_ n7_; clear hb hbox hg; have hnb19 := NB120_118.out; have hnc19 := NB118_120.out; have hcz20_0 : w18.cell? ⟨gb120, 0, none⟩ = some (.int .u64 0) := (blk_cell BK120.out 0).trans rfl; have hcz20_1 : w18.cell? ⟨gb120, 1, none⟩ = some (.int .u64 0) := (blk_cell BK120.out 1).trans rfl; have hfz20_0 := blk_frozen BK120.out 0; have hfz20_1 := blk_frozen BK120.out 1) | ((go_at_call 42); (refine Calls.mono (filt_PushMax_1.calls ((rd_T52 l0 x12_1).f0) ((rd_T52 l0 x12_1).f1) a2 a3 false gw gs _ ?c1 ?c2 ?c3 A9.out) ?_); (case c1 => exact (Below.cell (by repeat (first | (with_reducible first | exact HB.out | apply below_alloc | apply pw_below_drewN | apply below_drew1 | refine below_set ?_ GE118.out | refine below_set ?_ GE120.out) | exact HB.out)) (World.block_lt_of_cell? w _ hgw)).trans hgw); (case c2 => exact (Below.cell (by repeat (first | (with_reducible first | exact HB.out | apply below_alloc | apply pw_below_drewN | apply below_drew1 | refine below_set ?_ GE118.out | refine below_set ?_ GE120.out) | exact HB.out)) (World.block_lt_of_cell? w _ hg0)).trans hg0); (case c3 => exact (Below.cell (by repeat (first | (with_reducible first | exact HB.out | apply below_alloc | apply pw_below_drewN | apply below_drew1 | refine below_set ?_ GE118.out | refine below_set ?_ GE120.out) | exact HB.out)) (World.block_lt_of_cell? w _ hg1)).trans hg1); rintro e w21 ⟨rfl, hb⟩; have n0_ := Aside0.mk (Kd.R_below (by (with_reducible repeat (first | apply Kd.R_alloc | apply Kd.R_drewN | apply Kd.R_drew)); exact (Kd.R_mono (Kd.R_far (p := ⟨gb120, 1, none⟩) (Kd.R_far (p := ⟨gb120, 0, none⟩) (Kd.R_mono HO_7.out (fun k_ hk => (⟨hk, hk.2⟩ : _ ∧ k_ ≠ gb120))) (fun _ hk => hk.2) (.int .u64 ((rd_T52 l0 x12_1).f0))) (fun _ hk => hk.2) (.int .u64 ((rd_T52 l0 x12_1).f1))) (fun _ h_ => h_.1))) hb); have n1_ := Aside0.mk (blk_below (g := gb118) (o := .cells #[.int .u64 a1_0, .int .u64 a1_1] 52 (0, 0)) (by (with_reducible repeat (first | refine blk_drewN ?_ _ | refine blk_drew ?_ | refine blk_alloc ?_ _)); refine blk_far ?_ NB118_120.out _; (with_reducible repeat (first | refine blk_drewN ?_ _ | refine blk_drew ?_ | refine blk_alloc ?_ _)); refine blk_far ?_ NB118_120.out _; (with_reducible repeat (first | refine blk_drewN ?_ _ | refine blk_drew ?_ | refine blk_alloc ?_ _)); exact BK118.out) hb); have n2_ := Aside0.mk (blk_below (g := gb120) (o := .cells #[.int .u64 ((rd_T52 l0 x12_1).f0), .int .u64 ((rd_T52 l0 x12_1).f1)] 52 (0, 0)) (by (with_reducible repeat (first | refine blk_drewN ?_ _ | refine blk_drew ?_ | refine blk_alloc ?_ _)); refine blk_put (cs := #[.int .u64 ((rd_T52 l0 x12_1).f0), .int .u64 0]) ?_ 1 _ rfl; (with_reducible repeat (first | refine blk_drewN ?_ _ | refine blk_drew ?_ | refine blk_alloc ?_ _)); refine blk_put (cs := #[.int .u64 0, .int .u64 0]) ?_ 0 _ rfl; (with_reducible repeat (first | refine blk_drewN ?_ _ | refine blk_drew ?_ | refine blk_alloc ?_ _)); exact BK120.out) hb); have n3_ := Aside0.mk (below_step (by repeat (first | (with_reducible first | exact HB.out | apply below_alloc | apply pw_below_drewN | apply below_drew1 | refine below_set ?_ GE118.out | refine below_set ?_ GE120.out) | exact HB.out)) hb); clear HO_7; clear BK118; clear BK120; clear HB; have HO_7 := n0_; have BK118 := n1_; have BK120 := n2_; have HB := n3_; clear n0_ n1_ n2_ n3_; (try clear hb); (try clear hb2); (try clear hk); (try clear hi)))
              go_roundg k1
              case measure => have := HK1.out; omega
              case rel => exact ⟨(x7_1), (wrap64 (x12_1 + 1)), (by first | rfl | (simp; done) | (simp [*]; done)), H', ⟨by have := HK1.out; omega⟩, ⟨by (with_reducible repeat (first | apply Kd.R_alloc | apply Kd.R_drewN | apply Kd.R_drew)); exact Kd.R_mono HO_7.out (fun _ hk => hk.1)⟩, ⟨by (with_reducible repeat (first | refine blk_drewN ?_ _ | refine blk_drew ?_ | refine blk_alloc ?_ _)); exact BK118.out⟩, ⟨by repeat (first | (with_reducible first | exact HB.out | apply below_alloc | apply pw_below_drewN | apply below_drew1 | refine below_set ?_ GE118.out | refine below_set ?_ GE120.out) | exact HB.out)⟩⟩
          · rw [if_neg c8] at H
            exact absurd H (by simp)
        · rw [if_neg c7] at H
          exact absurd H (by simp)
      · rw [if_neg c6] at H
        have c6b0 : decide (x12_1 < (l0.length : Int)) = false := decide_eq_false c6
        clear c6
        by_cases c22 : x7_1.length < 8796093022208
        · rw [if_pos c22] at H
          have LMc22 := Aside0.mk c22
          clear c22
          obtain ⟨y125, hy125⟩ : ∃ y_ : List (S52), y_ = (x7_1 ++ [(⟨a1_0, a1_1⟩ : S52)]) := ⟨_, rfl⟩
          replace H : (some y125) = some r := by first | (rw [hy125]; with_reducible exact H) | (have H2_ := (Option.bind_some _ _).symm.trans H; rw [hy125]; with_reducible exact H2_) | (have H2_ := (Option.bind_some _ _).symm.trans H; with_reducible exact H2_) | with_reducible exact H | (rw [hy125]; exact H) | exact H
          have Ny125 := Aside0.mk hy125
          clear hy125
          obtain rfl := Option.some.inj H
          have hcz23_0 : wr.cell? ⟨gb118, 0, none⟩ = some (.int .u64 a1_0) := (blk_cell BK118.out 0).trans rfl
          have hcz23_1 : wr.cell? ⟨gb118, 1, none⟩ = some (.int .u64 a1_1) := (blk_cell BK118.out 1).trans rfl
          have hfz23_0 := blk_frozen BK118.out 0
          have hfz23_1 := blk_frozen BK118.out 1
          go_wp2_with (first | ((with_reducible refine gate_builtin (b := .append) (xs := #[.tmp 24, .tmp 26]) rfl ?_); at_builtin; refine Kd.R_append k52 (w0 := w) w.heap.size rfl (.tmp 24) (.tmp 26) 23 52 (.agg #[(.int .u64 0), (.int .u64 0)]) 16 rfl Try.underlying23 info52 rfl (by decide) (by omega) u7 x7_1 (⟨a1_0, a1_1⟩ : S52) [.int .u64 a1_0, .int .u64 a1_1] (fun k_ => k_ ≠ gb118) (fun _ => False) rfl rfl ?aP (fun _ hk => hk.elim) ?aF ?aO ?aB ?aS ?aL ?_; (case aP => exact k52_mkM _ _ _ (⟨a1_0, a1_1⟩ : S52)); (case aB => exact (by repeat (first | (with_reducible first | exact HB.out | apply below_alloc | apply pw_below_drewN | apply below_drew1 | refine below_set ?_ GE118.out) | exact HB.out))); (case aF => exact (fun k_ hk => Kd.freshB (g := gb118) (o := .cells #[.int .u64 a1_0, .int .u64 a1_1] 52 (0, 0)) (by (with_reducible repeat (first | refine blk_drewN ?_ _ | refine blk_drew ?_ | refine blk_alloc ?_ _)); exact BK118.out) k_ hk)); (case aO => exact (by (with_reducible repeat (first | apply Kd.R_alloc | apply Kd.R_drewN | apply Kd.R_drew)); exact HO_7.out)); (case aS => exact (below_size (by repeat (first | (with_reducible first | exact HB.out | apply below_alloc | apply pw_below_drewN | apply below_drew1 | refine below_set ?_ GE118.out) | exact HB.out)))); (case aL => have := LMc22.out; omega); intro v126 w24 ho hb hg hat; rw [← Ny125.out] at ho; have n0_ := Aside0.mk (blk_grown (g := gb118) (o := .cells #[.int .u64 a1_0, .int .u64 a1_1] 52 (0, 0)) (by (with_reducible repeat (first | refine blk_drewN ?_ _ | refine blk_drew ?_ | refine blk_alloc ?_ _)); exact BK118.out) hg (Kd.R_away HO_7.out (fun _ hk => hk))); have n1_ := Aside0.mk (hb); have n2_ := Aside0.mk (ho); clear BK118; clear HB; clear HO_7; have BK118 := n0_; have HB := n1_; have HO127 := n2_; clear n0_ n1_ n2_; clear ho hb hg hat))
          go_ret
          exact ⟨_, by first | rfl | (simp [errW_none, errW_some] <;> rfl) | (simp [*, errW_none, errW_some] <;> rfl), by (with_reducible repeat (first | apply Kd.R_alloc | apply Kd.R_drewN | apply Kd.R_drew)); exact Kd.R_mono HO127.out (fun _ hk => trivial), by repeat (first | (with_reducible first | exact HB.out | apply below_alloc | apply pw_below_drewN | apply below_drew1 | refine below_set ?_ GE118.out) | exact HB.out)⟩
        · rw [if_neg c22] at H
          exact absurd H (by simp)
attribute [local go_sem] max2_int min2_int max_two min_two max_three min_three max_four min_four   -- for this text's walks alone
set_option linter.unusedVariables false
set_option linter.unusedSimpArgs false
def filt_PushMax.f (k : Nat) (l0 : List (S52)) (a1 : Int) (a2_0 : Int) (a2_1 : Int) : Option (List (S52)) := if W64 a2_0 ∧ W64 a2_1 then api_Sample_41.f k l0 a2_0 a2_1 a1 (a2_0 * 18446744073709551616 + a2_1) else none
set_option maxHeartbeats 1000000 in
theorem filt_PushMax.calls (k : Nat) (A0 : Option Addr) (c0 : Nat) (l0 : List (S52)) (a1 : Int) (a2_0 : Int) (a2_1 : Int) (r : List (S52)) (w : World) (hr0 : Kd.C k52 w A0 l0.length l0) (hc0 : l0.length ≤ c0) (h : filt_PushMax.f k l0 a1 a2_0 a2_1 = some r) :
    Calls Try.prog 28 #[.slice A0 l0.length c0, .int .u64 a1, .agg #[.int .u64 a2_0, .int .u64 a2_1]] w fun e w' => ∃ v0_ : Value, e = .returned (v0_) ∧ Kd.R k52 52 w' w.heap.size (fun _ => True) v0_ r ∧ Below w.heap.size w w' := by
  have hu52 := Try.underlying52
  have hmf : ∀ (fn : Fn) (first cap : Array Value) (w : World), (Instr.makeFunc fn first cap).run Try.prog w = .ok (.func fn first cap) w := fun _ _ _ _ => rfl
  unfold filt_PushMax.f at h
  split at h
  · rename_i hw
    obtain ⟨⟨h0, h1⟩, h2, h3⟩ := hw
    have e0 : (a2_0 * 18446744073709551616 + a2_1) / 18446744073709551616 = a2_0 := by omega
    have e1 : (a2_0 * 18446744073709551616 + a2_1) % 18446744073709551616 = a2_1 := by omega
    generalize a2_0 * 18446744073709551616 + a2_1 = E at *
    go_enter Try.func28, Try.ntmps28
    have k2 : ((w.alloc (.cells #[.int .u64 a1] 24)).alloc (.cells #[.int .u64 a2_0, .int .u64 a2_1] 52)).cell? ⟨w.heap.size, 0, none⟩ = some (.int .u64 a1) := by go_simp
    have k0 : ((w.alloc (.cells #[.int .u64 a1] 24)).alloc (.cells #[.int .u64 a2_0, .int .u64 a2_1] 52)).cell? ⟨w.heap.size + 1, 0, none⟩ = some (.int .u64 a2_0) := by go_simp
    have k1 : ((w.alloc (.cells #[.int .u64 a1] 24)).alloc (.cells #[.int .u64 a2_0, .int .u64 a2_1] 52)).cell? ⟨w.heap.size + 1, 1, none⟩ = some (.int .u64 a2_1) := by go_simp
    have kb : Below w.heap.size w ((w.alloc (.cells #[.int .u64 a1] 24)).alloc (.cells #[.int .u64 a2_0, .int .u64 a2_1] 52)) := below_alloc (below_alloc (Below.refl _ _) _) _
    go_wp2_with ((go_at_call 41); (refine Calls.mono (api_Sample_41.calls k A0 c0 l0 a2_0 a2_1 a1 E r w.heap.size (w.heap.size + 1) _ k2 (by rw [e0]; exact k0) (by rw [e1]; exact k1) (Kd.C_below hr0 kb) hc0 h) ?_); rintro e w6 ⟨v, rfl, hr, hb6⟩)
    go_ret
    exact ⟨_, rfl, Kd.R_lower hr (below_size kb), below_step kb hb6⟩
  · cases h
def probe_Ack_1.f (_ _ _ : Int) : Option Int := some 0
set_option maxRecDepth 100000 in
set_option maxHeartbeats 1000000 in
theorem probe_Ack_1.C (s p n : Int) (gg gp : Nat) (w : World) {cp : Array Value} (k0 : w.cell? ⟨gg, 0, none⟩ = some (.int .u64 n)) (hp : w.heap[gp]? = some (.cells cp 26 (0, 0))) (hz : 8 < cp.size) (hne : gg ≠ gp) :
    Calls Try.prog 29 #[.int .i64 s, .int .u64 p, .pointer (some ⟨gg, 0, none⟩), .pointer (some ⟨gp, 0, none⟩)] w fun e w' => e = .returned (.tuple #[]) ∧ ∃ nd, w' = (((w.drewN nd).setCell ⟨gp, 0, none⟩ (.int .i64 s)).setCell ⟨gp, 7, none⟩ (.int .u64 p)).setCell ⟨gp, 8, none⟩ (.int .u64 n) := by
  obtain ⟨x0, e0⟩ : ∃ x, cp[0]? = some x := ⟨_, Array.getElem?_eq_getElem (by omega)⟩
  obtain ⟨x7, e7⟩ : ∃ x, cp[7]? = some x := ⟨_, Array.getElem?_eq_getElem (by omega)⟩
  obtain ⟨x8, e8⟩ : ∃ x, cp[8]? = some x := ⟨_, Array.getElem?_eq_getElem (by omega)⟩
  go_enter Try.func29, Try.ntmps29
  refine start_ (n := 10) (S := fun w' => w'.cell? ⟨gg, 0, none⟩ = some (.int .u64 n)) (ds := []) #[false, false, false, false, false, false, false, false, false, false] (by kernel_rfl) rfl rfl k0 (fun hHeld => ?_)
  refine pure_ (i := 0) (N := some 6) (v := ?_) (a' := ?_) #[true, false, false, false, false, false, false, false, false, false] rfl rfl (by kernel_rfl) (fun _ _ _ h => h) (Or.inl ⟨by rfl, ?_⟩) ?_ ?_
  rotate_left
  · intro w'
    go_simp
    with_reducible rfl
  rotate_left
  · simp only [Act.put, List.setIfInBounds_toArray, List.set_cons_zero, List.set_cons_succ, i64_w, i32_w]
    rfl
  refine pure_ (i := 1) (N := some 7) (v := ?_) (a' := ?_) #[true, true, false, false, false, false, false, false, false, false] rfl rfl (by kernel_rfl) (fun _ _ _ h => h) (Or.inl ⟨by rfl, ?_⟩) ?_ ?_
  rotate_left
  · intro w'
    go_simp
    with_reducible rfl
  rotate_left
  · simp only [Act.put, List.setIfInBounds_toArray, List.set_cons_zero, List.set_cons_succ, i64_w, i32_w]
    rfl
  refine pure_ (i := 2) (N := some 8) (v := ?_) (a' := ?_) #[true, true, true, false, false, false, false, false, false, false] rfl rfl (by kernel_rfl) (fun _ _ _ h => h) (Or.inl ⟨by rfl, ?_⟩) ?_ ?_
  rotate_left
  · intro w'
    go_simp
    with_reducible rfl
  rotate_left
  · simp only [Act.put, List.setIfInBounds_toArray, List.set_cons_zero, List.set_cons_succ, i64_w, i32_w]
    rfl
  refine take_ (i := 3) (N := some 9) (v := ?_) (a' := ?_) #[true, true, true, true, false, false, false, false, false, false] rfl rfl (by kernel_rfl) (fun _ _ _ h => h) (Or.inl ⟨by rfl, ?_⟩) hHeld ?_ ?_
  rotate_left
  · intro w' s0
    go_simp
    with_reducible rfl
  rotate_left
  · simp only [Act.put, List.setIfInBounds_toArray, List.set_cons_zero, List.set_cons_succ, i64_w, i32_w]
    rfl
  refine pure_ (i := 4) (N := some 10) (v := ?_) (a' := ?_) #[true, true, true, true, true, false, false, false, false, false] rfl rfl (by kernel_rfl) (fun _ _ _ h => h) (Or.inl ⟨by rfl, ?_⟩) ?_ ?_
  rotate_left
  · intro w'
    go_simp
    with_reducible rfl
  rotate_left
  · simp only [Act.put, List.setIfInBounds_toArray, List.set_cons_zero, List.set_cons_succ, i64_w, i32_w]
    rfl
  refine one_ (i := 5) (N := none) #[true, true, true, true, true, true, false, false, false, false] rfl rfl (by kernel_rfl) (by decide) (fun K hK => ?_)
  have hs0 : w.cell? ⟨gp, 0, none⟩ = some x0 := (blk_cell hp 0).trans e0
  have hf0 := blk_frozen hp 0
  refine skip_ (w1 := ?_) (by rfl) rfl ?_ ?_
  rotate_left
  · go_simp
    rfl
  refine hK.out _ _ ((cell_far (p := ⟨gp, _, none⟩) hne _).trans hHeld) (fun hHeld => ?_)
  clear hK K
  refine pure_ (i := 6) (N := some 11) (v := ?_) (a' := ?_) #[true, true, true, true, true, true, true, false, false, false] rfl rfl (by kernel_rfl) (fun _ _ _ h => h) (Or.inl ⟨by rfl, ?_⟩) ?_ ?_
  rotate_left
  · intro w'
    go_simp
    with_reducible rfl
  rotate_left
  · simp only [Act.put, List.setIfInBounds_toArray, List.set_cons_zero, List.set_cons_succ, i64_w, i32_w]
    rfl
  refine one_ (i := 7) (N := none) #[true, true, true, true, true, true, true, true, false, false] rfl rfl (by kernel_rfl) (by decide) (fun K hK => ?_)
  have hs7 : w.cell? ⟨gp, 7, none⟩ = some x7 := (blk_cell hp 7).trans e7
  have hf7 := blk_frozen hp 7
  refine skip_ (w1 := ?_) (by rfl) rfl ?_ ?_
  rotate_left
  · go_simp
    rfl
  refine hK.out _ _ ((cell_far (p := ⟨gp, _, none⟩) hne _).trans hHeld) (fun hHeld => ?_)
  clear hK K
  refine pure_ (i := 8) (N := some 12) (v := ?_) (a' := ?_) #[true, true, true, true, true, true, true, true, true, false] rfl rfl (by kernel_rfl) (fun _ _ _ h => h) (Or.inl ⟨by rfl, ?_⟩) ?_ ?_
  rotate_left
  · intro w'
    go_simp
    with_reducible rfl
  rotate_left
  · simp only [Act.put, List.setIfInBounds_toArray, List.set_cons_zero, List.set_cons_succ, i64_w, i32_w]
    rfl
  refine one_ (i := 9) (N := none) #[true, true, true, true, true, true, true, true, true, true] rfl rfl (by kernel_rfl) (by decide) (fun K hK => ?_)
  have hs8 : w.cell? ⟨gp, 8, none⟩ = some x8 := (blk_cell hp 8).trans e8
  have hf8 := blk_frozen hp 8
  refine skip_ (w1 := ?_) (by rfl) rfl ?_ ?_
  rotate_left
  · go_simp
    rfl
  refine hK.out _ _ ((cell_far (p := ⟨gp, _, none⟩) hne _).trans hHeld) (fun hHeld => ?_)
  clear hK K
  refine done_ (by kernel_rfl) ?_
  try go_wp2
  first | (go_end0; exact ⟨rfl, 1, rfl⟩) | exact ⟨rfl, rfl, 1, rfl⟩ | exact ⟨_, rfl, rfl, 1, rfl⟩
attribute [local go_sem] max2_int min2_int max_two min_two max_three min_three max_four min_four   -- for this text's walks alone
set_option linter.unusedVariables false
set_option linter.unusedSimpArgs false
def wigwagref01_Add.f (a0 : Int) (a1 : Int) : Option (Int) := if a0 > (IntKind.u64.wrap (18446744073709551615 - a1)) then (some 18446744073709551615) else (some (IntKind.u64.wrap (a0 + a1)))
set_option maxHeartbeats 8000000 in
set_option maxRecDepth 100000 in
theorem wigwagref01_Add.calls (a0 : Int) (a1 : Int) (r : Int) (w : World) (h : wigwagref01_Add.f a0 a1 = some r) :
    Calls Try.prog 30 #[.int .u64 a0, .int .u64 a1] w fun e w' => e = .returned (.int .u64 r) ∧ Drawn0 w w' := by
  have H : (if a0 > (IntKind.u64.wrap (18446744073709551615 - a1)) then (some 18446744073709551615) else (some (IntKind.u64.wrap (a0 + a1)))) = some r := h
  clear h
  by_cases c3 : a0 > (IntKind.u64.wrap (18446744073709551615 - a1))
  · rw [if_pos c3] at H
    have c3b0 : decide ((IntKind.u64.wrap (18446744073709551615 - a1)) < a0) = true := decide_eq_true c3
    clear c3
    obtain rfl := Option.some.inj H
    go_enter Try.func30, Try.ntmps30
    go_wp2
    go_ret
    exact ⟨by first | rfl | (simp; done) | (simp [*]; done), by repeat (first | exact Drawn0.refl _ | apply Drawn0.step)⟩
  · rw [if_neg c3] at H
    have c3b0 : decide ((IntKind.u64.wrap (18446744073709551615 - a1)) < a0) = false := decide_eq_false c3
    clear c3
    obtain rfl := Option.some.inj H
    go_enter Try.func30, Try.ntmps30
    go_wp2
    go_ret
    exact ⟨by first | rfl | (simp; done) | (simp [*]; done), by repeat (first | exact Drawn0.refl _ | apply Drawn0.step)⟩
def wigwagref01_AddT.f (a0 : Int) (a1 : Int) : Option Int := if W64 a0 ∧ W64 a1 then some (uAdd a0 a1) else none
theorem wigwagref01_AddT.calls (a0 : Int) (a1 : Int) (r : Int) (w : World) (h : wigwagref01_AddT.f a0 a1 = some r) :
    Calls Try.prog 30 #[.int .u64 a0, .int .u64 a1] w fun e w' => e = .returned (.int .u64 r) ∧ Drawn0 w w' := by
  refine wigwagref01_Add.calls a0 a1 r w (Eq.trans ?_ h)
  unfold wigwagref01_AddT.f at h ⊢
  split at h
  · rename_i hw
    rw [if_pos hw]
    unfold wigwagref01_Add.f uAdd
    rw [ww, ww]
    split <;> split <;> first | rfl | (exfalso; omega) | (congr 1; omega)
  · cases h
theorem wigwagref01_AddT.C (a b : Int) (ha : W64 a) (hb : W64 b) (w : World) : Calls Try.prog 30 #[.int .u64 a, .int .u64 b] w fun e w' => e = .returned (.int .u64 (uAdd a b)) ∧ Drawn0 w w' :=
  wigwagref01_AddT.calls a b _ w (by unfold wigwagref01_AddT.f; rw [if_pos ⟨ha, hb⟩])
theorem wigwagref01_AddT.Q (a b : Int) (ha : W64 a) (hb : W64 b) (w : World) (n : Nat) : Calls Try.prog 30 #[.int .u64 a, .int .u64 b] (w.drewN n) fun e w' => e = .returned (.int .u64 (uAdd a b)) ∧ ∃ m, w' = w.drewN m := quiet_c (wigwagref01_AddT.C a b ha hb) n
def wigwagref10_Held.f (a0 : Int) : Option (Int) := if a0 < 2400 then (some 2400) else (if a0 > 16777216 then (some 16777216) else (some a0))
set_option maxHeartbeats 8000000 in
set_option maxRecDepth 100000 in
theorem wigwagref10_Held.calls (a0 : Int) (r : Int) (w : World) (h : wigwagref10_Held.f a0 = some r) :
    Calls Try.prog 31 #[.int .u64 a0] w fun e w' => e = .returned (.int .u64 r) ∧ Drawn0 w w' := by
  have H : (if a0 < 2400 then (some 2400) else (if a0 > 16777216 then (some 16777216) else (some a0))) = some r := h
  clear h
  by_cases c2 : a0 < 2400
  · rw [if_pos c2] at H
    have c2b0 : decide (a0 < 2400) = true := decide_eq_true c2
    clear c2
    obtain rfl := Option.some.inj H
    go_enter Try.func31, Try.ntmps31
    go_wp2
    go_ret
    exact ⟨by first | rfl | (simp; done) | (simp [*]; done), by repeat (first | exact Drawn0.refl _ | apply Drawn0.step)⟩
  · rw [if_neg c2] at H
    have c2b0 : decide (a0 < 2400) = false := decide_eq_false c2
    clear c2
    by_cases c3 : a0 > 16777216
    · rw [if_pos c3] at H
      have c3b0 : decide (16777216 < a0) = true := decide_eq_true c3
      clear c3
      obtain rfl := Option.some.inj H
      go_enter Try.func31, Try.ntmps31
      go_wp2
      go_ret
      exact ⟨by first | rfl | (simp; done) | (simp [*]; done), by repeat (first | exact Drawn0.refl _ | apply Drawn0.step)⟩
    · rw [if_neg c3] at H
      have c3b0 : decide (16777216 < a0) = false := decide_eq_false c3
      clear c3
      obtain rfl := Option.some.inj H
      go_enter Try.func31, Try.ntmps31
      go_wp2
      go_ret
      exact ⟨by first | rfl | (simp; done) | (simp [*]; done), by repeat (first | exact Drawn0.refl _ | apply Drawn0.step)⟩
def wigwagref10_HeldT.f (a0 : Int) : Option Int := some (uHeld a0)
theorem wigwagref10_HeldT.calls (a0 : Int) (r : Int) (w : World) (h : wigwagref10_HeldT.f a0 = some r) :
    Calls Try.prog 31 #[.int .u64 a0] w fun e w' => e = .returned (.int .u64 r) ∧ Drawn0 w w' := by
  refine wigwagref10_Held.calls a0 r w (Eq.trans ?_ h)
  unfold wigwagref10_Held.f wigwagref10_HeldT.f uHeld
  split <;> (try split) <;> first | rfl | (exfalso; omega)
theorem wigwagref10_HeldT.C (a : Int) (w : World) : Calls Try.prog 31 #[.int .u64 a] w fun e w' => e = .returned (.int .u64 (uHeld a)) ∧ Drawn0 w w' :=
  wigwagref10_HeldT.calls a _ w (rfl)
theorem wigwagref10_HeldT.Q (a : Int) (w : World) (n : Nat) : Calls Try.prog 31 #[.int .u64 a] (w.drewN n) fun e w' => e = .returned (.int .u64 (uHeld a)) ∧ ∃ m, w' = w.drewN m := quiet_c (wigwagref10_HeldT.C a ) n
def wigwagref02_Best.f (l0 : List (S52)) : Option (Int) := if (l0.length : Int) = 0 then (some 0) else (if 0 < (l0.length : Int) then (some ((rd_T52 l0 0).f1)) else (none))
set_option maxHeartbeats 8000000 in
set_option maxRecDepth 100000 in
theorem wigwagref02_Best.calls (A0 : Option Addr) (c0 : Nat) (l0 : List (S52)) (r : Int) (w : World) (hr0 : Kd.C k52 w A0 l0.length l0) (hc0 : l0.length ≤ c0) (h : wigwagref02_Best.f l0 = some r) :
    Calls Try.prog 43 #[.slice A0 l0.length c0] w fun e w' => e = .returned (.int .u64 r) ∧ Drawn0 w w' := by
  have HR0 := Aside0.mk hr0
  have HC0 := Aside0.mk hc0
  clear hr0 hc0
  have H : (if (l0.length : Int) = 0 then (some 0) else (if 0 < (l0.length : Int) then (some ((rd_T52 l0 0).f1)) else (none))) = some r := h
  clear h
  by_cases c2 : (l0.length : Int) = 0
  · rw [if_pos c2] at H
    have c2b0 : ((l0.length : Int) == 0) = true := beq_iff_eq.mpr c2
    have c2b1 : ((l0.length : Int) != 0) = false := bne_eq_false_iff_eq.mpr c2
    clear c2
    obtain rfl := Option.some.inj H
    go_enter Try.func43, Try.ntmps43
    go_wp2
    go_ret
    exact ⟨by first | rfl | (simp; done) | (simp [*]; done), by repeat (first | exact Drawn0.refl _ | apply Drawn0.step)⟩
  · rw [if_neg c2] at H
    have c2b0 : ((l0.length : Int) == 0) = false := beq_eq_false_iff_ne.mpr c2
    have c2b1 : ((l0.length : Int) != 0) = true := bne_iff_ne.mpr c2
    have c2b2 : ¬ (l0 = []) := fun h_ => c2 (by rw [h_]; rfl)
    by_cases c3 : 0 < (l0.length : Int)
    · rw [if_pos c3] at H
      have c3b0 : decide (0 < (l0.length : Int)) = true := decide_eq_true c3
      have c3b1 : decide (0 < l0.length) = true := decide_eq_true (by omega)
      clear c3
      obtain rfl := Option.some.inj H
      have p214 : 0 ≤ (0 : Int) := (by omega)
      have q214 : 0 < (l0.length : Int) := of_decide_eq_true (by first | (with_reducible assumption) | assumption)
      obtain ⟨ad214, e214, hx214_0, hx214_1⟩ := at_T52 HR0.out 0 p214 q214
      cases e214
      have qi214 : (0 < l0.length) = True := eq_true (by omega)
      (try rw [show ((0 : Int)).toNat = 0 from rfl] at hx214_0)
      (try rw [show 0 * 2 = 0 from rfl] at hx214_0)
      (try rw [Addr.add_zero'] at hx214_0)
      (try rw [show ((0 : Int)).toNat = 0 from rfl] at hx214_1)
      (try rw [show 0 * 2 = 0 from rfl] at hx214_1)
      (try rw [Addr.add_zero'] at hx214_1)
      replace p214 := eq_true p214
      replace q214 := eq_true q214
      go_enter Try.func43, Try.ntmps43
      go_wp2
      go_ret
      exact ⟨by first | rfl | (simp; done) | (simp [*]; done), by repeat (first | exact Drawn0.refl _ | apply Drawn0.step)⟩
    · rw [if_neg c3] at H
      exact absurd H (by simp)
attribute [local go_sem] max2_int min2_int max_two min_two max_three min_three max_four min_four   -- for this text's walks alone
set_option linter.unusedVariables false
set_option linter.unusedSimpArgs false
def wigwagref13_best.f (a0_0 : Int) (l0_1 : List (S52)) (a0_2 : Int) (a0_3 : Int) (a0_4 : Int) (a0_5 : Int) (a0_6 : Int) (a0_7 : Int) (a0_8 : Int) (a0_9 : Int) : Option (Int) := (wigwagref02_Best.f l0_1).bind fun t216 => (some t216)
set_option maxHeartbeats 8000000 in
set_option maxRecDepth 100000 in
theorem wigwagref13_best.calls (a0_0 : Int) (A0_1 : Option Addr) (c0_1 : Nat) (l0_1 : List (S52)) (a0_2 : Int) (a0_3 : Int) (a0_4 : Int) (a0_5 : Int) (a0_6 : Int) (a0_7 : Int) (a0_8 : Int) (a0_9 : Int) (r : Int) (w : World) (hr0_1 : Kd.C k52 w A0_1 l0_1.length l0_1) (hc0_1 : l0_1.length ≤ c0_1) (h : wigwagref13_best.f a0_0 l0_1 a0_2 a0_3 a0_4 a0_5 a0_6 a0_7 a0_8 a0_9 = some r) :
    Calls Try.prog 32 #[.agg #[.int .i64 a0_0, .slice A0_1 l0_1.length c0_1, .int .u64 a0_2, .int .u64 a0_3, .int .u64 a0_4, .int .u64 a0_5, .int .u64 a0_6, .int .u64 a0_7, .int .u64 a0_8, .int .u64 a0_9]] w fun e w' => e = .returned (.int .u64 r) ∧ Below w.heap.size w w' := by
  have hu26 := Try.underlying26
  have HR0_1 := Aside0.mk hr0_1
  have HC0_1 := Aside0.mk hc0_1
  clear hr0_1 hc0_1
  have HB := Aside0.mk (Below.refl w.heap.size w)
  have H : ((wigwagref02_Best.f l0_1).bind fun t216 => (some t216)) = some r := h
  clear h
  replace H := Option.bind_eq_some_iff.mp H
  obtain ⟨t216, A20, H⟩ := H
  replace H : (some t216) = some r := H
  have A2 := Aside0.mk A20
  clear A20
  obtain rfl := Option.some.inj H
  go_enter Try.func32, Try.ntmps32
  go_wp2_with (first | ((with_reducible refine gate_dst (N := 1) rfl ?_); refine box_event ?hg (N := 1) ?hd (cs := #[.int .i64 a0_0, .slice A0_1 l0_1.length c0_1, .int .u64 a0_2, .int .u64 a0_3, .int .u64 a0_4, .int .u64 a0_5, .int .u64 a0_6, .int .u64 a0_7, .int .u64 a0_8, .int .u64 a0_9]) (t := 26) ?hr ?_; (case hd => rfl); (case hg => rfl); (case hr => first | (go_simp; done) | (go_simp; rfl)); intro gb215 hg w3 hbox hb; have n0_ := Aside0.mk (below_step (by repeat (first | (with_reducible first | exact HB.out | apply below_alloc | apply pw_below_drewN | apply below_drew1) | exact HB.out)) hb); have n1_ := Aside0.mk (hbox); have n2_ := Aside0.mk ((by rw [hg]; exact (below_size (by repeat (first | (with_reducible first | exact HB.out | apply below_alloc | apply pw_below_drewN | apply below_drew1) | exact HB.out))) : w.heap.size ≤ gb215)); have n3_ := Aside0.mk ((by rw [hg]; exact (below_size (by repeat (first | (with_reducible first | exact HB.out | apply below_alloc | apply pw_below_drewN | apply below_drew1) | exact HB.out))) : w.heap.size ≤ gb215)); clear HB; have HB := n0_; have BK215 := n1_; have GW215 := n2_; have GE215 := n3_; clear n0_ n1_ n2_ n3_; clear hb hbox hg; have hcz4_0 : w3.cell? ⟨gb215, 0, none⟩ = some (.int .i64 a0_0) := (blk_cell BK215.out 0).trans rfl; have hcz4_1 : w3.cell? ⟨gb215, 1, none⟩ = some (.slice A0_1 l0_1.length c0_1) := (blk_cell BK215.out 1).trans rfl; have hcz4_2 : w3.cell? ⟨gb215, 2, none⟩ = some (.int .u64 a0_2) := (blk_cell BK215.out 2).trans rfl; have hcz4_3 : w3.cell? ⟨gb215, 3, none⟩ = some (.int .u64 a0_3) := (blk_cell BK215.out 3).trans rfl; have hcz4_4 : w3.cell? ⟨gb215, 4, none⟩ = some (.int .u64 a0_4) := (blk_cell BK215.out 4).trans rfl; have hcz4_5 : w3.cell? ⟨gb215, 5, none⟩ = some (.int .u64 a0_5) := (blk_cell BK215.out 5).trans rfl; have hcz4_6 : w3.cell? ⟨gb215, 6, none⟩ = some (.int .u64 a0_6) := (blk_cell BK215.out 6).trans rfl; have hcz4_7 : w3.cell? ⟨gb215, 7, none⟩ = some (.int .u64 a0_7) := (blk_cell BK215.out 7).trans rfl; have hcz4_8 : w3.cell? ⟨gb215, 8, none⟩ = some (.int .u64 a0_8) := (blk_cell BK215.out 8).trans rfl; have hcz4_9 : w3.cell? ⟨gb215, 9, none⟩ = some (.int .u64 a0_9) := (blk_cell BK215.out 9).trans rfl; have hfz4_0 := blk_frozen BK215.out 0; have hfz4_1 := blk_frozen BK215.out 1; have hfz4_2 := blk_frozen BK215.out 2; have hfz4_3 := blk_frozen BK215.out 3; have hfz4_4 := blk_frozen BK215.out 4; have hfz4_5 := blk_frozen BK215.out 5; have hfz4_6 := blk_frozen BK215.out 6; have hfz4_7 := blk_frozen BK215.out 7; have hfz4_8 := blk_frozen BK215.out 8; have hfz4_9 := blk_frozen BK215.out 9) | ((with_reducible refine gate_callee (f := 43) rfl ?_); refine goesL_ (some 5) rfl rfl Try.func43 (by kernel_rfl) rfl #[.slice A0_1 l0_1.length c0_1] rfl (by (try simp only [List.map_toArray, List.map_cons, List.map_nil]); first | done | rfl | (simp only [List.length_drop, List.length_take]; rfl)) ?_; (with_reducible refine (wigwagref02_Best.calls _ _ l0_1 t216 _ ?side1 ?side2 A2.out).mono ?_); (case side1 => repeat (first | exact (Kd.C_below HR0_1.out HB.out) | (with_reducible refine Kd.C_alloc ?_ _) | (with_reducible refine Kd.C_drewN ?_ _) | (with_reducible refine Kd.C_drew ?_))); (case side2 => exact HC0_1.out); rintro e w' ⟨rfl, ⟨nd, rfl⟩⟩; refine ⟨_, rfl, ?_⟩))
  go_ret
  exact ⟨by first | rfl | (simp [errW_none, errW_some] <;> rfl) | (simp [*, errW_none, errW_some] <;> rfl), by repeat (first | (with_reducible first | exact HB.out | apply below_alloc | apply pw_below_drewN | apply below_drew1 | refine below_set ?_ GE215.out) | exact HB.out)⟩
attribute [local go_sem] max2_int min2_int max_two min_two max_three min_three max_four min_four   -- for this text's walks alone
set_option linter.unusedVariables false
set_option linter.unusedSimpArgs false
theorem eqA52 (d : Nat) (w : World) (x0 y0 : Int) (x1 y1 : Int) :
    (Op.equalIn (d + 2) 52 (.agg #[.int .u64 x0, .int .u64 x1]) (.agg #[.int .u64 y0, .int .u64 y1])).run Try.prog w = .ok (x0 == y0 && (x1 == y1)) w := by
  refine eqA_of Try.underlying52 (by kernel_rfl) ?_
  refine eqf_cons (by rfl) (by go_simp; rfl) (by go_simp; rfl) (by go_simp) ?_
  exact eqf_last (by rfl) (by go_simp; rfl) (by go_simp; rfl) (by go_simp)
end Go.Proofs.Ytoanhimhomgjmaa.PPrN
end
