/- Several texts of this claim in one. -/
import Derived.Test.YtpgffmnbdggpnaaKA
import Derived.Deep.DeepMust
section
namespace Go.Proofs.Ytpgffmnbdggpnaa.PCv
open Go.RowKit Go.Proofs.YtpgffmnbdggpnaaW.PrintWords Go.Proofs.YtpgffmnbdggpnaaW.PrintLast Go.Proofs.YtpgffmnbdggpnaaW.PrintMore
set_option linter.unusedVariables false
set_option linter.unusedSimpArgs false
def bits_Mul64.f (a0 : Int) (a1 : Int) : Option (Int × Int) := if W64 a0 ∧ W64 a1 then some (a0 * a1 / 18446744073709551616, a0 * a1 % 18446744073709551616) else none
theorem bits_Mul64.calls (a0 : Int) (a1 : Int) (r1 : Int) (r2 : Int) (w : World) (h : bits_Mul64.f a0 a1 = some (r1, r2)) :
    Calls Try.prog 47 #[.int .u64 a0, .int .u64 a1] w fun e w' => e = .returned (.tuple #[.int .u64 r1, .int .u64 r2]) ∧ Drawn0 w w' := by
  unfold bits_Mul64.f at h
  split at h
  · rename_i hw
    obtain ⟨⟨h0, h1⟩, h2, h3⟩ := hw
    obtain ⟨x, rfl⟩ := Int.eq_ofNat_of_zero_le h0
    obtain ⟨y, rfl⟩ := Int.eq_ofNat_of_zero_le h2
    simp only [Option.some.injEq, Prod.mk.injEq] at h
    obtain ⟨rfl, rfl⟩ := h
    refine (Go.Proofs.Try.bits_Mul64 x y (by omega) (by omega) w).mono ?_
    rintro e w' ⟨rfl, rfl⟩
    exact ⟨rfl, Drawn0.refl _⟩
  · cases h
def bits_LeadingZeros64.f (a0 : Int) : Option Int := if W64 a0 then some (64 - (Lib.bitLen a0.toNat : Int)) else none
theorem bits_LeadingZeros64.calls (a0 : Int) (r : Int) (w : World) (h : bits_LeadingZeros64.f a0 = some r) :
    Calls Try.prog 62 #[.int .u64 a0] w fun e w' => e = .returned (.int .i64 r) ∧ Drawn0 w w' := by
  unfold bits_LeadingZeros64.f at h
  split at h
  · rename_i hw
    obtain rfl := Option.some.inj h
    refine (Go.Proofs.Try.bits_LeadingZeros64 a0 w hw.1 hw.2).mono ?_
    rintro e w' ⟨rfl, rfl⟩
    exact ⟨rfl, Drawn0.refl _⟩
  · cases h
mutual
def bits_Div64.j2 : Nat → Int → Int → Int → Int → Int → Int → Int → Int → Option (Int × Int)
  | 0, _, _, _, _, _, _, _, _ => none
  | k + 1, x2, x8, x9, x10, x11, x13, x14, x15 => if x9 = 0 then (none) else (bits_Div64.l1 k x2 x8 x9 x10 x14 x15 (IntKind.u64.wrap ((IntKind.u64.wrap ((IntKind.u64.wrap ((IntKind.u64.wrap (x11 * 4294967296)) + x13)) - (IntKind.u64.wrap (x15 * x2)))) - (IntKind.u64.wrap ((IntKind.u64.wrap (Int.tdiv (IntKind.u64.wrap ((IntKind.u64.wrap ((IntKind.u64.wrap (x11 * 4294967296)) + x13)) - (IntKind.u64.wrap (x15 * x2)))) x9)) * x9)))) (IntKind.u64.wrap ((IntKind.u64.wrap ((IntKind.u64.wrap (x11 * 4294967296)) + x13)) - (IntKind.u64.wrap (x15 * x2)))) (IntKind.u64.wrap (Int.tdiv (IntKind.u64.wrap ((IntKind.u64.wrap ((IntKind.u64.wrap (x11 * 4294967296)) + x13)) - (IntKind.u64.wrap (x15 * x2)))) x9)))
def bits_Div64.l1 : Nat → Int → Int → Int → Int → Int → Int → Int → Int → Int → Option (Int × Int)
  | 0, _, _, _, _, _, _, _, _, _ => none
  | k + 1, x2, x8, x9, x10, x14, x15, x16, x17, x18 => if x18 ≥ 4294967296 then (bits_Div64.j4 k x2 x8 x9 x10 x14 x15 x16 x17 x18 true) else (bits_Div64.j4 k x2 x8 x9 x10 x14 x15 x16 x17 x18 (decide ((IntKind.u64.wrap (x18 * x10)) > (IntKind.u64.wrap ((IntKind.u64.wrap (4294967296 * x16)) + x14)))))
def bits_Div64.j4 : Nat → Int → Int → Int → Int → Int → Int → Int → Int → Int → Bool → Option (Int × Int)
  | 0, _, _, _, _, _, _, _, _, _, _ => none
  | k + 1, x2, x8, x9, x10, x14, x15, x16, x17, x18, x113 => if x113 = true then (if (IntKind.u64.wrap (x16 + x9)) ≥ 4294967296 then (if 0 ≤ x8 then (some (IntKind.u64.wrap ((IntKind.u64.wrap (x15 * 4294967296)) + (IntKind.u64.wrap (x18 - 1))), shr .u64 (IntKind.u64.wrap ((IntKind.u64.wrap ((IntKind.u64.wrap (x17 * 4294967296)) + x14)) - (IntKind.u64.wrap ((IntKind.u64.wrap (x18 - 1)) * x2)))) x8)) else (none)) else (bits_Div64.l1 k x2 x8 x9 x10 x14 x15 (IntKind.u64.wrap (x16 + x9)) x17 (IntKind.u64.wrap (x18 - 1)))) else (if 0 ≤ x8 then (some (IntKind.u64.wrap ((IntKind.u64.wrap (x15 * 4294967296)) + x18), shr .u64 (IntKind.u64.wrap ((IntKind.u64.wrap ((IntKind.u64.wrap (x17 * 4294967296)) + x14)) - (IntKind.u64.wrap (x18 * x2)))) x8)) else (none))
def bits_Div64.l0 : Nat → Int → Int → Int → Int → Int → Int → Int → Int → Int → Option (Int × Int)
  | 0, _, _, _, _, _, _, _, _, _ => none
  | k + 1, x2, x8, x9, x10, x11, x13, x14, x15, x16 => if x15 ≥ 4294967296 then (bits_Div64.j1 k x2 x8 x9 x10 x11 x13 x14 x15 x16 true) else (bits_Div64.j1 k x2 x8 x9 x10 x11 x13 x14 x15 x16 (decide ((IntKind.u64.wrap (x15 * x10)) > (IntKind.u64.wrap ((IntKind.u64.wrap (4294967296 * x16)) + x13)))))
def bits_Div64.j1 : Nat → Int → Int → Int → Int → Int → Int → Int → Int → Int → Bool → Option (Int × Int)
  | 0, _, _, _, _, _, _, _, _, _, _ => none
  | k + 1, x2, x8, x9, x10, x11, x13, x14, x15, x16, x78 => if x78 = true then (if (IntKind.u64.wrap (x16 + x9)) ≥ 4294967296 then (bits_Div64.j2 k x2 x8 x9 x10 x11 x13 x14 (IntKind.u64.wrap (x15 - 1))) else (bits_Div64.l0 k x2 x8 x9 x10 x11 x13 x14 (IntKind.u64.wrap (x15 - 1)) (IntKind.u64.wrap (x16 + x9)))) else (bits_Div64.j2 k x2 x8 x9 x10 x11 x13 x14 x15)
end
def bits_Div64.f (k : Nat) (a0 : Int) (a1 : Int) (a2 : Int) : Option (Int × Int) := if a2 = 0 then (none) else (if a2 ≤ a0 then (none) else (if a0 = 0 then (some (IntKind.u64.wrap (Int.tdiv a1 a2), Int.tmod a1 a2)) else ((bits_LeadingZeros64.f a2).bind fun t101 => (if 0 ≤ (IntKind.u64.wrap (t101)) then (if 0 ≤ (IntKind.u64.wrap (64 - (IntKind.u64.wrap (t101)))) then (if ((shl .u64 a2 (IntKind.u64.wrap (t101))) / 4294967296) = 0 then (none) else (bits_Div64.l0 k (shl .u64 a2 (IntKind.u64.wrap (t101))) (IntKind.u64.wrap (t101)) ((shl .u64 a2 (IntKind.u64.wrap (t101))) / 4294967296) (Go.bits .and .u64 (shl .u64 a2 (IntKind.u64.wrap (t101))) 4294967295) (Go.bits .or .u64 (shl .u64 a0 (IntKind.u64.wrap (t101))) (shr .u64 a1 (IntKind.u64.wrap (64 - (IntKind.u64.wrap (t101)))))) ((shl .u64 a1 (IntKind.u64.wrap (t101))) / 4294967296) (Go.bits .and .u64 (shl .u64 a1 (IntKind.u64.wrap (t101))) 4294967295) (IntKind.u64.wrap (Int.tdiv (Go.bits .or .u64 (shl .u64 a0 (IntKind.u64.wrap (t101))) (shr .u64 a1 (IntKind.u64.wrap (64 - (IntKind.u64.wrap (t101)))))) ((shl .u64 a2 (IntKind.u64.wrap (t101))) / 4294967296))) (IntKind.u64.wrap ((Go.bits .or .u64 (shl .u64 a0 (IntKind.u64.wrap (t101))) (shr .u64 a1 (IntKind.u64.wrap (64 - (IntKind.u64.wrap (t101)))))) - (IntKind.u64.wrap ((IntKind.u64.wrap (Int.tdiv (Go.bits .or .u64 (shl .u64 a0 (IntKind.u64.wrap (t101))) (shr .u64 a1 (IntKind.u64.wrap (64 - (IntKind.u64.wrap (t101)))))) ((shl .u64 a2 (IntKind.u64.wrap (t101))) / 4294967296))) * ((shl .u64 a2 (IntKind.u64.wrap (t101))) / 4294967296))))))) else (none)) else (none)))))
set_option maxHeartbeats 8000000 in
set_option maxRecDepth 100000 in
theorem bits_Div64.calls (k : Nat) (a0 : Int) (a1 : Int) (a2 : Int) (r1 : Int) (r2 : Int) (w : World) (h : bits_Div64.f k a0 a1 a2 = some (r1, r2)) :
    Calls Try.prog 48 #[.int .u64 a0, .int .u64 a1, .int .u64 a2] w fun e w' => e = .returned (.tuple #[.int .u64 r1, .int .u64 r2]) ∧ Drawn0 w w' := by
  have H : (if a2 = 0 then (none) else (if a2 ≤ a0 then (none) else (if a0 = 0 then (some (IntKind.u64.wrap (Int.tdiv a1 a2), Int.tmod a1 a2)) else ((bits_LeadingZeros64.f a2).bind fun t101 => (if 0 ≤ (IntKind.u64.wrap (t101)) then (if 0 ≤ (IntKind.u64.wrap (64 - (IntKind.u64.wrap (t101)))) then (if ((shl .u64 a2 (IntKind.u64.wrap (t101))) / 4294967296) = 0 then (none) else (bits_Div64.l0 k (shl .u64 a2 (IntKind.u64.wrap (t101))) (IntKind.u64.wrap (t101)) ((shl .u64 a2 (IntKind.u64.wrap (t101))) / 4294967296) (Go.bits .and .u64 (shl .u64 a2 (IntKind.u64.wrap (t101))) 4294967295) (Go.bits .or .u64 (shl .u64 a0 (IntKind.u64.wrap (t101))) (shr .u64 a1 (IntKind.u64.wrap (64 - (IntKind.u64.wrap (t101)))))) ((shl .u64 a1 (IntKind.u64.wrap (t101))) / 4294967296) (Go.bits .and .u64 (shl .u64 a1 (IntKind.u64.wrap (t101))) 4294967295) (IntKind.u64.wrap (Int.tdiv (Go.bits .or .u64 (shl .u64 a0 (IntKind.u64.wrap (t101))) (shr .u64 a1 (IntKind.u64.wrap (64 - (IntKind.u64.wrap (t101)))))) ((shl .u64 a2 (IntKind.u64.wrap (t101))) / 4294967296))) (IntKind.u64.wrap ((Go.bits .or .u64 (shl .u64 a0 (IntKind.u64.wrap (t101))) (shr .u64 a1 (IntKind.u64.wrap (64 - (IntKind.u64.wrap (t101)))))) - (IntKind.u64.wrap ((IntKind.u64.wrap (Int.tdiv (Go.bits .or .u64 (shl .u64 a0 (IntKind.u64.wrap (t101))) (shr .u64 a1 (IntKind.u64.wrap (64 - (IntKind.u64.wrap (t101)))))) ((shl .u64 a2 (IntKind.u64.wrap (t101))) / 4294967296))) * ((shl .u64 a2 (IntKind.u64.wrap (t101))) / 4294967296))))))) else (none)) else (none)))))) = some (r1, r2) := h
  clear h
  by_cases c4 : a2 = 0
  · rw [if_pos c4] at H
    exact absurd H (by simp)
  · rw [if_neg c4] at H
    have c4b0 : (a2 == 0) = false := beq_eq_false_iff_ne.mpr c4
    have c4b1 : (a2 != 0) = true := bne_iff_ne.mpr c4
    by_cases c5 : a2 ≤ a0
    · rw [if_pos c5] at H
      exact absurd H (by simp)
    · rw [if_neg c5] at H
      have c5b0 : decide (a2 ≤ a0) = false := decide_eq_false c5
      clear c5
      by_cases c6 : a0 = 0
      · rw [if_pos c6] at H
        have c6b0 : (a0 == 0) = true := beq_iff_eq.mpr c6
        have c6b1 : (a0 != 0) = false := bne_eq_false_iff_eq.mpr c6
        clear c6
        simp only [Option.some.injEq, Prod.mk.injEq] at H
        obtain ⟨rfl, rfl⟩ := H
        go_enter Try.func48, Try.ntmps48
        go_wp2
        repeat (go_quiet (fail); try go_wp2)
        go_ret2
        exact ⟨by first | rfl | (simp; done) | (simp [*]; done), by repeat (first | exact Drawn0.refl _ | apply Drawn0.step)⟩
      · rw [if_neg c6] at H
        have c6b0 : (a0 == 0) = false := beq_eq_false_iff_ne.mpr c6
        have c6b1 : (a0 != 0) = true := bne_iff_ne.mpr c6
        replace H := Option.bind_eq_some_iff.mp H
        obtain ⟨t101, A70, H⟩ := H
        replace H : (if 0 ≤ (IntKind.u64.wrap (t101)) then (if 0 ≤ (IntKind.u64.wrap (64 - (IntKind.u64.wrap (t101)))) then (if ((shl .u64 a2 (IntKind.u64.wrap (t101))) / 4294967296) = 0 then (none) else (bits_Div64.l0 k (shl .u64 a2 (IntKind.u64.wrap (t101))) (IntKind.u64.wrap (t101)) ((shl .u64 a2 (IntKind.u64.wrap (t101))) / 4294967296) (Go.bits .and .u64 (shl .u64 a2 (IntKind.u64.wrap (t101))) 4294967295) (Go.bits .or .u64 (shl .u64 a0 (IntKind.u64.wrap (t101))) (shr .u64 a1 (IntKind.u64.wrap (64 - (IntKind.u64.wrap (t101)))))) ((shl .u64 a1 (IntKind.u64.wrap (t101))) / 4294967296) (Go.bits .and .u64 (shl .u64 a1 (IntKind.u64.wrap (t101))) 4294967295) (IntKind.u64.wrap (Int.tdiv (Go.bits .or .u64 (shl .u64 a0 (IntKind.u64.wrap (t101))) (shr .u64 a1 (IntKind.u64.wrap (64 - (IntKind.u64.wrap (t101)))))) ((shl .u64 a2 (IntKind.u64.wrap (t101))) / 4294967296))) (IntKind.u64.wrap ((Go.bits .or .u64 (shl .u64 a0 (IntKind.u64.wrap (t101))) (shr .u64 a1 (IntKind.u64.wrap (64 - (IntKind.u64.wrap (t101)))))) - (IntKind.u64.wrap ((IntKind.u64.wrap (Int.tdiv (Go.bits .or .u64 (shl .u64 a0 (IntKind.u64.wrap (t101))) (shr .u64 a1 (IntKind.u64.wrap (64 - (IntKind.u64.wrap (t101)))))) ((shl .u64 a2 (IntKind.u64.wrap (t101))) / 4294967296))) * ((shl .u64 a2 (IntKind.u64.wrap (t101))) / 4294967296))))))) else (none)) else (none)) = some (r1, r2) := H
        have A7 := Aside0.mk A70
        clear A70
        obtain ⟨ji8, hji8⟩ : ∃ j_ : Int, (IntKind.u64.wrap (t101)) = j_ := ⟨_, rfl⟩
        replace H : (if 0 ≤ (ji8) then (if 0 ≤ (IntKind.u64.wrap (64 - (ji8))) then (if ((shl .u64 a2 (ji8)) / 4294967296) = 0 then (none) else (bits_Div64.l0 k (shl .u64 a2 (ji8)) ji8 ((shl .u64 a2 (ji8)) / 4294967296) (Go.bits .and .u64 (shl .u64 a2 (ji8)) 4294967295) (Go.bits .or .u64 (shl .u64 a0 (ji8)) (shr .u64 a1 (IntKind.u64.wrap (64 - (ji8))))) ((shl .u64 a1 (ji8)) / 4294967296) (Go.bits .and .u64 (shl .u64 a1 (ji8)) 4294967295) (IntKind.u64.wrap (Int.tdiv (Go.bits .or .u64 (shl .u64 a0 (ji8)) (shr .u64 a1 (IntKind.u64.wrap (64 - (ji8))))) ((shl .u64 a2 (ji8)) / 4294967296))) (IntKind.u64.wrap ((Go.bits .or .u64 (shl .u64 a0 (ji8)) (shr .u64 a1 (IntKind.u64.wrap (64 - (ji8))))) - (IntKind.u64.wrap ((IntKind.u64.wrap (Int.tdiv (Go.bits .or .u64 (shl .u64 a0 (ji8)) (shr .u64 a1 (IntKind.u64.wrap (64 - (ji8))))) ((shl .u64 a2 (ji8)) / 4294967296))) * ((shl .u64 a2 (ji8)) / 4294967296))))))) else (none)) else (none)) = some (r1, r2) := by first | (rw [hji8] at H; exact H) | (simp only [hji8] at H ⊢; exact H)
        (try rw [hji8] at A7)
        by_cases c9 : 0 ≤ (ji8)
        · rw [if_pos c9] at H
          have c9b0 := eq_true c9
          have c9b1 : decide (0 ≤ (ji8)) = true := decide_eq_true c9
          clear c9
          obtain ⟨ji10, hji10⟩ : ∃ j_ : Int, (shl .u64 a2 (ji8)) = j_ := ⟨_, rfl⟩
          replace H : (if 0 ≤ (IntKind.u64.wrap (64 - (ji8))) then (if ((ji10) / 4294967296) = 0 then (none) else (bits_Div64.l0 k ji10 ji8 ((ji10) / 4294967296) (Go.bits .and .u64 (ji10) 4294967295) (Go.bits .or .u64 (shl .u64 a0 (ji8)) (shr .u64 a1 (IntKind.u64.wrap (64 - (ji8))))) ((shl .u64 a1 (ji8)) / 4294967296) (Go.bits .and .u64 (shl .u64 a1 (ji8)) 4294967295) (IntKind.u64.wrap (Int.tdiv (Go.bits .or .u64 (shl .u64 a0 (ji8)) (shr .u64 a1 (IntKind.u64.wrap (64 - (ji8))))) ((ji10) / 4294967296))) (IntKind.u64.wrap ((Go.bits .or .u64 (shl .u64 a0 (ji8)) (shr .u64 a1 (IntKind.u64.wrap (64 - (ji8))))) - (IntKind.u64.wrap ((IntKind.u64.wrap (Int.tdiv (Go.bits .or .u64 (shl .u64 a0 (ji8)) (shr .u64 a1 (IntKind.u64.wrap (64 - (ji8))))) ((ji10) / 4294967296))) * ((ji10) / 4294967296))))))) else (none)) = some (r1, r2) := by first | (rw [hji10] at H; exact H) | (simp only [hji10] at H ⊢; exact H)
          (try rw [hji10] at A7)
          have hji10_ : (IntKind.u64.wrap (a2 * 2 ^ min (ji8).toNat 64)) = ji10 := hji10
          have hji10z : (ji8) ≤ 64 → (IntKind.u64.wrap (a2 * 2 ^ (ji8).toNat)) = ji10 := shl_small hji10
          have c11b0 := eq_true (of_decide_eq_true (by first | (with_reducible assumption) | assumption) : 0 ≤ (ji8))
          obtain ⟨ji12, hji12⟩ : ∃ j_ : Int, (shl .u64 a0 (ji8)) = j_ := ⟨_, rfl⟩
          replace H : (if 0 ≤ (IntKind.u64.wrap (64 - (ji8))) then (if ((ji10) / 4294967296) = 0 then (none) else (bits_Div64.l0 k ji10 ji8 ((ji10) / 4294967296) (Go.bits .and .u64 (ji10) 4294967295) (Go.bits .or .u64 (ji12) (shr .u64 a1 (IntKind.u64.wrap (64 - (ji8))))) ((shl .u64 a1 (ji8)) / 4294967296) (Go.bits .and .u64 (shl .u64 a1 (ji8)) 4294967295) (IntKind.u64.wrap (Int.tdiv (Go.bits .or .u64 (ji12) (shr .u64 a1 (IntKind.u64.wrap (64 - (ji8))))) ((ji10) / 4294967296))) (IntKind.u64.wrap ((Go.bits .or .u64 (ji12) (shr .u64 a1 (IntKind.u64.wrap (64 - (ji8))))) - (IntKind.u64.wrap ((IntKind.u64.wrap (Int.tdiv (Go.bits .or .u64 (ji12) (shr .u64 a1 (IntKind.u64.wrap (64 - (ji8))))) ((ji10) / 4294967296))) * ((ji10) / 4294967296))))))) else (none)) = some (r1, r2) := by first | (rw [hji12] at H; exact H) | (simp only [hji12] at H ⊢; exact H)
          (try rw [hji12] at A7)
          have hji12_ : (IntKind.u64.wrap (a0 * 2 ^ min (ji8).toNat 64)) = ji12 := hji12
          have hji12z : (ji8) ≤ 64 → (IntKind.u64.wrap (a0 * 2 ^ (ji8).toNat)) = ji12 := shl_small hji12
          obtain ⟨ji13, hji13⟩ : ∃ j_ : Int, (IntKind.u64.wrap (64 - (ji8))) = j_ := ⟨_, rfl⟩
          replace H : (if 0 ≤ (ji13) then (if ((ji10) / 4294967296) = 0 then (none) else (bits_Div64.l0 k ji10 ji8 ((ji10) / 4294967296) (Go.bits .and .u64 (ji10) 4294967295) (Go.bits .or .u64 (ji12) (shr .u64 a1 (ji13))) ((shl .u64 a1 (ji8)) / 4294967296) (Go.bits .and .u64 (shl .u64 a1 (ji8)) 4294967295) (IntKind.u64.wrap (Int.tdiv (Go.bits .or .u64 (ji12) (shr .u64 a1 (ji13))) ((ji10) / 4294967296))) (IntKind.u64.wrap ((Go.bits .or .u64 (ji12) (shr .u64 a1 (ji13))) - (IntKind.u64.wrap ((IntKind.u64.wrap (Int.tdiv (Go.bits .or .u64 (ji12) (shr .u64 a1 (ji13))) ((ji10) / 4294967296))) * ((ji10) / 4294967296))))))) else (none)) = some (r1, r2) := by first | (rw [hji13] at H; exact H) | (simp only [hji13] at H ⊢; exact H)
          (try rw [hji13] at A7)
          by_cases c14 : 0 ≤ (ji13)
          · rw [if_pos c14] at H
            have c14b0 := eq_true c14
            have c14b1 : decide (0 ≤ (ji13)) = true := decide_eq_true c14
            clear c14
            obtain ⟨ji15, hji15⟩ : ∃ j_ : Int, (shr .u64 a1 (ji13)) = j_ := ⟨_, rfl⟩
            replace H : (if ((ji10) / 4294967296) = 0 then (none) else (bits_Div64.l0 k ji10 ji8 ((ji10) / 4294967296) (Go.bits .and .u64 (ji10) 4294967295) (Go.bits .or .u64 (ji12) (ji15)) ((shl .u64 a1 (ji8)) / 4294967296) (Go.bits .and .u64 (shl .u64 a1 (ji8)) 4294967295) (IntKind.u64.wrap (Int.tdiv (Go.bits .or .u64 (ji12) (ji15)) ((ji10) / 4294967296))) (IntKind.u64.wrap ((Go.bits .or .u64 (ji12) (ji15)) - (IntKind.u64.wrap ((IntKind.u64.wrap (Int.tdiv (Go.bits .or .u64 (ji12) (ji15)) ((ji10) / 4294967296))) * ((ji10) / 4294967296))))))) = some (r1, r2) := by first | (rw [hji15] at H; exact H) | (simp only [hji15] at H ⊢; exact H)
            (try rw [hji15] at A7)
            have hji15_ : (a1 / 2 ^ min (ji13).toNat 64) = ji15 := hji15
            have hji15z : (ji13) ≤ 64 → (a1 / 2 ^ (ji13).toNat) = ji15 := shr_small hji15
            have c16b0 := eq_true (of_decide_eq_true (by first | (with_reducible assumption) | assumption) : 0 ≤ (ji8))
            obtain ⟨ji17, hji17⟩ : ∃ j_ : Int, (shl .u64 a1 (ji8)) = j_ := ⟨_, rfl⟩
            replace H : (if ((ji10) / 4294967296) = 0 then (none) else (bits_Div64.l0 k ji10 ji8 ((ji10) / 4294967296) (Go.bits .and .u64 (ji10) 4294967295) (Go.bits .or .u64 (ji12) (ji15)) ((ji17) / 4294967296) (Go.bits .and .u64 (ji17) 4294967295) (IntKind.u64.wrap (Int.tdiv (Go.bits .or .u64 (ji12) (ji15)) ((ji10) / 4294967296))) (IntKind.u64.wrap ((Go.bits .or .u64 (ji12) (ji15)) - (IntKind.u64.wrap ((IntKind.u64.wrap (Int.tdiv (Go.bits .or .u64 (ji12) (ji15)) ((ji10) / 4294967296))) * ((ji10) / 4294967296))))))) = some (r1, r2) := by first | (rw [hji17] at H; exact H) | (simp only [hji17] at H ⊢; exact H)
            (try rw [hji17] at A7)
            have hji17_ : (IntKind.u64.wrap (a1 * 2 ^ min (ji8).toNat 64)) = ji17 := hji17
            have hji17z : (ji8) ≤ 64 → (IntKind.u64.wrap (a1 * 2 ^ (ji8).toNat)) = ji17 := shl_small hji17
            by_cases c18 : ((ji10) / 4294967296) = 0
            · rw [if_pos c18] at H
              exact absurd H (by simp)
            · rw [if_neg c18] at H
              have c18b0 : (((ji10) / 4294967296) == 0) = false := beq_eq_false_iff_ne.mpr c18
              have c18b1 : (((ji10) / 4294967296) != 0) = true := bne_iff_ne.mpr c18
              have HC19 := Aside0.mk H
              clear H
              go_enter Try.func48, Try.ntmps48
              go_upto_block 0 with (first | (go_at_call 62; (with_reducible refine (bits_LeadingZeros64.calls a2 t101 _ A7.out).mono ?_); rintro e w' ⟨rfl, ⟨nd, rfl⟩⟩; (try first | exact ⟨rfl, _, World.drewN_drewN _ _ _⟩ | exact ⟨rfl, _, Eq.trans (World.drewN_drewN ..) (congrArg (World.drewN _) (Nat.add_assoc ..))⟩)))
              repeat (go_quiet (first | (go_at_call 62; (with_reducible refine (bits_LeadingZeros64.calls a2 t101 _ A7.out).mono ?_); rintro e w' ⟨rfl, ⟨nd, rfl⟩⟩; (try first | exact ⟨rfl, _, World.drewN_drewN _ _ _⟩ | exact ⟨rfl, _, Eq.trans (World.drewN_drewN ..) (congrArg (World.drewN _) (Nat.add_assoc ..))⟩))); go_upto_block 0 with (first | (go_at_call 62; (with_reducible refine (bits_LeadingZeros64.calls a2 t101 _ A7.out).mono ?_); rintro e w' ⟨rfl, ⟨nd, rfl⟩⟩; (try first | exact ⟨rfl, _, World.drewN_drewN _ _ _⟩ | exact ⟨rfl, _, Eq.trans (World.drewN_drewN ..) (congrArg (World.drewN _) (Nat.add_assoc ..))⟩))))
              (try simp only [Act.put, List.setIfInBounds_toArray, List.set_cons_zero, List.set_cons_succ])
              go_cut [15] (fun v15 wc => ∃ (kq : Nat) (x15_18 : Int), v15 = .int .u64 x15_18 ∧ Aside0 (bits_Div64.j2 kq ji10 ji8 ((ji10) / 4294967296) (Go.bits .and .u64 (ji10) 4294967295) (Go.bits .or .u64 (ji12) (ji15)) ((ji17) / 4294967296) (Go.bits .and .u64 (ji17) 4294967295) x15_18 = some (r1, r2)) ∧ Aside0 (kq ≤ k) ∧ Drawn0 w wc)
              case first =>
                have H := HC19.out
                clear HC19
                have H' := Aside0.mk H
                clear H
                go_wp2
                repeat (go_quiet (fail); try go_wp2)
                go_loopg [15, 16] k (fun kq v15 v16 w' => ∃ (x15_1 : Int) (x16_1 : Int), v15 = .int .u64 x15_1 ∧ v16 = .int .u64 x16_1 ∧ Aside0 (bits_Div64.l0 kq ji10 ji8 ((ji10) / 4294967296) (Go.bits .and .u64 (ji10) 4294967295) (Go.bits .or .u64 (ji12) (ji15)) ((ji17) / 4294967296) (Go.bits .and .u64 (ji17) 4294967295) x15_1 x16_1 = some (r1, r2)) ∧ Aside0 (kq ≤ k) ∧ Drawn0 w w')
                case atStart => exact ⟨(IntKind.u64.wrap (Int.tdiv (Go.bits .or .u64 (ji12) (ji15)) ((ji10) / 4294967296))), (IntKind.u64.wrap ((Go.bits .or .u64 (ji12) (ji15)) - (IntKind.u64.wrap ((IntKind.u64.wrap (Int.tdiv (Go.bits .or .u64 (ji12) (ji15)) ((ji10) / 4294967296))) * ((ji10) / 4294967296))))), (by first | rfl | (simp; done) | (simp only [← hji10, ← hji12, ← hji15] <;> (first | rfl | simp)) | (simp [*]; done)), (by first | rfl | (simp; done) | (simp only [← hji10, ← hji12, ← hji15] <;> (first | rfl | simp)) | (simp [*]; done)), H', ⟨Nat.le_refl _⟩, by repeat (first | exact Drawn0.refl _ | apply Drawn0.step)⟩
                case round =>
                  clear H'
                  try clear c1
                  try clear p2
                  try clear c4
                  try clear c4b0
                  try clear c4b1
                  try clear c5
                  try clear c5b0
                  try clear c6
                  try clear c6b0
                  try clear c6b1
                  try clear c9
                  try clear c9b0
                  try clear c9b1
                  try clear c11
                  try clear c11b0
                  try clear c14
                  try clear c14b0
                  try clear c14b1
                  try clear c16
                  try clear c16b0
                  try clear c18
                  try clear c18b0
                  try clear c18b1
                  obtain ⟨x15_1, x16_1, rfl, rfl, HA, HK1, ⟨m1, rfl⟩⟩ := hrel
                  cases gk with
                  | zero => exact absurd HA.out (by simp [bits_Div64.l0])
                  | succ k1 =>
                    have H := HA.out
                    clear HA
                    simp only [bits_Div64.l0] at H
                    have HC20 := Aside0.mk H
                    clear H
                    go_upto_region 17 with (fail)
                    repeat (go_quiet (fail); go_upto_region 17 with (fail))
                    go_cut [78] (fun v78 wc => ∃ (kq : Nat) (x78_19 : Bool), v78 = .bool x78_19 ∧ Aside0 (bits_Div64.j1 kq ji10 ji8 ((ji10) / 4294967296) (Go.bits .and .u64 (ji10) 4294967295) (Go.bits .or .u64 (ji12) (ji15)) ((ji17) / 4294967296) (Go.bits .and .u64 (ji17) 4294967295) x15_1 x16_1 x78_19 = some (r1, r2)) ∧ Aside0 (kq ≤ k1) ∧ Drawn0 w wc)
                    case first =>
                      have H := HC20.out
                      clear HC20
                      by_cases c21 : x15_1 ≥ 4294967296
                      · rw [if_pos c21] at H
                        have c21b0 : decide (4294967296 ≤ x15_1) = true := decide_eq_true c21
                        clear c21
                        (first | rw [c21b0] | (simp only [i64_w, i32_w]; rw [c21b0]) | skip)
                        have H' := Aside0.mk H
                        clear H
                        go_wp2
                        repeat (go_quiet (fail); try go_wp2)
                        go_meet
                        case rel => exact ⟨_, (true), (by first | rfl | (simp; done) | (simp [*]; done)), H', ⟨by have := HK1.out; first | omega | exact Nat.le_refl _⟩, by repeat (first | exact Drawn0.refl _ | apply Drawn0.step)⟩
                      · rw [if_neg c21] at H
                        have c21b0 : decide (4294967296 ≤ x15_1) = false := decide_eq_false c21
                        clear c21
                        (first | rw [c21b0] | (simp only [i64_w, i32_w]; rw [c21b0]) | skip)
                        have H' := Aside0.mk H
                        clear H
                        go_wp2
                        repeat (go_quiet (fail); try go_wp2)
                        go_meet
                        case rel => exact ⟨_, (decide ((IntKind.u64.wrap (x15_1 * (Go.bits .and .u64 (ji10) 4294967295))) > (IntKind.u64.wrap ((IntKind.u64.wrap (4294967296 * x16_1)) + ((ji17) / 4294967296))))), (by first | rfl | (simp; done) | (simp only [← hji10, ← hji17] <;> (first | rfl | simp)) | (simp [*]; done)), H', ⟨by have := HK1.out; first | omega | exact Nat.le_refl _⟩, by repeat (first | exact Drawn0.refl _ | apply Drawn0.step)⟩
                    case rest =>
                      clear HC20
                      try clear c1
                      try clear c2
                      try clear p2
                      try clear c4
                      try clear c4b0
                      try clear c4b1
                      try clear c5
                      try clear c5b0
                      try clear c6
                      try clear c6b0
                      try clear c6b1
                      try clear c9
                      try clear c9b0
                      try clear c9b1
                      try clear c11
                      try clear c11b0
                      try clear c14
                      try clear c14b0
                      try clear c14b1
                      try clear c16
                      try clear c16b0
                      try clear c18
                      try clear c18b0
                      try clear c18b1
                      try clear c21
                      try clear c21b0
                      try clear p2
                      obtain ⟨kq, x78_19, rfl, HA, HJ19, ⟨mc19, rfl⟩⟩ := hcut
                      cases kq with
                      | zero => exact absurd HA.out (by simp [bits_Div64.j1])
                      | succ kj19 =>
                        have H := HA.out
                        clear HA
                        simp only [bits_Div64.j1] at H
                        by_cases c22 : x78_19 = true
                        · subst c22
                          have H1 : (if (IntKind.u64.wrap (x16_1 + ((ji10) / 4294967296))) ≥ 4294967296 then (bits_Div64.j2 kj19 ji10 ji8 ((ji10) / 4294967296) (Go.bits .and .u64 (ji10) 4294967295) (Go.bits .or .u64 (ji12) (ji15)) ((ji17) / 4294967296) (Go.bits .and .u64 (ji17) 4294967295) (IntKind.u64.wrap (x15_1 - 1))) else (bits_Div64.l0 kj19 ji10 ji8 ((ji10) / 4294967296) (Go.bits .and .u64 (ji10) 4294967295) (Go.bits .or .u64 (ji12) (ji15)) ((ji17) / 4294967296) (Go.bits .and .u64 (ji17) 4294967295) (IntKind.u64.wrap (x15_1 - 1)) (IntKind.u64.wrap (x16_1 + ((ji10) / 4294967296))))) = some (r1, r2) := by rw [if_pos rfl] at H; exact H
                          clear H
                          have H := H1
                          clear H1
                          by_cases c23 : (IntKind.u64.wrap (x16_1 + ((ji10) / 4294967296))) ≥ 4294967296
                          · rw [if_pos c23] at H
                            have c23b0 : decide (4294967296 ≤ (IntKind.u64.wrap (x16_1 + ((ji10) / 4294967296)))) = true := decide_eq_true c23
                            clear c23
                            have H' := Aside0.mk H
                            clear H
                            go_wp2
                            repeat (go_quiet (fail); try go_wp2)
                            go_meet
                            case rel => exact ⟨_, (IntKind.u64.wrap (x15_1 - 1)), (by first | rfl | (simp; done) | (simp [*]; done)), H', ⟨by have := HK1.out; have := HJ19.out; first | omega | exact Nat.le_refl _⟩, by repeat (first | exact Drawn0.refl _ | apply Drawn0.step)⟩
                          · rw [if_neg c23] at H
                            have c23b0 : decide (4294967296 ≤ (IntKind.u64.wrap (x16_1 + ((ji10) / 4294967296)))) = false := decide_eq_false c23
                            clear c23
                            have H' := Aside0.mk H
                            clear H
                            go_wp2
                            repeat (go_quiet (fail); try go_wp2)
                            go_roundg kj19
                            case measure => have := HK1.out; have := HJ19.out; omega
                            case rel => exact ⟨(IntKind.u64.wrap (x15_1 - 1)), (IntKind.u64.wrap (x16_1 + ((ji10) / 4294967296))), (by first | rfl | (simp; done) | (simp [*]; done)), (by first | rfl | (simp; done) | (simp only [← hji10] <;> (first | rfl | simp)) | (simp [*]; done)), H', ⟨by have := HK1.out; have := HJ19.out; omega⟩, by repeat (first | exact Drawn0.refl _ | apply Drawn0.step)⟩
                        · replace c22 := Bool.eq_false_iff.mpr c22
                          subst c22
                          have H1 : (bits_Div64.j2 kj19 ji10 ji8 ((ji10) / 4294967296) (Go.bits .and .u64 (ji10) 4294967295) (Go.bits .or .u64 (ji12) (ji15)) ((ji17) / 4294967296) (Go.bits .and .u64 (ji17) 4294967295) x15_1) = some (r1, r2) := by rw [if_neg (show ¬ (false = true) by decide)] at H; exact H
                          clear H
                          have H := H1
                          clear H1
                          have H' := Aside0.mk H
                          clear H
                          go_wp2
                          repeat (go_quiet (fail); try go_wp2)
                          go_meet
                          case rel => exact ⟨_, (x15_1), (by first | rfl | (simp; done) | (simp [*]; done)), H', ⟨by have := HK1.out; have := HJ19.out; first | omega | exact Nat.le_refl _⟩, by repeat (first | exact Drawn0.refl _ | apply Drawn0.step)⟩
              case rest =>
                clear HC19
                try clear c1
                try clear c2
                try clear p2
                try clear c4
                try clear c4b0
                try clear c4b1
                try clear c5
                try clear c5b0
                try clear c6
                try clear c6b0
                try clear c6b1
                try clear c9
                try clear c9b0
                try clear c9b1
                try clear c11
                try clear c11b0
                try clear c14
                try clear c14b0
                try clear c14b1
                try clear c16
                try clear c16b0
                try clear c18
                try clear c18b0
                try clear c18b1
                try clear c19
                try clear c21
                try clear c21b0
                try clear c22
                try clear c23
                try clear c23b0
                try clear p2
                obtain ⟨kq, x15_18, rfl, HA, HJ18, ⟨mc18, rfl⟩⟩ := hcut
                cases kq with
                | zero => exact absurd HA.out (by simp [bits_Div64.j2])
                | succ kj18 =>
                  have H := HA.out
                  clear HA
                  simp only [bits_Div64.j2] at H
                  by_cases c24 : ((ji10) / 4294967296) = 0
                  · rw [if_pos c24] at H
                    exact absurd H (by simp)
                  · rw [if_neg c24] at H
                    have c24b0 : (((ji10) / 4294967296) == 0) = false := beq_eq_false_iff_ne.mpr c24
                    have c24b1 : (((ji10) / 4294967296) != 0) = true := bne_iff_ne.mpr c24
                    have H' := Aside0.mk H
                    clear H
                    go_wp2
                    repeat (go_quiet (fail); try go_wp2)
                    go_loopg [16, 18] kj18 (fun kq v16 v18 w' => ∃ (x16_2 : Int) (x18_2 : Int), v16 = .int .u64 x16_2 ∧ v18 = .int .u64 x18_2 ∧ Aside0 (bits_Div64.l1 kq ji10 ji8 ((ji10) / 4294967296) (Go.bits .and .u64 (ji10) 4294967295) (Go.bits .and .u64 (ji17) 4294967295) x15_18 x16_2 (IntKind.u64.wrap ((IntKind.u64.wrap ((IntKind.u64.wrap ((Go.bits .or .u64 (ji12) (ji15)) * 4294967296)) + ((ji17) / 4294967296))) - (IntKind.u64.wrap (x15_18 * ji10)))) x18_2 = some (r1, r2)) ∧ Aside0 (kq ≤ kj18) ∧ Drawn0 w w')
                    case atStart => exact ⟨(IntKind.u64.wrap ((IntKind.u64.wrap ((IntKind.u64.wrap ((IntKind.u64.wrap ((Go.bits .or .u64 (ji12) (ji15)) * 4294967296)) + ((ji17) / 4294967296))) - (IntKind.u64.wrap (x15_18 * ji10)))) - (IntKind.u64.wrap ((IntKind.u64.wrap (Int.tdiv (IntKind.u64.wrap ((IntKind.u64.wrap ((IntKind.u64.wrap ((Go.bits .or .u64 (ji12) (ji15)) * 4294967296)) + ((ji17) / 4294967296))) - (IntKind.u64.wrap (x15_18 * ji10)))) ((ji10) / 4294967296))) * ((ji10) / 4294967296))))), (IntKind.u64.wrap (Int.tdiv (IntKind.u64.wrap ((IntKind.u64.wrap ((IntKind.u64.wrap ((Go.bits .or .u64 (ji12) (ji15)) * 4294967296)) + ((ji17) / 4294967296))) - (IntKind.u64.wrap (x15_18 * ji10)))) ((ji10) / 4294967296))), (by first | rfl | (simp; done) | (simp only [← hji10, ← hji12, ← hji15, ← hji17] <;> (first | rfl | simp)) | (simp [*]; done)), (by first | rfl | (simp; done) | (simp only [← hji10, ← hji12, ← hji15, ← hji17] <;> (first | rfl | simp)) | (simp [*]; done)), H', ⟨Nat.le_refl _⟩, by repeat (first | exact Drawn0.refl _ | apply Drawn0.step)⟩
                    case round =>
                      clear H'
                      try clear c1
                      try clear c2
                      try clear p2
                      try clear c4
                      try clear c4b0
                      try clear c4b1
                      try clear c5
                      try clear c5b0
                      try clear c6
                      try clear c6b0
                      try clear c6b1
                      try clear c9
                      try clear c9b0
                      try clear c9b1
                      try clear c11
                      try clear c11b0
                      try clear c14
                      try clear c14b0
                      try clear c14b1
                      try clear c16
                      try clear c16b0
                      try clear c18
                      try clear c18b0
                      try clear c18b1
                      try clear c19
                      try clear c21
                      try clear c21b0
                      try clear c22
                      try clear c23
                      try clear c23b0
                      try clear c24
                      try clear c24b0
                      try clear c24b1
                      try clear p2
                      obtain ⟨x16_2, x18_2, rfl, rfl, HA, HK2, ⟨m2, rfl⟩⟩ := hrel
                      cases gk with
                      | zero => exact absurd HA.out (by simp [bits_Div64.l1])
                      | succ k2 =>
                        have H := HA.out
                        clear HA
                        simp only [bits_Div64.l1] at H
                        have HC25 := Aside0.mk H
                        clear H
                        go_upto_region 24 with (fail)
                        repeat (go_quiet (fail); go_upto_region 24 with (fail))
                        go_cut [113] (fun v113 wc => ∃ (kq : Nat) (x113_24 : Bool), v113 = .bool x113_24 ∧ Aside0 (bits_Div64.j4 kq ji10 ji8 ((ji10) / 4294967296) (Go.bits .and .u64 (ji10) 4294967295) (Go.bits .and .u64 (ji17) 4294967295) x15_18 x16_2 (IntKind.u64.wrap ((IntKind.u64.wrap ((IntKind.u64.wrap ((Go.bits .or .u64 (ji12) (ji15)) * 4294967296)) + ((ji17) / 4294967296))) - (IntKind.u64.wrap (x15_18 * ji10)))) x18_2 x113_24 = some (r1, r2)) ∧ Aside0 (kq ≤ k2) ∧ Drawn0 w wc)
                        case first =>
                          have H := HC25.out
                          clear HC25
                          by_cases c26 : x18_2 ≥ 4294967296
                          · rw [if_pos c26] at H
                            have c26b0 : decide (4294967296 ≤ x18_2) = true := decide_eq_true c26
                            clear c26
                            (first | rw [c26b0] | (simp only [i64_w, i32_w]; rw [c26b0]) | skip)
                            have H' := Aside0.mk H
                            clear H
                            go_wp2
                            repeat (go_quiet (fail); try go_wp2)
                            go_meet
                            case rel => exact ⟨_, (true), (by first | rfl | (simp; done) | (simp [*]; done)), H', ⟨by have := HJ18.out; have := HK2.out; first | omega | exact Nat.le_refl _⟩, by repeat (first | exact Drawn0.refl _ | apply Drawn0.step)⟩
                          · rw [if_neg c26] at H
                            have c26b0 : decide (4294967296 ≤ x18_2) = false := decide_eq_false c26
                            clear c26
                            (first | rw [c26b0] | (simp only [i64_w, i32_w]; rw [c26b0]) | skip)
                            have H' := Aside0.mk H
                            clear H
                            go_wp2
                            repeat (go_quiet (fail); try go_wp2)
                            go_meet
                            case rel => exact ⟨_, (decide ((IntKind.u64.wrap (x18_2 * (Go.bits .and .u64 (ji10) 4294967295))) > (IntKind.u64.wrap ((IntKind.u64.wrap (4294967296 * x16_2)) + (Go.bits .and .u64 (ji17) 4294967295))))), (by first | rfl | (simp; done) | (simp only [← hji10, ← hji17] <;> (first | rfl | simp)) | (simp [*]; done)), H', ⟨by have := HJ18.out; have := HK2.out; first | omega | exact Nat.le_refl _⟩, by repeat (first | exact Drawn0.refl _ | apply Drawn0.step)⟩
                        case rest =>
                          clear HC25
                          try clear c1
                          try clear c2
                          try clear p2
                          try clear c4
                          try clear c4b0
                          try clear c4b1
                          try clear c5
                          try clear c5b0
                          try clear c6
                          try clear c6b0
                          try clear c6b1
                          try clear c9
                          try clear c9b0
                          try clear c9b1
                          try clear c11
                          try clear c11b0
                          try clear c14
                          try clear c14b0
                          try clear c14b1
                          try clear c16
                          try clear c16b0
                          try clear c18
                          try clear c18b0
                          try clear c18b1
                          try clear c19
                          try clear c21
                          try clear c21b0
                          try clear c22
                          try clear c23
                          try clear c23b0
                          try clear c24
                          try clear c24b0
                          try clear c24b1
                          try clear c26
                          try clear c26b0
                          try clear p2
                          obtain ⟨kq, x113_24, rfl, HA, HJ24, ⟨mc24, rfl⟩⟩ := hcut
                          cases kq with
                          | zero => exact absurd HA.out (by simp [bits_Div64.j4])
                          | succ kj24 =>
                            have H := HA.out
                            clear HA
                            simp only [bits_Div64.j4] at H
                            by_cases c27 : x113_24 = true
                            · subst c27
                              have H1 : (if (IntKind.u64.wrap (x16_2 + ((ji10) / 4294967296))) ≥ 4294967296 then (if 0 ≤ ji8 then (some (IntKind.u64.wrap ((IntKind.u64.wrap (x15_18 * 4294967296)) + (IntKind.u64.wrap (x18_2 - 1))), shr .u64 (IntKind.u64.wrap ((IntKind.u64.wrap ((IntKind.u64.wrap ((IntKind.u64.wrap ((IntKind.u64.wrap ((IntKind.u64.wrap ((Go.bits .or .u64 (ji12) (ji15)) * 4294967296)) + ((ji17) / 4294967296))) - (IntKind.u64.wrap (x15_18 * ji10)))) * 4294967296)) + (Go.bits .and .u64 (ji17) 4294967295))) - (IntKind.u64.wrap ((IntKind.u64.wrap (x18_2 - 1)) * ji10)))) ji8)) else (none)) else (bits_Div64.l1 kj24 ji10 ji8 ((ji10) / 4294967296) (Go.bits .and .u64 (ji10) 4294967295) (Go.bits .and .u64 (ji17) 4294967295) x15_18 (IntKind.u64.wrap (x16_2 + ((ji10) / 4294967296))) (IntKind.u64.wrap ((IntKind.u64.wrap ((IntKind.u64.wrap ((Go.bits .or .u64 (ji12) (ji15)) * 4294967296)) + ((ji17) / 4294967296))) - (IntKind.u64.wrap (x15_18 * ji10)))) (IntKind.u64.wrap (x18_2 - 1)))) = some (r1, r2) := by rw [if_pos rfl] at H; exact H
                              clear H
                              have H := H1
                              clear H1
                              by_cases c28 : (IntKind.u64.wrap (x16_2 + ((ji10) / 4294967296))) ≥ 4294967296
                              · rw [if_pos c28] at H
                                have c28b0 : decide (4294967296 ≤ (IntKind.u64.wrap (x16_2 + ((ji10) / 4294967296)))) = true := decide_eq_true c28
                                clear c28
                                by_cases c29 : 0 ≤ ji8
                                · rw [if_pos c29] at H
                                  have c29b0 := eq_true c29
                                  have c29b1 : decide (0 ≤ ji8) = true := decide_eq_true c29
                                  clear c29
                                  obtain ⟨ji30, hji30⟩ : ∃ j_ : Int, (shr .u64 (IntKind.u64.wrap ((IntKind.u64.wrap ((IntKind.u64.wrap ((IntKind.u64.wrap ((IntKind.u64.wrap ((IntKind.u64.wrap ((Go.bits .or .u64 (ji12) (ji15)) * 4294967296)) + ((ji17) / 4294967296))) - (IntKind.u64.wrap (x15_18 * ji10)))) * 4294967296)) + (Go.bits .and .u64 (ji17) 4294967295))) - (IntKind.u64.wrap ((IntKind.u64.wrap (x18_2 - 1)) * ji10)))) ji8) = j_ := ⟨_, rfl⟩
                                  replace H : (some (IntKind.u64.wrap ((IntKind.u64.wrap (x15_18 * 4294967296)) + (IntKind.u64.wrap (x18_2 - 1))), ji30)) = some (r1, r2) := by first | (rw [hji30] at H; exact H) | (simp only [hji30] at H ⊢; exact H)
                                  have hji30_ : ((IntKind.u64.wrap ((IntKind.u64.wrap ((IntKind.u64.wrap ((IntKind.u64.wrap ((IntKind.u64.wrap ((IntKind.u64.wrap ((Go.bits .or .u64 (ji12) (ji15)) * 4294967296)) + ((ji17) / 4294967296))) - (IntKind.u64.wrap (x15_18 * ji10)))) * 4294967296)) + (Go.bits .and .u64 (ji17) 4294967295))) - (IntKind.u64.wrap ((IntKind.u64.wrap (x18_2 - 1)) * ji10)))) / 2 ^ min ji8.toNat 64) = ji30 := hji30
                                  have hji30z : ji8 ≤ 64 → ((IntKind.u64.wrap ((IntKind.u64.wrap ((IntKind.u64.wrap ((IntKind.u64.wrap ((IntKind.u64.wrap ((IntKind.u64.wrap ((Go.bits .or .u64 (ji12) (ji15)) * 4294967296)) + ((ji17) / 4294967296))) - (IntKind.u64.wrap (x15_18 * ji10)))) * 4294967296)) + (Go.bits .and .u64 (ji17) 4294967295))) - (IntKind.u64.wrap ((IntKind.u64.wrap (x18_2 - 1)) * ji10)))) / 2 ^ ji8.toNat) = ji30 := shr_small hji30
                                  simp only [Option.some.injEq, Prod.mk.injEq] at H
                                  obtain ⟨rfl, rfl⟩ := H
                                  go_wp2
                                  repeat (go_quiet (fail); try go_wp2)
                                  go_ret2
                                  exact ⟨by first | rfl | (simp; done) | (simp only [← hji8, ← hji10, ← hji12, ← hji13, ← hji15, ← hji17, ← hji30] <;> (first | rfl | simp)) | (simp [*]; done), by repeat (first | exact Drawn0.refl _ | apply Drawn0.step)⟩
                                · rw [if_neg c29] at H
                                  exact absurd H (by simp)
                              · rw [if_neg c28] at H
                                have c28b0 : decide (4294967296 ≤ (IntKind.u64.wrap (x16_2 + ((ji10) / 4294967296)))) = false := decide_eq_false c28
                                clear c28
                                have H' := Aside0.mk H
                                clear H
                                go_wp2
                                repeat (go_quiet (fail); try go_wp2)
                                go_roundg kj24
                                case measure => have := HJ18.out; have := HK2.out; have := HJ24.out; omega
                                case rel => exact ⟨(IntKind.u64.wrap (x16_2 + ((ji10) / 4294967296))), (IntKind.u64.wrap (x18_2 - 1)), (by first | rfl | (simp; done) | (simp only [← hji10] <;> (first | rfl | simp)) | (simp [*]; done)), (by first | rfl | (simp; done) | (simp [*]; done)), H', ⟨by have := HJ18.out; have := HK2.out; have := HJ24.out; omega⟩, by repeat (first | exact Drawn0.refl _ | apply Drawn0.step)⟩
                            · replace c27 := Bool.eq_false_iff.mpr c27
                              subst c27
                              have H1 : (if 0 ≤ ji8 then (some (IntKind.u64.wrap ((IntKind.u64.wrap (x15_18 * 4294967296)) + x18_2), shr .u64 (IntKind.u64.wrap ((IntKind.u64.wrap ((IntKind.u64.wrap ((IntKind.u64.wrap ((IntKind.u64.wrap ((IntKind.u64.wrap ((Go.bits .or .u64 (ji12) (ji15)) * 4294967296)) + ((ji17) / 4294967296))) - (IntKind.u64.wrap (x15_18 * ji10)))) * 4294967296)) + (Go.bits .and .u64 (ji17) 4294967295))) - (IntKind.u64.wrap (x18_2 * ji10)))) ji8)) else (none)) = some (r1, r2) := by rw [if_neg (show ¬ (false = true) by decide)] at H; exact H
                              clear H
                              have H := H1
                              clear H1
                              by_cases c31 : 0 ≤ ji8
                              · rw [if_pos c31] at H
                                have c31b0 := eq_true c31
                                have c31b1 : decide (0 ≤ ji8) = true := decide_eq_true c31
                                clear c31
                                obtain ⟨ji32, hji32⟩ : ∃ j_ : Int, (shr .u64 (IntKind.u64.wrap ((IntKind.u64.wrap ((IntKind.u64.wrap ((IntKind.u64.wrap ((IntKind.u64.wrap ((IntKind.u64.wrap ((Go.bits .or .u64 (ji12) (ji15)) * 4294967296)) + ((ji17) / 4294967296))) - (IntKind.u64.wrap (x15_18 * ji10)))) * 4294967296)) + (Go.bits .and .u64 (ji17) 4294967295))) - (IntKind.u64.wrap (x18_2 * ji10)))) ji8) = j_ := ⟨_, rfl⟩
                                replace H : (some (IntKind.u64.wrap ((IntKind.u64.wrap (x15_18 * 4294967296)) + x18_2), ji32)) = some (r1, r2) := by first | (rw [hji32] at H; exact H) | (simp only [hji32] at H ⊢; exact H)
                                have hji32_ : ((IntKind.u64.wrap ((IntKind.u64.wrap ((IntKind.u64.wrap ((IntKind.u64.wrap ((IntKind.u64.wrap ((IntKind.u64.wrap ((Go.bits .or .u64 (ji12) (ji15)) * 4294967296)) + ((ji17) / 4294967296))) - (IntKind.u64.wrap (x15_18 * ji10)))) * 4294967296)) + (Go.bits .and .u64 (ji17) 4294967295))) - (IntKind.u64.wrap (x18_2 * ji10)))) / 2 ^ min ji8.toNat 64) = ji32 := hji32
                                have hji32z : ji8 ≤ 64 → ((IntKind.u64.wrap ((IntKind.u64.wrap ((IntKind.u64.wrap ((IntKind.u64.wrap ((IntKind.u64.wrap ((IntKind.u64.wrap ((Go.bits .or .u64 (ji12) (ji15)) * 4294967296)) + ((ji17) / 4294967296))) - (IntKind.u64.wrap (x15_18 * ji10)))) * 4294967296)) + (Go.bits .and .u64 (ji17) 4294967295))) - (IntKind.u64.wrap (x18_2 * ji10)))) / 2 ^ ji8.toNat) = ji32 := shr_small hji32
                                simp only [Option.some.injEq, Prod.mk.injEq] at H
                                obtain ⟨rfl, rfl⟩ := H
                                go_wp2
                                repeat (go_quiet (fail); try go_wp2)
                                go_ret2
                                exact ⟨by first | rfl | (simp; done) | (simp only [← hji8, ← hji10, ← hji12, ← hji13, ← hji15, ← hji17, ← hji32] <;> (first | rfl | simp)) | (simp [*]; done), by repeat (first | exact Drawn0.refl _ | apply Drawn0.step)⟩
                              · rw [if_neg c31] at H
                                exact absurd H (by simp)
          · rw [if_neg c14] at H
            exact absurd H (by simp)
        · rw [if_neg c9] at H
          exact absurd H (by simp)
def fix_MulDiv.j0 : Nat → Int → Int → Int → Bool → Option (Int)
  | 0, _, _, _, _ => none
  | k + 1, x2, x7, x8, x17 => if x17 = true then (some 0) else (if x7 ≥ x2 then (some 18446744073709551615) else ((bits_Div64.f k x7 x8 x2).bind fun bt104 => (some bt104.1)))
def fix_MulDiv.f (k : Nat) (a0 : Int) (a1 : Int) (a2 : Int) : Option (Int) := (bits_Mul64.f a0 a1).bind fun bt102 => (if bt102.1 = 0 then (fix_MulDiv.j0 k a2 bt102.1 bt102.2 (bt102.2 == 0)) else (fix_MulDiv.j0 k a2 bt102.1 bt102.2 false))
set_option maxHeartbeats 8000000 in
set_option maxRecDepth 100000 in
theorem fix_MulDiv.calls (k : Nat) (a0 : Int) (a1 : Int) (a2 : Int) (r : Int) (w : World) (h : fix_MulDiv.f k a0 a1 a2 = some r) :
    Calls Try.prog 20 #[.int .u64 a0, .int .u64 a1, .int .u64 a2] w fun e w' => e = .returned (.int .u64 r) ∧ Drawn0 w w' := by
  have H : ((bits_Mul64.f a0 a1).bind fun bt102 => (if bt102.1 = 0 then (fix_MulDiv.j0 k a2 bt102.1 bt102.2 (bt102.2 == 0)) else (fix_MulDiv.j0 k a2 bt102.1 bt102.2 false))) = some r := h
  clear h
  replace H := Option.bind_eq_some_iff.mp H
  obtain ⟨⟨t102, t103⟩, A40, H⟩ := H
  replace H : (if t102 = 0 then (fix_MulDiv.j0 k a2 t102 t103 (t103 == 0)) else (fix_MulDiv.j0 k a2 t102 t103 false)) = some r := H
  have A4 := Aside0.mk A40
  clear A40
  have HC5 := Aside0.mk H
  clear H
  go_enter Try.func20, Try.ntmps20
  go_upto_region 2 with (first | ((with_reducible refine gate_callee (f := 47) rfl ?_); refine goesL_ (some 14) rfl rfl Try.func47 (by kernel_rfl) rfl #[.int .u64 a0, .int .u64 a1] rfl (by (try simp only [List.map_toArray, List.map_cons, List.map_nil]); first | done | rfl | (simp only [List.length_drop, List.length_take]; rfl)) ?_; (with_reducible refine (bits_Mul64.calls a0 a1 t102 t103 _ A4.out).mono ?_); rintro e w' ⟨rfl, ⟨nd, rfl⟩⟩; refine ⟨_, rfl, ?_⟩))
  (try simp only [Act.put, List.setIfInBounds_toArray, List.set_cons_zero, List.set_cons_succ])
  go_cut [17] (fun v17 wc => ∃ (kq : Nat) (x17_4 : Bool), v17 = .bool x17_4 ∧ Aside0 (fix_MulDiv.j0 kq a2 t102 t103 x17_4 = some r) ∧ Aside0 (kq ≤ k) ∧ Drawn0 w wc)
  case first =>
    have H := HC5.out
    clear HC5
    by_cases c6 : t102 = 0
    · rw [if_pos c6] at H
      have c6b0 : (t102 == 0) = true := beq_iff_eq.mpr c6
      have c6b1 : (t102 != 0) = false := bne_eq_false_iff_eq.mpr c6
      clear c6
      (first | rw [c6b0] | (simp only [i64_w, i32_w]; rw [c6b0]) | skip)
      have H' := Aside0.mk H
      clear H
      go_wp2
      go_meet
      case rel => exact ⟨_, ((t103 == 0)), (by first | rfl | (simp; done) | (simp [*]; done)), H', ⟨by first | omega | exact Nat.le_refl _⟩, by repeat (first | exact Drawn0.refl _ | apply Drawn0.step)⟩
    · rw [if_neg c6] at H
      have c6b0 : (t102 == 0) = false := beq_eq_false_iff_ne.mpr c6
      have c6b1 : (t102 != 0) = true := bne_iff_ne.mpr c6
      (first | rw [c6b0] | (simp only [i64_w, i32_w]; rw [c6b0]) | skip)
      have H' := Aside0.mk H
      clear H
      go_wp2
      go_meet
      case rel => exact ⟨_, (false), (by first | rfl | (simp; done) | (simp [*]; done)), H', ⟨by first | omega | exact Nat.le_refl _⟩, by repeat (first | exact Drawn0.refl _ | apply Drawn0.step)⟩
  case rest =>
    clear HC5
    try clear c2
    try clear p2
    try clear c4
    try clear c6
    try clear c6b0
    try clear c6b1
    obtain ⟨kq, x17_4, rfl, HA, HJ4, ⟨mc4, rfl⟩⟩ := hcut
    cases kq with
    | zero => exact absurd HA.out (by simp [fix_MulDiv.j0])
    | succ kj4 =>
      have H := HA.out
      clear HA
      simp only [fix_MulDiv.j0] at H
      by_cases c7 : x17_4 = true
      · subst c7
        have H1 : (some 0) = some r := by rw [if_pos rfl] at H; exact H
        clear H
        have H := H1
        clear H1
        obtain rfl := Option.some.inj H
        go_wp2
        go_ret
        exact ⟨by first | rfl | (simp; done) | (simp [*]; done), by repeat (first | exact Drawn0.refl _ | apply Drawn0.step)⟩
      · replace c7 := Bool.eq_false_iff.mpr c7
        subst c7
        have H1 : (if t102 ≥ a2 then (some 18446744073709551615) else ((bits_Div64.f kj4 t102 t103 a2).bind fun bt104 => (some bt104.1))) = some r := by rw [if_neg (show ¬ (false = true) by decide)] at H; exact H
        clear H
        have H := H1
        clear H1
        by_cases c8 : t102 ≥ a2
        · rw [if_pos c8] at H
          have c8b0 : decide (a2 ≤ t102) = true := decide_eq_true c8
          clear c8
          obtain rfl := Option.some.inj H
          go_wp2
          go_ret
          exact ⟨by first | rfl | (simp; done) | (simp [*]; done), by repeat (first | exact Drawn0.refl _ | apply Drawn0.step)⟩
        · rw [if_neg c8] at H
          have c8b0 : decide (a2 ≤ t102) = false := decide_eq_false c8
          clear c8
          replace H := Option.bind_eq_some_iff.mp H
          obtain ⟨⟨t104, t105⟩, A90, H⟩ := H
          replace H : (some t104) = some r := H
          have A9 := Aside0.mk A90
          clear A90
          obtain rfl := Option.some.inj H
          go_wp2_with (first | ((with_reducible refine gate_callee (f := 48) rfl ?_); refine goesL_ (some 32) rfl rfl Try.func48 (by kernel_rfl) rfl #[.int .u64 t102, .int .u64 t103, .int .u64 a2] rfl (by (try simp only [List.map_toArray, List.map_cons, List.map_nil]); first | done | rfl | (simp only [List.length_drop, List.length_take]; rfl)) ?_; (with_reducible refine (bits_Div64.calls kj4 t102 t103 a2 t104 t105 _ A9.out).mono ?_); rintro e w' ⟨rfl, ⟨nd, rfl⟩⟩; refine ⟨_, rfl, ?_⟩))
          go_ret
          exact ⟨by first | rfl | (simp; done) | (simp [*]; done), by repeat (first | exact Drawn0.refl _ | apply Drawn0.step)⟩
theorem div_test {yn1 yn0 v u d q rh : Int} (hv : v = yn1 * 4294967296 + yn0) (hv0 : 0 < v) (h : q * yn1 + rh = u) :
    (u * 4294967296 + d) / v < q ↔ 4294967296 * rh + d < q * yn0 := by
  rw [Int.ediv_lt_iff_lt_mul hv0, hv, Int.mul_add, ← Int.mul_assoc]
  generalize q * yn1 = p at *
  generalize q * yn0 = m at *
  omega
theorem div_digit {v u d : Int} (hv0 : 0 < v) (hu0 : 0 ≤ u) (hu : u < v) (hd0 : 0 ≤ d) (hd : d < 4294967296) :
    0 ≤ (u * 4294967296 + d) / v ∧ (u * 4294967296 + d) / v ≤ 4294967295 := by
  refine ⟨Int.ediv_nonneg (by omega) (by omega), ?_⟩
  have : (u * 4294967296 + d) / v < 4294967296 := (Int.ediv_lt_iff_lt_mul hv0).2 (by omega)
  omega
theorem div_l1 {v s yn1 yn0 un0 q1 u : Int} (hv : v = yn1 * 4294967296 + yn0) (hy1 : 2147483648 ≤ yn1) (hy1' : yn1 < 4294967296) (hy0 : 0 ≤ yn0) (hy0' : yn0 < 4294967296)
    (hu0 : 0 ≤ u) (hu : u < v) (hd0 : 0 ≤ un0) (hd : un0 < 4294967296) (hs : 0 ≤ s) (n : Nat) :
    ∀ (k : Nat) (rh q : Int), q * yn1 + rh = u → (u * 4294967296 + un0) / v ≤ q → q ≤ 4294967297 → 0 ≤ rh → rh < 4294967296 → q - (u * 4294967296 + un0) / v = n → 2 * n + 2 ≤ k →
    ∃ r, bits_Div64.l1 k v s yn1 yn0 un0 q1 rh u q = some (IntKind.u64.wrap (IntKind.u64.wrap (q1 * 4294967296) + (u * 4294967296 + un0) / v), r) := by
  have hv0 : 0 < v := by omega
  obtain ⟨hQ0, hQ1⟩ := div_digit hv0 hu0 hu hd0 hd
  induction n with
  | zero =>
    intro k rh q h1 h2 h3 h4 h5 h6 hk
    obtain ⟨k, rfl⟩ : ∃ m, k = m + 2 := ⟨k - 2, by omega⟩
    have ht := div_test (d := un0) hv hv0 h1
    have hb := mul_bd (a := q) (b := yn0) (A := 4294967295) (B := 4294967295) (by omega) (by omega) hy0 (by omega)
    generalize (u * 4294967296 + un0) / v = Q at *
    obtain rfl : q = Q := by omega
    have hng : ¬ (4294967296 * rh + un0 < q * yn0) := by rw [← ht]; omega
    simp only [bits_Div64.l1]
    rw [if_neg (by omega), w64 (x := q * yn0) (by omega), w64 (x := 4294967296 * rh) (by omega), w64 (x := 4294967296 * rh + un0) (by omega), decide_eq_false (by omega)]
    simp only [bits_Div64.j4]
    rw [if_neg (by simp), if_pos hs]
    exact ⟨_, rfl⟩
  | succ n ih =>
    intro k rh q h1 h2 h3 h4 h5 h6 hk
    obtain ⟨k, rfl⟩ : ∃ m, k = m + 2 := ⟨k - 2, by omega⟩
    have ht := div_test (d := un0) hv hv0 h1
    have hgt : (u * 4294967296 + un0) / v < q := by omega
    have ht1 := ht.1 hgt
    have h1' : (q - 1) * yn1 + (rh + yn1) = u := by rw [Int.sub_mul, Int.one_mul]; omega
    have hstep : bits_Div64.l1 (k + 2) v s yn1 yn0 un0 q1 rh u q = bits_Div64.j4 (k + 1) v s yn1 yn0 un0 q1 rh u q true := by
      simp only [bits_Div64.l1]
      by_cases hc : q ≥ 4294967296
      · rw [if_pos hc]
      · have hb := mul_bd (a := q) (b := yn0) (A := 4294967295) (B := 4294967295) (by omega) (by omega) hy0 (by omega)
        rw [if_neg hc, w64 (x := q * yn0) (by omega), w64 (x := 4294967296 * rh) (by omega), w64 (x := 4294967296 * rh + un0) (by omega), decide_eq_true (by omega)]
    rw [hstep]
    simp only [bits_Div64.j4]
    rw [if_pos trivial, w64 (x := rh + yn1) (by omega), w64 (x := q - 1) (by omega)]
    by_cases hc : rh + yn1 ≥ 4294967296
    · have hm := mul_bd (a := q - 1) (b := yn0) (A := 4294967296) (B := 4294967295) (by omega) (by omega) hy0 (by omega)
      have hq : q - 1 = (u * 4294967296 + un0) / v := by
        have ht' := div_test (d := un0) hv hv0 h1'
        have : ¬ ((u * 4294967296 + un0) / v < q - 1) := by rw [ht']; omega
        omega
      rw [if_pos hc, if_pos hs, hq]
      exact ⟨_, rfl⟩
    · rw [if_neg hc]
      exact ih k (rh + yn1) (q - 1) h1' (by omega) (by omega) (by omega) (by omega) (by omega) (by omega)
theorem div_rest {v u d : Int} (hv0 : 0 < v) (hv1 : v ≤ 18446744073709551615) :
    IntKind.u64.wrap (IntKind.u64.wrap (IntKind.u64.wrap (u * 4294967296) + d) - IntKind.u64.wrap ((u * 4294967296 + d) / v * v)) = (u * 4294967296 + d) % v := by
  have h1 := Int.emod_add_mul_ediv (u * 4294967296 + d) v
  have h2 := Int.emod_nonneg (u * 4294967296 + d) (b := v) (by omega)
  have h3 := Int.emod_lt_of_pos (u * 4294967296 + d) hv0
  rw [Int.mul_comm v] at h1
  rw [ww, ww, ww, ww]
  generalize (u * 4294967296 + d) / v * v = p at *
  omega
theorem div_l0 {v s yn1 yn0 un1 un0 u : Int} (hv : v = yn1 * 4294967296 + yn0) (hy1 : 2147483648 ≤ yn1) (hy1' : yn1 < 4294967296) (hy0 : 0 ≤ yn0) (hy0' : yn0 < 4294967296)
    (hu0 : 0 ≤ u) (hu : u < v) (hd0 : 0 ≤ un1) (hd : un1 < 4294967296) (n : Nat) :
    ∀ (k : Nat) (rh q : Int), q * yn1 + rh = u → (u * 4294967296 + un1) / v ≤ q → q ≤ 4294967297 → 0 ≤ rh → rh < 4294967296 → q - (u * 4294967296 + un1) / v = n → 2 * n + 2 ≤ k →
    ∃ j, k ≤ j + 2 * n + 2 ∧ bits_Div64.l0 k v s yn1 yn0 u un1 un0 q rh = bits_Div64.j2 j v s yn1 yn0 u un1 un0 ((u * 4294967296 + un1) / v) := by
  have hv0 : 0 < v := by omega
  obtain ⟨hQ0, hQ1⟩ := div_digit hv0 hu0 hu hd0 hd
  induction n with
  | zero =>
    intro k rh q h1 h2 h3 h4 h5 h6 hk
    obtain ⟨k, rfl⟩ : ∃ m, k = m + 2 := ⟨k - 2, by omega⟩
    have ht := div_test (d := un1) hv hv0 h1
    have hb := mul_bd (a := q) (b := yn0) (A := 4294967295) (B := 4294967295) (by omega) (by omega) hy0 (by omega)
    generalize (u * 4294967296 + un1) / v = Q at *
    obtain rfl : q = Q := by omega
    have hng : ¬ (4294967296 * rh + un1 < q * yn0) := by rw [← ht]; omega
    simp only [bits_Div64.l0]
    rw [if_neg (by omega), w64 (x := q * yn0) (by omega), w64 (x := 4294967296 * rh) (by omega), w64 (x := 4294967296 * rh + un1) (by omega), decide_eq_false (by omega)]
    simp only [bits_Div64.j1]
    rw [if_neg (by simp)]
    exact ⟨k, by omega, rfl⟩
  | succ n ih =>
    intro k rh q h1 h2 h3 h4 h5 h6 hk
    obtain ⟨k, rfl⟩ : ∃ m, k = m + 2 := ⟨k - 2, by omega⟩
    have ht := div_test (d := un1) hv hv0 h1
    have hgt : (u * 4294967296 + un1) / v < q := by omega
    have ht1 := ht.1 hgt
    have h1' : (q - 1) * yn1 + (rh + yn1) = u := by rw [Int.sub_mul, Int.one_mul]; omega
    have hstep : bits_Div64.l0 (k + 2) v s yn1 yn0 u un1 un0 q rh = bits_Div64.j1 (k + 1) v s yn1 yn0 u un1 un0 q rh true := by
      simp only [bits_Div64.l0]
      by_cases hc : q ≥ 4294967296
      · rw [if_pos hc]
      · have hb := mul_bd (a := q) (b := yn0) (A := 4294967295) (B := 4294967295) (by omega) (by omega) hy0 (by omega)
        rw [if_neg hc, w64 (x := q * yn0) (by omega), w64 (x := 4294967296 * rh) (by omega), w64 (x := 4294967296 * rh + un1) (by omega), decide_eq_true (by omega)]
    rw [hstep]
    simp only [bits_Div64.j1]
    rw [if_pos trivial, w64 (x := rh + yn1) (by omega), w64 (x := q - 1) (by omega)]
    by_cases hc : rh + yn1 ≥ 4294967296
    · have hm := mul_bd (a := q - 1) (b := yn0) (A := 4294967296) (B := 4294967295) (by omega) (by omega) hy0 (by omega)
      have hq : q - 1 = (u * 4294967296 + un1) / v := by
        have ht' := div_test (d := un1) hv hv0 h1'
        have : ¬ ((u * 4294967296 + un1) / v < q - 1) := by rw [ht']; omega
        omega
      rw [if_pos hc, hq]
      exact ⟨k, by omega, rfl⟩
    · rw [if_neg hc]
      obtain ⟨j, hj, e⟩ := ih k (rh + yn1) (q - 1) h1' (by omega) (by omega) (by omega) (by omega) (by omega) (by omega)
      exact ⟨j, by omega, e⟩
theorem div_guess {v yn1 yn0 u d : Int} (hv : v = yn1 * 4294967296 + yn0) (hy1 : 2147483648 ≤ yn1) (hy1' : yn1 < 4294967296) (hy0 : 0 ≤ yn0) (hy0' : yn0 < 4294967296)
    (hu0 : 0 ≤ u) (hu : u < v) (hd0 : 0 ≤ d) (hd : d < 4294967296) :
    u / yn1 * yn1 + u % yn1 = u ∧ (u * 4294967296 + d) / v ≤ u / yn1 ∧ u / yn1 ≤ 4294967297 ∧ 0 ≤ u % yn1 ∧ u % yn1 < 4294967296 := by
  have h1 := Int.emod_add_mul_ediv u yn1
  have h2 := Int.emod_nonneg u (b := yn1) (by omega)
  have h3 := Int.emod_lt_of_pos u (b := yn1) (by omega)
  have e : u / yn1 * yn1 + u % yn1 = u := by rw [Int.mul_comm]; omega
  have hq0 : 0 ≤ u / yn1 := Int.ediv_nonneg hu0 (by omega)
  refine ⟨e, ?_, ?_, h2, by omega⟩
  · have ht := div_test (d := d) (u := u) (q := u / yn1 + 1) (rh := u % yn1 - yn1) hv (by omega) (by rw [Int.add_mul, Int.one_mul]; omega)
    have hm := Int.mul_nonneg hq0 hy0
    have : 4294967296 * (u % yn1 - yn1) + d < (u / yn1 + 1) * yn0 := by rw [Int.add_mul, Int.one_mul]; omega
    have := ht.2 this
    omega
  · have : u / yn1 < 4294967298 := (Int.ediv_lt_iff_lt_mul (by omega)).2 (by omega)
    omega
theorem and_mask (x : Int) (h : W64 x) : Go.bits .and .u64 x 4294967295 = x % 4294967296 := by
  rw [u64_and x 4294967295 h.1 (by omega) (by omega) (by omega)]
  have e : (4294967295 : Int).toNat = 2 ^ 32 - 1 := rfl
  rw [e, Nat.and_two_pow_sub_one_eq_mod]
  omega
theorem or_low (q b : Int) (n : Nat) (hn : n ≤ 64) (h0 : 0 ≤ q) (hb0 : 0 ≤ b) (hb : b < 2 ^ n) (hq : q * 2 ^ n ≤ 18446744073709551615) : Go.bits .or .u64 (q * 2 ^ n) b = q * 2 ^ n + b := by
  have hp : (0 : Int) < 2 ^ n := Int.pow_pos (by omega)
  have h64 : (2 : Nat) ^ n ≤ 2 ^ 64 := Nat.pow_le_pow_right (by omega) hn
  obtain ⟨q, rfl⟩ := Int.eq_ofNat_of_zero_le h0
  obtain ⟨b, rfl⟩ := Int.eq_ofNat_of_zero_le hb0
  have hc : ((2 ^ n : Nat) : Int) = 2 ^ n := by simp
  have hqn : (q : Int) * 2 ^ n = ((2 ^ n * q : Nat) : Int) := by rw [Int.natCast_mul, hc, Int.mul_comm]
  have hbn : b < 2 ^ n := by rw [← hc] at hb; omega
  rw [hqn] at hq ⊢
  rw [u64_or _ _ (by omega) (by omega) (by omega) (by omega), Int.toNat_natCast, Int.toNat_natCast, ← Nat.two_pow_add_eq_or_of_lt hbn]
  omega
theorem div64_tells (hi lo y : Int) (h1 : W64 hi) (h2 : W64 lo) (h3 : W64 y) (hlt : hi < y) :
    ∃ k r, bits_Div64.f k hi lo y = some ((hi * 18446744073709551616 + lo) / y, r) := by
  have hy0 : 0 < y := by omega
  by_cases hz : hi = 0
  · refine ⟨0, Int.tmod lo y, ?_⟩
    unfold bits_Div64.f
    rw [if_neg (by omega), if_neg (by omega), if_pos hz, Int.tdiv_eq_ediv_of_nonneg h2.1]
    have hd0 : 0 ≤ lo / y := Int.ediv_nonneg h2.1 h3.1
    have hd1 : lo / y ≤ lo := Int.ediv_le_self y h2.1
    rw [w64 (by omega), hz, Int.zero_mul, Int.zero_add]
  · -- the shift
    have hy : y.toNat < 2 ^ 64 := by omega
    obtain ⟨b1, b2, b3⟩ := Lib.bitLenAux_bounds 64 y.toNat hy (by omega)
    have b4 : Lib.bitLenAux 64 y.toNat ≤ 64 := Lib.bitLen_le y.toNat 64 (Nat.le_refl _) hy
    have eL : Lib.bitLen y.toNat = Lib.bitLenAux 64 y.toNat := rfl
    generalize Lib.bitLenAux 64 y.toNat = L at *
    obtain ⟨s, hs⟩ : ∃ s : Nat, s + L = 64 := ⟨64 - L, by omega⟩
    have hP0 : (0 : Int) < 2 ^ s := Int.pow_pos (by omega)
    have hL0 : (0 : Int) < 2 ^ L := Int.pow_pos (by omega)
    have hPL : (2 : Int) ^ s * 2 ^ L = 18446744073709551616 := by rw [← Int.pow_add, hs]; rfl
    have hyL : y < 2 ^ L := by
      have : ((y.toNat : Nat) : Int) < ((2 ^ L : Nat) : Int) := by exact_mod_cast b3
      rw [Int.natCast_pow] at this
      have e : ((2 : Nat) : Int) = 2 := rfl
      rw [e] at this; omega
    have hyL' : 2 ^ L ≤ 2 * y := by
      have : ((2 ^ (L - 1) : Nat) : Int) ≤ ((y.toNat : Nat) : Int) := by exact_mod_cast b2
      rw [Int.natCast_pow] at this
      have e : ((2 : Nat) : Int) = 2 := rfl
      rw [e] at this
      have e2 : (2 : Int) ^ L = 2 ^ (L - 1) * 2 := by rw [← Int.pow_succ]; congr 1; omega
      omega
    -- the numbers
    have hv1 : y * 2 ^ s < 18446744073709551616 := by rw [← hPL, Int.mul_comm (2 ^ s)]; exact Int.mul_lt_mul_of_pos_right hyL hP0
    have hv2 : 18446744073709551616 ≤ 2 * (y * 2 ^ s) := by
      rw [← hPL, Int.mul_comm (2 ^ s), ← Int.mul_assoc]; exact Int.mul_le_mul_of_nonneg_right hyL' (by omega)
    have hh1 : hi * 2 ^ s ≤ y * 2 ^ s := Int.mul_le_mul_of_nonneg_right (by omega) (by omega)
    have hh0 : 0 ≤ hi * 2 ^ s := Int.mul_nonneg h1.1 (by omega)
    have hlo0 : 0 ≤ lo / 2 ^ L := Int.ediv_nonneg h2.1 (by omega)
    have hlo1 : lo / 2 ^ L < 2 ^ s := (Int.ediv_lt_iff_lt_mul hL0).2 (by omega)
    have hlP : 0 ≤ lo * 2 ^ s := Int.mul_nonneg h2.1 (by omega)
    have hcarry : lo * 2 ^ s / 18446744073709551616 = lo / 2 ^ L := by
      rw [← hPL, Int.mul_comm lo, Int.mul_ediv_mul_of_pos _ _ hP0]
    have hsum : (hi * 2 ^ s + lo / 2 ^ L) * 18446744073709551616 + lo * 2 ^ s % 18446744073709551616 = (hi * 18446744073709551616 + lo) * 2 ^ s := by
      have e1 : (hi * 18446744073709551616 + lo) * 2 ^ s = hi * 2 ^ s * 18446744073709551616 + lo * 2 ^ s := by
        rw [Int.add_mul, Int.mul_assoc, Int.mul_assoc, Int.mul_comm 18446744073709551616]
      rw [e1, ← hcarry]
      omega
    have hltv : hi * 2 ^ s + lo / 2 ^ L < y * 2 ^ s := by
      have e2 : (hi * 18446744073709551616 + lo) * 2 ^ s < y * 18446744073709551616 * 2 ^ s := Int.mul_lt_mul_of_pos_right (by omega) hP0
      rw [Int.mul_assoc, Int.mul_comm 18446744073709551616, ← Int.mul_assoc] at e2
      omega
    have efin : (hi * 18446744073709551616 + lo) / y = ((hi * 2 ^ s + lo / 2 ^ L) * 18446744073709551616 + lo * 2 ^ s % 18446744073709551616) / (y * 2 ^ s) := by
      rw [hsum, Int.mul_comm _ (2 ^ s), Int.mul_comm _ (2 ^ s), Int.mul_ediv_mul_of_pos _ _ hP0]
    have ew : IntKind.u64.wrap (64 - (L : Int)) = s := by rw [w64 (by omega)]; omega
    have ew2 : IntKind.u64.wrap (64 - (s : Int)) = L := by rw [w64 (by omega)]; omega
    have es1 : shl .u64 y (s : Int) = y * 2 ^ s := by
      unfold shl
      rw [Int.toNat_natCast, Nat.min_eq_left (by show s ≤ 64; omega), w64 (by omega)]
    have es2 : shl .u64 hi (s : Int) = hi * 2 ^ s := by
      unfold shl
      rw [Int.toNat_natCast, Nat.min_eq_left (by show s ≤ 64; omega), w64 (by omega)]
    have es3 : shl .u64 lo (s : Int) = lo * 2 ^ s % 18446744073709551616 := by
      unfold shl
      rw [Int.toNat_natCast, Nat.min_eq_left (by show s ≤ 64; omega), ww]
    have es4 : shr .u64 lo (L : Int) = lo / 2 ^ L := by
      unfold shr
      rw [Int.toNat_natCast, Nat.min_eq_left (by show L ≤ 64; omega)]
    have es5 : Go.bits .or .u64 (hi * 2 ^ s) (lo / 2 ^ L) = hi * 2 ^ s + lo / 2 ^ L := or_low hi _ s (by omega) h1.1 hlo0 hlo1 (by omega)
    have hm0 := w64_mod (lo * 2 ^ s)
    have hu0 : 0 ≤ hi * 2 ^ s + lo / 2 ^ L := by omega
    rw [efin]
    -- the code
    have hcode : ∀ k, bits_Div64.f k hi lo y = bits_Div64.l0 k (y * 2 ^ s) s (y * 2 ^ s / 4294967296) (y * 2 ^ s % 4294967296) (hi * 2 ^ s + lo / 2 ^ L) (lo * 2 ^ s % 18446744073709551616 / 4294967296) (lo * 2 ^ s % 18446744073709551616 % 4294967296)
        ((hi * 2 ^ s + lo / 2 ^ L) / (y * 2 ^ s / 4294967296)) ((hi * 2 ^ s + lo / 2 ^ L) % (y * 2 ^ s / 4294967296)) := by
      intro k
      unfold bits_Div64.f bits_LeadingZeros64.f
      rw [if_neg (by omega), if_neg (by omega), if_neg hz, if_pos h3]
      simp only [Option.bind_some]
      rw [eL, ew, ew2, es1, es2, es3, es4, es5, and_mask _ hm0, and_mask _ (by omega)]
      rw [if_pos (by omega), if_pos (by omega), if_neg (by omega)]
      generalize hi * 2 ^ s + lo / 2 ^ L = u at *
      generalize y * 2 ^ s = v at *
      obtain ⟨g1, g2, g3, g4, g5⟩ := div_guess (v := v) (yn1 := v / 4294967296) (yn0 := v % 4294967296) (u := u) (d := 0) (by omega) (by omega) (by omega) (by omega) (by omega) hu0 hltv (by omega) (by omega)
      have hq0 : 0 ≤ u / (v / 4294967296) := Int.ediv_nonneg hu0 (by omega)
      have hqm := Int.mul_nonneg hq0 (show (0 : Int) ≤ v / 4294967296 by omega)
      rw [Int.tdiv_eq_ediv_of_nonneg hu0, w64 (x := u / (v / 4294967296)) (by omega)]
      generalize u / (v / 4294967296) * (v / 4294967296) = m at *
      rw [w64 (x := m) (by omega), w64 (x := u - m) (by omega)]
      congr 1
      omega
    generalize hi * 2 ^ s + lo / 2 ^ L = u at *
    generalize y * 2 ^ s = v at *
    generalize lo * 2 ^ s % 18446744073709551616 = un at *
    clear efin es5 es4 es3 es2 es1 ew ew2 hsum hcarry
    obtain ⟨g1, g2, g3, g4, g5⟩ := div_guess (v := v) (yn1 := v / 4294967296) (yn0 := v % 4294967296) (u := u) (d := un / 4294967296) (by omega) (by omega) (by omega) (by omega) (by omega) hu0 hltv (by omega) (by omega)
    obtain ⟨n, hn⟩ : ∃ n : Nat, u / (v / 4294967296) - (u * 4294967296 + un / 4294967296) / v = n := ⟨(u / (v / 4294967296) - (u * 4294967296 + un / 4294967296) / v).toNat, by omega⟩
    have hrest := div_rest (v := v) (u := u) (d := un / 4294967296) (by omega) (by omega)
    have hr0 := Int.emod_nonneg (u * 4294967296 + un / 4294967296) (b := v) (by omega)
    have hr1 := Int.emod_lt_of_pos (u * 4294967296 + un / 4294967296) (b := v) (by omega)
    have hdm := Int.emod_add_mul_ediv (u * 4294967296 + un / 4294967296) v
    obtain ⟨hQ0, hQ1⟩ := div_digit (v := v) (u := u) (d := un / 4294967296) (by omega) hu0 hltv (by omega) (by omega)
    obtain ⟨f1, f2, f3, f4, f5⟩ := div_guess (v := v) (yn1 := v / 4294967296) (yn0 := v % 4294967296) (u := (u * 4294967296 + un / 4294967296) % v) (d := un % 4294967296) (by omega) (by omega) (by omega) (by omega) (by omega) hr0 hr1 (by omega) (by omega)
    have efin2 : (u * 18446744073709551616 + un) / v = (u * 4294967296 + un / 4294967296) / v * 4294967296 + ((u * 4294967296 + un / 4294967296) % v * 4294967296 + un % 4294967296) / v := by
      generalize (u * 4294967296 + un / 4294967296) % v = u' at *
      generalize (u * 4294967296 + un / 4294967296) / v = Q at *
      have e : u * 18446744073709551616 + un = (u' * 4294967296 + un % 4294967296) + v * (Q * 4294967296) := by
        rw [← Int.mul_assoc]; omega
      rw [e, Int.add_mul_ediv_left _ _ (by omega)]
      omega
    obtain ⟨hZ0, hZ1⟩ := div_digit (v := v) (u := (u * 4294967296 + un / 4294967296) % v) (d := un % 4294967296) (by omega) hr0 hr1 (by omega) (by omega)
    obtain ⟨n', hn'⟩ : ∃ n : Nat, (u * 4294967296 + un / 4294967296) % v / (v / 4294967296) - ((u * 4294967296 + un / 4294967296) % v * 4294967296 + un % 4294967296) / v = n := ⟨((u * 4294967296 + un / 4294967296) % v / (v / 4294967296) - ((u * 4294967296 + un / 4294967296) % v * 4294967296 + un % 4294967296) / v).toNat, by omega⟩
    obtain ⟨j, hj, e0⟩ := div_l0 (v := v) (s := s) (yn1 := v / 4294967296) (yn0 := v % 4294967296) (un1 := un / 4294967296) (un0 := un % 4294967296) (u := u) (by omega) (by omega) (by omega) (by omega) (by omega) hu0 hltv (by omega) (by omega) n (2 * n + 2 * n' + 8) _ _ g1 g2 g3 g4 g5 hn (by omega)
    refine ⟨2 * n + 2 * n' + 8, ?_⟩
    rw [hcode, e0]
    obtain ⟨j, rfl⟩ : ∃ m, j = m + 1 := ⟨j - 1, by omega⟩
    simp only [bits_Div64.j2]
    rw [if_neg (by omega), hrest, Int.tdiv_eq_ediv_of_nonneg hr0]
    rw [efin2]
    generalize (u * 4294967296 + un / 4294967296) % v = u' at *
    have hq0 : 0 ≤ u' / (v / 4294967296) := Int.ediv_nonneg hr0 (by omega)
    have hqm := Int.mul_nonneg hq0 (show (0 : Int) ≤ v / 4294967296 by omega)
    rw [w64 (x := u' / (v / 4294967296)) (by omega)]
    have hm' : IntKind.u64.wrap (u' - IntKind.u64.wrap (u' / (v / 4294967296) * (v / 4294967296))) = u' % (v / 4294967296) := by
      generalize u' / (v / 4294967296) * (v / 4294967296) = m at *
      rw [w64 (x := m) (by omega), w64 (x := u' - m) (by omega)]; omega
    rw [hm']
    obtain ⟨r, er⟩ := div_l1 (v := v) (s := s) (yn1 := v / 4294967296) (yn0 := v % 4294967296) (un0 := un % 4294967296) (q1 := (u * 4294967296 + un / 4294967296) / v) (u := u') (by omega) (by omega) (by omega) (by omega) (by omega) hr0 hr1 (by omega) (by omega) (by omega) n' j _ _ f1 f2 f3 f4 f5 hn' (by omega)
    rw [er]
    refine ⟨r, ?_⟩
    rw [w64 (x := (u * 4294967296 + un / 4294967296) / v * 4294967296) (by omega), w64 (by omega)]
theorem muldiv_tells (a b c : Int) (h1 : W64 a) (h2 : W64 b) (h3 : W64 c) : ∃ k, fix_MulDiv.f k a b c = some (uMulDiv a b c) := by
  have hp := Int.mul_nonneg h1.1 h2.1
  have hp' := mul_bd (A := 18446744073709551615) (B := 18446744073709551615) h1.1 h1.2 h2.1 h2.2
  unfold fix_MulDiv.f bits_Mul64.f uMulDiv
  rw [if_pos ⟨h1, h2⟩]
  simp only [Option.bind_some]
  generalize a * b = p at *
  by_cases hz : p = 0
  · refine ⟨1, ?_⟩
    subst hz
    simp [fix_MulDiv.j0]
  · by_cases hc : c * 18446744073709551616 ≤ p
    · refine ⟨1, ?_⟩
      have e : ∀ z, (z = true → False) → fix_MulDiv.j0 1 c (p / 18446744073709551616) (p % 18446744073709551616) z = some 18446744073709551615 := by
        intro z hz'
        simp only [fix_MulDiv.j0]
        rw [if_neg hz', if_pos (by omega)]
      rw [if_neg hz, if_pos hc]
      split
      · exact e _ (by simp; omega)
      · exact e _ (by simp)
    · obtain ⟨k, r, hk⟩ := div64_tells (p / 18446744073709551616) (p % 18446744073709551616) c (by omega) (by omega) h3 (by omega)
      have ep : p / 18446744073709551616 * 18446744073709551616 + p % 18446744073709551616 = p := by omega
      rw [ep] at hk
      refine ⟨k + 1, ?_⟩
      have e : ∀ z, (z = true → False) → fix_MulDiv.j0 (k + 1) c (p / 18446744073709551616) (p % 18446744073709551616) z = some (p / c) := by
        intro z hz'
        simp only [fix_MulDiv.j0]
        rw [if_neg hz', if_neg (by omega), hk]
        rfl
      rw [if_neg hz, if_neg hc]
      split
      · exact e _ (by simp; omega)
      · exact e _ (by simp)
def fix_MulDivT.f (a0 : Int) (a1 : Int) (a2 : Int) : Option Int := if W64 a0 ∧ W64 a1 ∧ W64 a2 then some (uMulDiv a0 a1 a2) else none
theorem fix_MulDivT.calls (a0 : Int) (a1 : Int) (a2 : Int) (r : Int) (w : World) (h : fix_MulDivT.f a0 a1 a2 = some r) :
    Calls Try.prog 20 #[.int .u64 a0, .int .u64 a1, .int .u64 a2] w fun e w' => e = .returned (.int .u64 r) ∧ Drawn0 w w' := by
  unfold fix_MulDivT.f at h
  split at h
  · rename_i hw
    obtain ⟨k, hk⟩ := muldiv_tells a0 a1 a2 hw.1 hw.2.1 hw.2.2
    exact fix_MulDiv.calls k a0 a1 a2 r w (hk.trans h)
  · cases h
theorem fix_MulDivT.C (a b c : Int) (ha : W64 a) (hb : W64 b) (hc : W64 c) (w : World) : Calls Try.prog 20 #[.int .u64 a, .int .u64 b, .int .u64 c] w fun e w' => e = .returned (.int .u64 (uMulDiv a b c)) ∧ Drawn0 w w' :=
  fix_MulDivT.calls a b c _ w (by unfold fix_MulDivT.f; rw [if_pos ⟨ha, hb, hc⟩])
theorem fix_MulDivT.Q (a b c : Int) (ha : W64 a) (hb : W64 b) (hc : W64 c) (w : World) (n : Nat) : Calls Try.prog 20 #[.int .u64 a, .int .u64 b, .int .u64 c] (w.drewN n) fun e w' => e = .returned (.int .u64 (uMulDiv a b c)) ∧ ∃ m, w' = w.drewN m := quiet_c (fix_MulDivT.C a b c ha hb hc) n
def filt_Best.f (l0 : List (S90)) : Option (Int) := if (l0.length : Int) = 0 then (some 0) else (if 0 < (l0.length : Int) then (some ((rd_T90 l0 0).f1)) else (none))
set_option maxHeartbeats 8000000 in
set_option maxRecDepth 100000 in
theorem filt_Best.calls (A0 : Option Addr) (c0 : Nat) (l0 : List (S90)) (r : Int) (w : World) (hr0 : Kd.C k90 w A0 l0.length l0) (hc0 : l0.length ≤ c0) (h : filt_Best.f l0 = some r) :
    Calls Try.prog 45 #[.slice A0 l0.length c0] w fun e w' => e = .returned (.int .u64 r) ∧ Drawn0 w w' := by
  have HR0 := Aside0.mk hr0
  have HC0 := Aside0.mk hc0
  clear hr0 hc0
  have H : (if (l0.length : Int) = 0 then (some 0) else (if 0 < (l0.length : Int) then (some ((rd_T90 l0 0).f1)) else (none))) = some r := h
  clear h
  by_cases c2 : (l0.length : Int) = 0
  · rw [if_pos c2] at H
    have c2b0 : ((l0.length : Int) == 0) = true := beq_iff_eq.mpr c2
    have c2b1 : ((l0.length : Int) != 0) = false := bne_eq_false_iff_eq.mpr c2
    clear c2
    obtain rfl := Option.some.inj H
    go_enter Try.func45, Try.ntmps45
    go_wp2
    go_ret
    exact ⟨by first | rfl | (simp; done) | (simp [*]; done), by repeat (first | exact Drawn0.refl _ | apply Drawn0.step)⟩
  · rw [if_neg c2] at H
    have c2b0 : ((l0.length : Int) == 0) = false := beq_eq_false_iff_ne.mpr c2
    have c2b1 : ((l0.length : Int) != 0) = true := bne_iff_ne.mpr c2
    have c2b2 : ¬ (l0 = []) := fun h_ => c2 (by rw [h_]; rfl)
    by_cases c3 : 0 < (l0.length : Int)
    · rw [if_pos c3] at H
      have c3b0 : decide (0 < (l0.length : Int)) = true := decide_eq_true c3
      have c3b1 : decide (0 < l0.length) = true := decide_eq_true (by omega)
      clear c3
      obtain rfl := Option.some.inj H
      have p106 : 0 ≤ (0 : Int) := (by omega)
      have q106 : 0 < (l0.length : Int) := of_decide_eq_true (by first | (with_reducible assumption) | assumption)
      obtain ⟨ad106, e106, hx106_0, hx106_1⟩ := at_T90 HR0.out 0 p106 q106
      cases e106
      have qi106 : (0 < l0.length) = True := eq_true (by omega)
      (try rw [show ((0 : Int)).toNat = 0 from rfl] at hx106_0)
      (try rw [show 0 * 2 = 0 from rfl] at hx106_0)
      (try rw [Addr.add_zero'] at hx106_0)
      (try rw [show ((0 : Int)).toNat = 0 from rfl] at hx106_1)
      (try rw [show 0 * 2 = 0 from rfl] at hx106_1)
      (try rw [Addr.add_zero'] at hx106_1)
      replace p106 := eq_true p106
      replace q106 := eq_true q106
      go_enter Try.func45, Try.ntmps45
      go_wp2
      go_ret
      exact ⟨by first | rfl | (simp; done) | (simp [*]; done), by repeat (first | exact Drawn0.refl _ | apply Drawn0.step)⟩
    · rw [if_neg c3] at H
      exact absurd H (by simp)
def fix_Gain.f (a0 : Int) (a1 : Int) : Option (Int) := (fix_MulDivT.f a0 a1 256).bind fun t107 => (some t107)
set_option maxHeartbeats 8000000 in
set_option maxRecDepth 100000 in
theorem fix_Gain.calls (a0 : Int) (a1 : Int) (r : Int) (w : World) (h : fix_Gain.f a0 a1 = some r) :
    Calls Try.prog 46 #[.int .u64 a0, .int .u64 a1] w fun e w' => e = .returned (.int .u64 r) ∧ Drawn0 w w' := by
  have H : ((fix_MulDivT.f a0 a1 256).bind fun t107 => (some t107)) = some r := h
  clear h
  replace H := Option.bind_eq_some_iff.mp H
  obtain ⟨t107, A30, H⟩ := H
  replace H : (some t107) = some r := H
  have A3 := Aside0.mk A30
  clear A30
  obtain rfl := Option.some.inj H
  go_enter Try.func46, Try.ntmps46
  go_wp2_with (first | ((with_reducible refine gate_callee (f := 20) rfl ?_); refine goesL_ (some 7) rfl rfl Try.func20 (by kernel_rfl) rfl #[.int .u64 a0, .int .u64 a1, .int .u64 256] rfl (by (try simp only [List.map_toArray, List.map_cons, List.map_nil]); first | done | rfl | (simp only [List.length_drop, List.length_take]; rfl)) ?_; (with_reducible refine (fix_MulDivT.calls a0 a1 256 t107 _ A3.out).mono ?_); rintro e w' ⟨rfl, ⟨nd, rfl⟩⟩; refine ⟨_, rfl, ?_⟩))
  go_ret
  exact ⟨by first | rfl | (simp; done) | (simp [*]; done), by repeat (first | exact Drawn0.refl _ | apply Drawn0.step)⟩
def probe_Product.f (a0_0 : Int) (l0_1 : List (S90)) (a0_2 : Int) (a0_3 : Int) (a0_4 : Int) (a0_5 : Int) (a0_6 : Int) (a0_7 : Int) (a0_8 : Int) (a0_9 : Int) (a1 : Int) : Option (Int) := if a0_2 = 18446744073709551615 then (some 0) else ((filt_Best.f l0_1).bind fun t109 => ((fix_MulDivT.f t109 a0_2 1000).bind fun t110 => ((fix_Gain.f t110 a1).bind fun t111 => (some t111))))
set_option maxHeartbeats 8000000 in
set_option maxRecDepth 100000 in
theorem probe_Product.calls (a0_0 : Int) (A0_1 : Option Addr) (c0_1 : Nat) (l0_1 : List (S90)) (a0_2 : Int) (a0_3 : Int) (a0_4 : Int) (a0_5 : Int) (a0_6 : Int) (a0_7 : Int) (a0_8 : Int) (a0_9 : Int) (a1 : Int) (r : Int) (w : World) (hr0_1 : Kd.C k90 w A0_1 l0_1.length l0_1) (hc0_1 : l0_1.length ≤ c0_1) (h : probe_Product.f a0_0 l0_1 a0_2 a0_3 a0_4 a0_5 a0_6 a0_7 a0_8 a0_9 a1 = some r) :
    Calls Try.prog 54 #[.agg #[.int .i64 a0_0, .slice A0_1 l0_1.length c0_1, .int .u64 a0_2, .int .u64 a0_3, .int .u64 a0_4, .int .u64 a0_5, .int .u64 a0_6, .int .u64 a0_7, .int .u64 a0_8, .int .u64 a0_9], .int .u64 a1] w fun e w' => e = .returned (.int .u64 r) ∧ Below w.heap.size w w' := by
  have hu32 := Try.underlying32
  have HR0_1 := Aside0.mk hr0_1
  have HC0_1 := Aside0.mk hc0_1
  clear hr0_1 hc0_1
  have HB := Aside0.mk (Below.refl w.heap.size w)
  have H : (if a0_2 = 18446744073709551615 then (some 0) else ((filt_Best.f l0_1).bind fun t109 => ((fix_MulDivT.f t109 a0_2 1000).bind fun t110 => ((fix_Gain.f t110 a1).bind fun t111 => (some t111))))) = some r := h
  clear h
  by_cases c3 : a0_2 = 18446744073709551615
  · rw [if_pos c3] at H
    have c3b0 : (a0_2 == 18446744073709551615) = true := beq_iff_eq.mpr c3
    have c3b1 : (a0_2 != 18446744073709551615) = false := bne_eq_false_iff_eq.mpr c3
    clear c3
    obtain rfl := Option.some.inj H
    go_enter Try.func54, Try.ntmps54
    go_wp2_with (first | ((with_reducible refine gate_dst (N := 2) rfl ?_); refine box_event ?hg (N := 2) ?hd (cs := #[.int .i64 a0_0, .slice A0_1 l0_1.length c0_1, .int .u64 a0_2, .int .u64 a0_3, .int .u64 a0_4, .int .u64 a0_5, .int .u64 a0_6, .int .u64 a0_7, .int .u64 a0_8, .int .u64 a0_9]) (t := 32) ?hr ?_; (case hd => rfl); (case hg => rfl); (case hr => first | (go_simp; done) | (go_simp; rfl)); intro gb108 hg w4 hbox hb; have n0_ := Aside0.mk (below_step (by repeat (first | (with_reducible first | exact HB.out | apply below_alloc | apply pw_below_drewN | apply below_drew1) | exact HB.out)) hb); have n1_ := Aside0.mk (hbox); have n2_ := Aside0.mk ((by rw [hg]; exact (below_size (by repeat (first | (with_reducible first | exact HB.out | apply below_alloc | apply pw_below_drewN | apply below_drew1) | exact HB.out))) : w.heap.size ≤ gb108)); have n3_ := Aside0.mk ((by rw [hg]; exact (below_size (by repeat (first | (with_reducible first | exact HB.out | apply below_alloc | apply pw_below_drewN | apply below_drew1) | exact HB.out))) : w.heap.size ≤ gb108)); clear HB; have HB := n0_; have BK108 := n1_; have GW108 := n2_; have GE108 := n3_; clear n0_ n1_ n2_ n3_; clear hb hbox hg; have hcz5_0 : w4.cell? ⟨gb108, 0, none⟩ = some (.int .i64 a0_0) := (blk_cell BK108.out 0).trans rfl; have hcz5_1 : w4.cell? ⟨gb108, 1, none⟩ = some (.slice A0_1 l0_1.length c0_1) := (blk_cell BK108.out 1).trans rfl; have hcz5_2 : w4.cell? ⟨gb108, 2, none⟩ = some (.int .u64 a0_2) := (blk_cell BK108.out 2).trans rfl; have hcz5_3 : w4.cell? ⟨gb108, 3, none⟩ = some (.int .u64 a0_3) := (blk_cell BK108.out 3).trans rfl; have hcz5_4 : w4.cell? ⟨gb108, 4, none⟩ = some (.int .u64 a0_4) := (blk_cell BK108.out 4).trans rfl; have hcz5_5 : w4.cell? ⟨gb108, 5, none⟩ = some (.int .u64 a0_5) := (blk_cell BK108.out 5).trans rfl; have hcz5_6 : w4.cell? ⟨gb108, 6, none⟩ = some (.int .u64 a0_6) := (blk_cell BK108.out 6).trans rfl; have hcz5_7 : w4.cell? ⟨gb108, 7, none⟩ = some (.int .u64 a0_7) := (blk_cell BK108.out 7).trans rfl; have hcz5_8 : w4.cell? ⟨gb108, 8, none⟩ = some (.int .u64 a0_8) := (blk_cell BK108.out 8).trans rfl; have hcz5_9 : w4.cell? ⟨gb108, 9, none⟩ = some (.int .u64 a0_9) := (blk_cell BK108.out 9).trans rfl; have hfz5_0 := blk_frozen BK108.out 0; have hfz5_1 := blk_frozen BK108.out 1; have hfz5_2 := blk_frozen BK108.out 2; have hfz5_3 := blk_frozen BK108.out 3; have hfz5_4 := blk_frozen BK108.out 4; have hfz5_5 := blk_frozen BK108.out 5; have hfz5_6 := blk_frozen BK108.out 6; have hfz5_7 := blk_frozen BK108.out 7; have hfz5_8 := blk_frozen BK108.out 8; have hfz5_9 := blk_frozen BK108.out 9))
    repeat (go_quiet (first | ((with_reducible refine gate_dst (N := 2) rfl ?_); refine box_event ?hg (N := 2) ?hd (cs := #[.int .i64 a0_0, .slice A0_1 l0_1.length c0_1, .int .u64 a0_2, .int .u64 a0_3, .int .u64 a0_4, .int .u64 a0_5, .int .u64 a0_6, .int .u64 a0_7, .int .u64 a0_8, .int .u64 a0_9]) (t := 32) ?hr ?_; (case hd => rfl); (case hg => rfl); (case hr => first | (go_simp; done) | (go_simp; rfl)); intro gb108 hg w4 hbox hb; have n0_ := Aside0.mk (below_step (by repeat (first | (with_reducible first | exact HB.out | apply below_alloc | apply pw_below_drewN | apply below_drew1) | exact HB.out)) hb); have n1_ := Aside0.mk (hbox); have n2_ := Aside0.mk ((by rw [hg]; exact (below_size (by repeat (first | (with_reducible first | exact HB.out | apply below_alloc | apply pw_below_drewN | apply below_drew1) | exact HB.out))) : w.heap.size ≤ gb108)); have n3_ := Aside0.mk ((by rw [hg]; exact (below_size (by repeat (first | (with_reducible first | exact HB.out | apply below_alloc | apply pw_below_drewN | apply below_drew1) | exact HB.out))) : w.heap.size ≤ gb108)); clear HB; have HB := n0_; have BK108 := n1_; have GW108 := n2_; have GE108 := n3_; clear n0_ n1_ n2_ n3_; clear hb hbox hg; have hcz5_0 : w4.cell? ⟨gb108, 0, none⟩ = some (.int .i64 a0_0) := (blk_cell BK108.out 0).trans rfl; have hcz5_1 : w4.cell? ⟨gb108, 1, none⟩ = some (.slice A0_1 l0_1.length c0_1) := (blk_cell BK108.out 1).trans rfl; have hcz5_2 : w4.cell? ⟨gb108, 2, none⟩ = some (.int .u64 a0_2) := (blk_cell BK108.out 2).trans rfl; have hcz5_3 : w4.cell? ⟨gb108, 3, none⟩ = some (.int .u64 a0_3) := (blk_cell BK108.out 3).trans rfl; have hcz5_4 : w4.cell? ⟨gb108, 4, none⟩ = some (.int .u64 a0_4) := (blk_cell BK108.out 4).trans rfl; have hcz5_5 : w4.cell? ⟨gb108, 5, none⟩ = some (.int .u64 a0_5) := (blk_cell BK108.out 5).trans rfl; have hcz5_6 : w4.cell? ⟨gb108, 6, none⟩ = some (.int .u64 a0_6) := (blk_cell BK108.out 6).trans rfl; have hcz5_7 : w4.cell? ⟨gb108, 7, none⟩ = some (.int .u64 a0_7) := (blk_cell BK108.out 7).trans rfl; have hcz5_8 : w4.cell? ⟨gb108, 8, none⟩ = some (.int .u64 a0_8) := (blk_cell BK108.out 8).trans rfl; have hcz5_9 : w4.cell? ⟨gb108, 9, none⟩ = some (.int .u64 a0_9) := (blk_cell BK108.out 9).trans rfl; have hfz5_0 := blk_frozen BK108.out 0; have hfz5_1 := blk_frozen BK108.out 1; have hfz5_2 := blk_frozen BK108.out 2; have hfz5_3 := blk_frozen BK108.out 3; have hfz5_4 := blk_frozen BK108.out 4; have hfz5_5 := blk_frozen BK108.out 5; have hfz5_6 := blk_frozen BK108.out 6; have hfz5_7 := blk_frozen BK108.out 7; have hfz5_8 := blk_frozen BK108.out 8; have hfz5_9 := blk_frozen BK108.out 9)); try go_wp2_with (first | ((with_reducible refine gate_dst (N := 2) rfl ?_); refine box_event ?hg (N := 2) ?hd (cs := #[.int .i64 a0_0, .slice A0_1 l0_1.length c0_1, .int .u64 a0_2, .int .u64 a0_3, .int .u64 a0_4, .int .u64 a0_5, .int .u64 a0_6, .int .u64 a0_7, .int .u64 a0_8, .int .u64 a0_9]) (t := 32) ?hr ?_; (case hd => rfl); (case hg => rfl); (case hr => first | (go_simp; done) | (go_simp; rfl)); intro gb108 hg w4 hbox hb; have n0_ := Aside0.mk (below_step (by repeat (first | (with_reducible first | exact HB.out | apply below_alloc | apply pw_below_drewN | apply below_drew1) | exact HB.out)) hb); have n1_ := Aside0.mk (hbox); have n2_ := Aside0.mk ((by rw [hg]; exact (below_size (by repeat (first | (with_reducible first | exact HB.out | apply below_alloc | apply pw_below_drewN | apply below_drew1) | exact HB.out))) : w.heap.size ≤ gb108)); have n3_ := Aside0.mk ((by rw [hg]; exact (below_size (by repeat (first | (with_reducible first | exact HB.out | apply below_alloc | apply pw_below_drewN | apply below_drew1) | exact HB.out))) : w.heap.size ≤ gb108)); clear HB; have HB := n0_; have BK108 := n1_; have GW108 := n2_; have GE108 := n3_; clear n0_ n1_ n2_ n3_; clear hb hbox hg; have hcz5_0 : w4.cell? ⟨gb108, 0, none⟩ = some (.int .i64 a0_0) := (blk_cell BK108.out 0).trans rfl; have hcz5_1 : w4.cell? ⟨gb108, 1, none⟩ = some (.slice A0_1 l0_1.length c0_1) := (blk_cell BK108.out 1).trans rfl; have hcz5_2 : w4.cell? ⟨gb108, 2, none⟩ = some (.int .u64 a0_2) := (blk_cell BK108.out 2).trans rfl; have hcz5_3 : w4.cell? ⟨gb108, 3, none⟩ = some (.int .u64 a0_3) := (blk_cell BK108.out 3).trans rfl; have hcz5_4 : w4.cell? ⟨gb108, 4, none⟩ = some (.int .u64 a0_4) := (blk_cell BK108.out 4).trans rfl; have hcz5_5 : w4.cell? ⟨gb108, 5, none⟩ = some (.int .u64 a0_5) := (blk_cell BK108.out 5).trans rfl; have hcz5_6 : w4.cell? ⟨gb108, 6, none⟩ = some (.int .u64 a0_6) := (blk_cell BK108.out 6).trans rfl; have hcz5_7 : w4.cell? ⟨gb108, 7, none⟩ = some (.int .u64 a0_7) := (blk_cell BK108.out 7).trans rfl; have hcz5_8 : w4.cell? ⟨gb108, 8, none⟩ = some (.int .u64 a0_8) := (blk_cell BK108.out 8).trans rfl; have hcz5_9 : w4.cell? ⟨gb108, 9, none⟩ = some (.int .u64 a0_9) := (blk_cell BK108.out 9).trans rfl; have hfz5_0 := blk_frozen BK108.out 0; have hfz5_1 := blk_frozen BK108.out 1; have hfz5_2 := blk_frozen BK108.out 2; have hfz5_3 := blk_frozen BK108.out 3; have hfz5_4 := blk_frozen BK108.out 4; have hfz5_5 := blk_frozen BK108.out 5; have hfz5_6 := blk_frozen BK108.out 6; have hfz5_7 := blk_frozen BK108.out 7; have hfz5_8 := blk_frozen BK108.out 8; have hfz5_9 := blk_frozen BK108.out 9)))
    go_ret
    exact ⟨by first | rfl | (simp [errW_none, errW_some] <;> rfl) | (simp [*, errW_none, errW_some] <;> rfl), by repeat (first | (with_reducible first | exact HB.out | apply below_alloc | apply pw_below_drewN | apply below_drew1 | refine below_set ?_ GE108.out) | exact HB.out)⟩
  · rw [if_neg c3] at H
    have c3b0 : (a0_2 == 18446744073709551615) = false := beq_eq_false_iff_ne.mpr c3
    have c3b1 : (a0_2 != 18446744073709551615) = true := bne_iff_ne.mpr c3
    replace H := Option.bind_eq_some_iff.mp H
    obtain ⟨t109, A60, H⟩ := H
    replace H : ((fix_MulDivT.f t109 a0_2 1000).bind fun t110 => ((fix_Gain.f t110 a1).bind fun t111 => (some t111))) = some r := H
    have A6 := Aside0.mk A60
    clear A60
    replace H := Option.bind_eq_some_iff.mp H
    obtain ⟨t110, A70, H⟩ := H
    replace H : ((fix_Gain.f t110 a1).bind fun t111 => (some t111)) = some r := H
    have A7 := Aside0.mk A70
    clear A70
    replace H := Option.bind_eq_some_iff.mp H
    obtain ⟨t111, A80, H⟩ := H
    replace H : (some t111) = some r := H
    have A8 := Aside0.mk A80
    clear A80
    obtain rfl := Option.some.inj H
    go_enter Try.func54, Try.ntmps54
    go_wp2_with (first | ((with_reducible refine gate_dst (N := 2) rfl ?_); refine box_event ?hg (N := 2) ?hd (cs := #[.int .i64 a0_0, .slice A0_1 l0_1.length c0_1, .int .u64 a0_2, .int .u64 a0_3, .int .u64 a0_4, .int .u64 a0_5, .int .u64 a0_6, .int .u64 a0_7, .int .u64 a0_8, .int .u64 a0_9]) (t := 32) ?hr ?_; (case hd => rfl); (case hg => rfl); (case hr => first | (go_simp; done) | (go_simp; rfl)); intro gb108 hg w9 hbox hb; have n0_ := Aside0.mk (below_step (by repeat (first | (with_reducible first | exact HB.out | apply below_alloc | apply pw_below_drewN | apply below_drew1) | exact HB.out)) hb); have n1_ := Aside0.mk (hbox); have n2_ := Aside0.mk ((by rw [hg]; exact (below_size (by repeat (first | (with_reducible first | exact HB.out | apply below_alloc | apply pw_below_drewN | apply below_drew1) | exact HB.out))) : w.heap.size ≤ gb108)); have n3_ := Aside0.mk ((by rw [hg]; exact (below_size (by repeat (first | (with_reducible first | exact HB.out | apply below_alloc | apply pw_below_drewN | apply below_drew1) | exact HB.out))) : w.heap.size ≤ gb108)); clear HB; have HB := n0_; have BK108 := n1_; have GW108 := n2_; have GE108 := n3_; clear n0_ n1_ n2_ n3_; clear hb hbox hg; have hcz10_0 : w9.cell? ⟨gb108, 0, none⟩ = some (.int .i64 a0_0) := (blk_cell BK108.out 0).trans rfl; have hcz10_1 : w9.cell? ⟨gb108, 1, none⟩ = some (.slice A0_1 l0_1.length c0_1) := (blk_cell BK108.out 1).trans rfl; have hcz10_2 : w9.cell? ⟨gb108, 2, none⟩ = some (.int .u64 a0_2) := (blk_cell BK108.out 2).trans rfl; have hcz10_3 : w9.cell? ⟨gb108, 3, none⟩ = some (.int .u64 a0_3) := (blk_cell BK108.out 3).trans rfl; have hcz10_4 : w9.cell? ⟨gb108, 4, none⟩ = some (.int .u64 a0_4) := (blk_cell BK108.out 4).trans rfl; have hcz10_5 : w9.cell? ⟨gb108, 5, none⟩ = some (.int .u64 a0_5) := (blk_cell BK108.out 5).trans rfl; have hcz10_6 : w9.cell? ⟨gb108, 6, none⟩ = some (.int .u64 a0_6) := (blk_cell BK108.out 6).trans rfl; have hcz10_7 : w9.cell? ⟨gb108, 7, none⟩ = some (.int .u64 a0_7) := (blk_cell BK108.out 7).trans rfl; have hcz10_8 : w9.cell? ⟨gb108, 8, none⟩ = some (.int .u64 a0_8) := (blk_cell BK108.out 8).trans rfl; have hcz10_9 : w9.cell? ⟨gb108, 9, none⟩ = some (.int .u64 a0_9) := (blk_cell BK108.out 9).trans rfl; have hfz10_0 := blk_frozen BK108.out 0; have hfz10_1 := blk_frozen BK108.out 1; have hfz10_2 := blk_frozen BK108.out 2; have hfz10_3 := blk_frozen BK108.out 3; have hfz10_4 := blk_frozen BK108.out 4; have hfz10_5 := blk_frozen BK108.out 5; have hfz10_6 := blk_frozen BK108.out 6; have hfz10_7 := blk_frozen BK108.out 7; have hfz10_8 := blk_frozen BK108.out 8; have hfz10_9 := blk_frozen BK108.out 9) | (go_at_call 45; (with_reducible refine (filt_Best.calls _ _ l0_1 t109 _ ?side1 ?side2 A6.out).mono ?_); (case side1 => repeat (first | exact (Kd.C_below HR0_1.out HB.out) | (with_reducible refine Kd.C_alloc ?_ _) | (with_reducible refine Kd.C_drewN ?_ _) | (with_reducible refine Kd.C_drew ?_))); (case side2 => exact HC0_1.out); rintro e w' ⟨rfl, ⟨nd, rfl⟩⟩; (try first | exact ⟨rfl, _, World.drewN_drewN _ _ _⟩ | exact ⟨rfl, _, Eq.trans (World.drewN_drewN ..) (congrArg (World.drewN _) (Nat.add_assoc ..))⟩)) | (go_at_call 20; (with_reducible refine (fix_MulDivT.calls t109 a0_2 1000 t110 _ A7.out).mono ?_); rintro e w' ⟨rfl, ⟨nd, rfl⟩⟩; (try first | exact ⟨rfl, _, World.drewN_drewN _ _ _⟩ | exact ⟨rfl, _, Eq.trans (World.drewN_drewN ..) (congrArg (World.drewN _) (Nat.add_assoc ..))⟩)) | (go_at_call 46; (with_reducible refine (fix_Gain.calls t110 a1 t111 _ A8.out).mono ?_); rintro e w' ⟨rfl, ⟨nd, rfl⟩⟩; (try first | exact ⟨rfl, _, World.drewN_drewN _ _ _⟩ | exact ⟨rfl, _, Eq.trans (World.drewN_drewN ..) (congrArg (World.drewN _) (Nat.add_assoc ..))⟩)))
    repeat (go_quiet (first | ((with_reducible refine gate_dst (N := 2) rfl ?_); refine box_event ?hg (N := 2) ?hd (cs := #[.int .i64 a0_0, .slice A0_1 l0_1.length c0_1, .int .u64 a0_2, .int .u64 a0_3, .int .u64 a0_4, .int .u64 a0_5, .int .u64 a0_6, .int .u64 a0_7, .int .u64 a0_8, .int .u64 a0_9]) (t := 32) ?hr ?_; (case hd => rfl); (case hg => rfl); (case hr => first | (go_simp; done) | (go_simp; rfl)); intro gb108 hg w9 hbox hb; have n0_ := Aside0.mk (below_step (by repeat (first | (with_reducible first | exact HB.out | apply below_alloc | apply pw_below_drewN | apply below_drew1) | exact HB.out)) hb); have n1_ := Aside0.mk (hbox); have n2_ := Aside0.mk ((by rw [hg]; exact (below_size (by repeat (first | (with_reducible first | exact HB.out | apply below_alloc | apply pw_below_drewN | apply below_drew1) | exact HB.out))) : w.heap.size ≤ gb108)); have n3_ := Aside0.mk ((by rw [hg]; exact (below_size (by repeat (first | (with_reducible first | exact HB.out | apply below_alloc | apply pw_below_drewN | apply below_drew1) | exact HB.out))) : w.heap.size ≤ gb108)); clear HB; have HB := n0_; have BK108 := n1_; have GW108 := n2_; have GE108 := n3_; clear n0_ n1_ n2_ n3_; clear hb hbox hg; have hcz10_0 : w9.cell? ⟨gb108, 0, none⟩ = some (.int .i64 a0_0) := (blk_cell BK108.out 0).trans rfl; have hcz10_1 : w9.cell? ⟨gb108, 1, none⟩ = some (.slice A0_1 l0_1.length c0_1) := (blk_cell BK108.out 1).trans rfl; have hcz10_2 : w9.cell? ⟨gb108, 2, none⟩ = some (.int .u64 a0_2) := (blk_cell BK108.out 2).trans rfl; have hcz10_3 : w9.cell? ⟨gb108, 3, none⟩ = some (.int .u64 a0_3) := (blk_cell BK108.out 3).trans rfl; have hcz10_4 : w9.cell? ⟨gb108, 4, none⟩ = some (.int .u64 a0_4) := (blk_cell BK108.out 4).trans rfl; have hcz10_5 : w9.cell? ⟨gb108, 5, none⟩ = some (.int .u64 a0_5) := (blk_cell BK108.out 5).trans rfl; have hcz10_6 : w9.cell? ⟨gb108, 6, none⟩ = some (.int .u64 a0_6) := (blk_cell BK108.out 6).trans rfl; have hcz10_7 : w9.cell? ⟨gb108, 7, none⟩ = some (.int .u64 a0_7) := (blk_cell BK108.out 7).trans rfl; have hcz10_8 : w9.cell? ⟨gb108, 8, none⟩ = some (.int .u64 a0_8) := (blk_cell BK108.out 8).trans rfl; have hcz10_9 : w9.cell? ⟨gb108, 9, none⟩ = some (.int .u64 a0_9) := (blk_cell BK108.out 9).trans rfl; have hfz10_0 := blk_frozen BK108.out 0; have hfz10_1 := blk_frozen BK108.out 1; have hfz10_2 := blk_frozen BK108.out 2; have hfz10_3 := blk_frozen BK108.out 3; have hfz10_4 := blk_frozen BK108.out 4; have hfz10_5 := blk_frozen BK108.out 5; have hfz10_6 := blk_frozen BK108.out 6; have hfz10_7 := blk_frozen BK108.out 7; have hfz10_8 := blk_frozen BK108.out 8; have hfz10_9 := blk_frozen BK108.out 9) | (go_at_call 45; (with_reducible refine (filt_Best.calls _ _ l0_1 t109 _ ?side1 ?side2 A6.out).mono ?_); (case side1 => repeat (first | exact (Kd.C_below HR0_1.out HB.out) | (with_reducible refine Kd.C_alloc ?_ _) | (with_reducible refine Kd.C_drewN ?_ _) | (with_reducible refine Kd.C_drew ?_))); (case side2 => exact HC0_1.out); rintro e w' ⟨rfl, ⟨nd, rfl⟩⟩; (try first | exact ⟨rfl, _, World.drewN_drewN _ _ _⟩ | exact ⟨rfl, _, Eq.trans (World.drewN_drewN ..) (congrArg (World.drewN _) (Nat.add_assoc ..))⟩)) | (go_at_call 20; (with_reducible refine (fix_MulDivT.calls t109 a0_2 1000 t110 _ A7.out).mono ?_); rintro e w' ⟨rfl, ⟨nd, rfl⟩⟩; (try first | exact ⟨rfl, _, World.drewN_drewN _ _ _⟩ | exact ⟨rfl, _, Eq.trans (World.drewN_drewN ..) (congrArg (World.drewN _) (Nat.add_assoc ..))⟩)) | (go_at_call 46; (with_reducible refine (fix_Gain.calls t110 a1 t111 _ A8.out).mono ?_); rintro e w' ⟨rfl, ⟨nd, rfl⟩⟩; (try first | exact ⟨rfl, _, World.drewN_drewN _ _ _⟩ | exact ⟨rfl, _, Eq.trans (World.drewN_drewN ..) (congrArg (World.drewN _) (Nat.add_assoc ..))⟩))); try go_wp2_with (first | ((with_reducible refine gate_dst (N := 2) rfl ?_); refine box_event ?hg (N := 2) ?hd (cs := #[.int .i64 a0_0, .slice A0_1 l0_1.length c0_1, .int .u64 a0_2, .int .u64 a0_3, .int .u64 a0_4, .int .u64 a0_5, .int .u64 a0_6, .int .u64 a0_7, .int .u64 a0_8, .int .u64 a0_9]) (t := 32) ?hr ?_; (case hd => rfl); (case hg => rfl); (case hr => first | (go_simp; done) | (go_simp; rfl)); intro gb108 hg w9 hbox hb; have n0_ := Aside0.mk (below_step (by repeat (first | (with_reducible first | exact HB.out | apply below_alloc | apply pw_below_drewN | apply below_drew1) | exact HB.out)) hb); have n1_ := Aside0.mk (hbox); have n2_ := Aside0.mk ((by rw [hg]; exact (below_size (by repeat (first | (with_reducible first | exact HB.out | apply below_alloc | apply pw_below_drewN | apply below_drew1) | exact HB.out))) : w.heap.size ≤ gb108)); have n3_ := Aside0.mk ((by rw [hg]; exact (below_size (by repeat (first | (with_reducible first | exact HB.out | apply below_alloc | apply pw_below_drewN | apply below_drew1) | exact HB.out))) : w.heap.size ≤ gb108)); clear HB; have HB := n0_; have BK108 := n1_; have GW108 := n2_; have GE108 := n3_; clear n0_ n1_ n2_ n3_; clear hb hbox hg; have hcz10_0 : w9.cell? ⟨gb108, 0, none⟩ = some (.int .i64 a0_0) := (blk_cell BK108.out 0).trans rfl; have hcz10_1 : w9.cell? ⟨gb108, 1, none⟩ = some (.slice A0_1 l0_1.length c0_1) := (blk_cell BK108.out 1).trans rfl; have hcz10_2 : w9.cell? ⟨gb108, 2, none⟩ = some (.int .u64 a0_2) := (blk_cell BK108.out 2).trans rfl; have hcz10_3 : w9.cell? ⟨gb108, 3, none⟩ = some (.int .u64 a0_3) := (blk_cell BK108.out 3).trans rfl; have hcz10_4 : w9.cell? ⟨gb108, 4, none⟩ = some (.int .u64 a0_4) := (blk_cell BK108.out 4).trans rfl; have hcz10_5 : w9.cell? ⟨gb108, 5, none⟩ = some (.int .u64 a0_5) := (blk_cell BK108.out 5).trans rfl; have hcz10_6 : w9.cell? ⟨gb108, 6, none⟩ = some (.int .u64 a0_6) := (blk_cell BK108.out 6).trans rfl; have hcz10_7 : w9.cell? ⟨gb108, 7, none⟩ = some (.int .u64 a0_7) := (blk_cell BK108.out 7).trans rfl; have hcz10_8 : w9.cell? ⟨gb108, 8, none⟩ = some (.int .u64 a0_8) := (blk_cell BK108.out 8).trans rfl; have hcz10_9 : w9.cell? ⟨gb108, 9, none⟩ = some (.int .u64 a0_9) := (blk_cell BK108.out 9).trans rfl; have hfz10_0 := blk_frozen BK108.out 0; have hfz10_1 := blk_frozen BK108.out 1; have hfz10_2 := blk_frozen BK108.out 2; have hfz10_3 := blk_frozen BK108.out 3; have hfz10_4 := blk_frozen BK108.out 4; have hfz10_5 := blk_frozen BK108.out 5; have hfz10_6 := blk_frozen BK108.out 6; have hfz10_7 := blk_frozen BK108.out 7; have hfz10_8 := blk_frozen BK108.out 8; have hfz10_9 := blk_frozen BK108.out 9) | (go_at_call 45; (with_reducible refine (filt_Best.calls _ _ l0_1 t109 _ ?side1 ?side2 A6.out).mono ?_); (case side1 => repeat (first | exact (Kd.C_below HR0_1.out HB.out) | (with_reducible refine Kd.C_alloc ?_ _) | (with_reducible refine Kd.C_drewN ?_ _) | (with_reducible refine Kd.C_drew ?_))); (case side2 => exact HC0_1.out); rintro e w' ⟨rfl, ⟨nd, rfl⟩⟩; (try first | exact ⟨rfl, _, World.drewN_drewN _ _ _⟩ | exact ⟨rfl, _, Eq.trans (World.drewN_drewN ..) (congrArg (World.drewN _) (Nat.add_assoc ..))⟩)) | (go_at_call 20; (with_reducible refine (fix_MulDivT.calls t109 a0_2 1000 t110 _ A7.out).mono ?_); rintro e w' ⟨rfl, ⟨nd, rfl⟩⟩; (try first | exact ⟨rfl, _, World.drewN_drewN _ _ _⟩ | exact ⟨rfl, _, Eq.trans (World.drewN_drewN ..) (congrArg (World.drewN _) (Nat.add_assoc ..))⟩)) | (go_at_call 46; (with_reducible refine (fix_Gain.calls t110 a1 t111 _ A8.out).mono ?_); rintro e w' ⟨rfl, ⟨nd, rfl⟩⟩; (try first | exact ⟨rfl, _, World.drewN_drewN _ _ _⟩ | exact ⟨rfl, _, Eq.trans (World.drewN_drewN ..) (congrArg (World.drewN _) (Nat.add_assoc ..))⟩))))
    go_ret
    exact ⟨by first | rfl | (simp [errW_none, errW_some] <;> rfl) | (simp [*, errW_none, errW_some] <;> rfl), by repeat (first | (with_reducible first | exact HB.out | apply below_alloc | apply pw_below_drewN | apply below_drew1 | refine below_set ?_ GE108.out) | exact HB.out)⟩
theorem fix_Add.add64 (x y : Int) (hx : 0 ≤ x) (hy : 0 ≤ y) (w : World) : (callFunc 55 #[.int .u64 x, .int .u64 y, .int .u64 0]).run Try.prog w =
    .ok (.value (.tuple #[.int .u64 ((x + y) % 18446744073709551616), .int .u64 ((x + y) / 18446744073709551616)])) w := by
  rw [run_callFunc_extern Try.func55 (by kernel_rfl) (by kernel_rfl) (by kernel_rfl) (e := Go.add64Entry) (by kernel_rfl), Go.run_add64 x y 0 hx hy (by omega) (by omega)]
  simp only [Result.andThen, Int.add_zero]
def fix_Add.f (a0 : Int) (a1 : Int) : Option Int := if W64 a0 ∧ W64 a1 then some (uAdd a0 a1) else none
set_option maxHeartbeats 1000000 in
theorem fix_Add.calls (a0 : Int) (a1 : Int) (r : Int) (w : World) (h : fix_Add.f a0 a1 = some r) :
    Calls Try.prog 25 #[.int .u64 a0, .int .u64 a1] w fun e w' => e = .returned (.int .u64 r) ∧ Drawn0 w w' := by
  unfold fix_Add.f at h
  split at h
  · rename_i hw
    obtain ⟨⟨h0, h1⟩, h2, h3⟩ := hw
    have hr := Lib.hid (Option.some.inj h)
    clear h
    by_cases hc : a0 + a1 ≤ 18446744073709551615
    · have hd : decide (0 < (a0 + a1) / 18446744073709551616) = false := by simp; omega
      go_enter Try.func25, Try.ntmps25
      go_wp2_with (simp only [fix_Add.add64 a0 a1 h0 h2])
      go_ret
      refine ⟨?_, Drawn0.refl _⟩
      exact ret_int (by rw [← hr.out]; unfold uAdd; rw [if_pos hc]; omega)
    · have hd : decide (0 < (a0 + a1) / 18446744073709551616) = true := by simp; omega
      go_enter Try.func25, Try.ntmps25
      go_wp2_with (simp only [fix_Add.add64 a0 a1 h0 h2])
      go_ret
      refine ⟨?_, Drawn0.refl _⟩
      exact ret_int (by rw [← hr.out]; unfold uAdd; rw [if_neg (by omega)])
  · cases h
theorem fix_Add.C (a b : Int) (ha : W64 a) (hb : W64 b) (w : World) : Calls Try.prog 25 #[.int .u64 a, .int .u64 b] w fun e w' => e = .returned (.int .u64 (uAdd a b)) ∧ Drawn0 w w' :=
  fix_Add.calls a b _ w (by unfold fix_Add.f; rw [if_pos ⟨ha, hb⟩])
theorem fix_Add.Q (a b : Int) (ha : W64 a) (hb : W64 b) (w : World) (n : Nat) : Calls Try.prog 25 #[.int .u64 a, .int .u64 b] (w.drewN n) fun e w' => e = .returned (.int .u64 (uAdd a b)) ∧ ∃ m, w' = w.drewN m := quiet_c (fix_Add.C a b ha hb) n
theorem reno_Held.C (a : Int) (w : World) : Calls Try.prog 24 #[.int .u64 a] w fun e w' => e = .returned (.int .u64 (uHeld a)) ∧ Drawn0 w w' := by
  unfold uHeld
  by_cases h : a < 2400
  · rw [if_pos h]
    go_enter Try.func24, Try.ntmps24
    go_wp2
    go_ret
    exact ⟨ret_int (by first | rfl | omega), Drawn0.refl _⟩
  · rw [if_neg h]
    by_cases h' : 16777216 < a
    · rw [if_pos h']
      go_enter Try.func24, Try.ntmps24
      go_wp2
      go_ret
      exact ⟨ret_int (by first | rfl | omega), Drawn0.refl _⟩
    · rw [if_neg h']
      go_enter Try.func24, Try.ntmps24
      go_wp2
      go_ret
      exact ⟨ret_int (by first | rfl | omega), Drawn0.refl _⟩
theorem reno_Held.Q (a : Int) (w : World) (n : Nat) : Calls Try.prog 24 #[.int .u64 a] (w.drewN n) fun e w' => e = .returned (.int .u64 (uHeld a)) ∧ ∃ m, w' = w.drewN m := quiet_c (reno_Held.C a) n
def reno_Held.f (a0 : Int) : Option Int := some (uHeld a0)
theorem reno_Held.calls (a0 : Int) (r : Int) (w : World) (h : reno_Held.f a0 = some r) :
    Calls Try.prog 24 #[.int .u64 a0] w fun e w' => e = .returned (.int .u64 r) ∧ Drawn0 w w' := by
  obtain rfl := Option.some.inj h
  exact reno_Held.C a0 w
theorem wf64 {a : Int} (h : (Lit.int .u64 a).wf = true) : W64 a := by
 have e1 : IntKind.u64.min = 0 := rfl
 have e2 : IntKind.u64.max = 18446744073709551615 := rfl
 simp [Lit.wf, e1, e2] at h
 omega
theorem wrap64_is {x : Int} (h0 : 0 ≤ x) (h1 : x < 9223372036854775808) : wrap64 x = x := by unfold wrap64; omega
theorem add_eq {a b : Int} (ha : W64 a) (hb : W64 b) : fix_Add.f a b = some (uAdd a b) := by unfold fix_Add.f; rw [if_pos ⟨ha, hb⟩]
theorem muldiv_eq {a b c : Int} (ha : W64 a) (hb : W64 b) (hc : W64 c) : fix_MulDivT.f a b c = some (uMulDiv a b c) := by unfold fix_MulDivT.f; rw [if_pos ⟨ha, hb, hc⟩]
theorem held_eq {a : Int} : reno_Held.f a = some (uHeld a) := rfl
def uGain (a b : Int) : Int := uMulDiv a b 256
theorem gain_eq {a b : Int} (ha : W64 a) (hb : W64 b) : fix_Gain.f a b = some (uGain a b) := by unfold fix_Gain.f; rw [muldiv_eq ha hb (by omega)]; rfl
def SWf (l : List S90) : Prop := ∀ x ∈ l, W64 x.f0 ∧ W64 x.f1
def uBest : List S90 → Int
 | [] => 0
 | x :: _ => x.f1
theorem best_eq (l : List S90) : filt_Best.f l = some (uBest l) := by
 cases l with
 | nil => rfl
 | cons x t =>
  unfold filt_Best.f
  have hl : ((x :: t).length : Int) = t.length + 1 := by simp
  rw [if_neg (by omega), if_pos (by omega)]
  rfl
theorem best_w {l : List S90} (h : SWf l) : W64 (uBest l) := by
 cases l with
 | nil => exact ⟨by decide, by decide⟩
 | cons x t => exact (h x (List.mem_cons_self ..)).2
def uProd (l : List S90) (mn parts : Int) : Int := if mn = 18446744073709551615 then 0 else uGain (uMulDiv (uBest l) mn 1000) parts
theorem prod_eq {a0 a2 a3 a4 a5 a6 a7 a8 a9 parts : Int} {l : List S90} (hl : SWf l) (hm : W64 a2) (hp : W64 parts) : probe_Product.f a0 l a2 a3 a4 a5 a6 a7 a8 a9 parts = some (uProd l a2 parts) := by
 unfold probe_Product.f uProd
 by_cases h : a2 = 18446744073709551615
 ·rw [if_pos h, if_pos h]
 ·rw [if_neg h, if_neg h, best_eq]
  simp only [Option.bind_some]
  rw [muldiv_eq (best_w hl) hm (by omega)]
  simp only [Option.bind_some]
  rw [gain_eq (uMulDiv_w (best_w hl) hm (by omega)) hp]
  rfl
theorem SWf_nil : SWf [] := fun x hx => by cases hx
def fix_Mul.f (a0 : Int) (a1 : Int) : Option (Int) := (bits_Mul64.f a0 a1).bind fun bt203 => (if bt203.1 > 0 then (some 18446744073709551615) else (some bt203.2))
set_option maxHeartbeats 8000000 in
set_option maxRecDepth 100000 in
theorem fix_Mul.calls (a0 : Int) (a1 : Int) (r : Int) (w : World) (h : fix_Mul.f a0 a1 = some r) :
    Calls Try.prog 26 #[.int .u64 a0, .int .u64 a1] w fun e w' => e = .returned (.int .u64 r) ∧ Drawn0 w w' := by
  have H : ((bits_Mul64.f a0 a1).bind fun bt203 => (if bt203.1 > 0 then (some 18446744073709551615) else (some bt203.2))) = some r := h
  clear h
  replace H := Option.bind_eq_some_iff.mp H
  obtain ⟨⟨t203, t204⟩, A30, H⟩ := H
  replace H : (if t203 > 0 then (some 18446744073709551615) else (some t204)) = some r := H
  have A3 := Aside0.mk A30
  clear A30
  by_cases c4 : t203 > 0
  · rw [if_pos c4] at H
    have c4b0 : decide (0 < t203) = true := decide_eq_true c4
    clear c4
    obtain rfl := Option.some.inj H
    go_enter Try.func26, Try.ntmps26
    go_wp2_with (first | ((with_reducible refine gate_callee (f := 47) rfl ?_); refine goesL_ (some 10) rfl rfl Try.func47 (by kernel_rfl) rfl #[.int .u64 a0, .int .u64 a1] rfl (by (try simp only [List.map_toArray, List.map_cons, List.map_nil]); first | done | rfl | (simp only [List.length_drop, List.length_take]; rfl)) ?_; (with_reducible refine (bits_Mul64.calls a0 a1 t203 t204 _ A3.out).mono ?_); rintro e w' ⟨rfl, ⟨nd, rfl⟩⟩; refine ⟨_, rfl, ?_⟩))
    go_ret
    exact ⟨by first | rfl | (simp; done) | (simp [*]; done), by repeat (first | exact Drawn0.refl _ | apply Drawn0.step)⟩
  · rw [if_neg c4] at H
    have c4b0 : decide (0 < t203) = false := decide_eq_false c4
    clear c4
    obtain rfl := Option.some.inj H
    go_enter Try.func26, Try.ntmps26
    go_wp2_with (first | ((with_reducible refine gate_callee (f := 47) rfl ?_); refine goesL_ (some 10) rfl rfl Try.func47 (by kernel_rfl) rfl #[.int .u64 a0, .int .u64 a1] rfl (by (try simp only [List.map_toArray, List.map_cons, List.map_nil]); first | done | rfl | (simp only [List.length_drop, List.length_take]; rfl)) ?_; (with_reducible refine (bits_Mul64.calls a0 a1 t203 t204 _ A3.out).mono ?_); rintro e w' ⟨rfl, ⟨nd, rfl⟩⟩; refine ⟨_, rfl, ?_⟩))
    go_ret
    exact ⟨by first | rfl | (simp; done) | (simp [*]; done), by repeat (first | exact Drawn0.refl _ | apply Drawn0.step)⟩
def fix_MulT.f (a0 : Int) (a1 : Int) : Option Int := if W64 a0 ∧ W64 a1 then some (uMul a0 a1) else none
theorem fix_MulT.calls (a0 : Int) (a1 : Int) (r : Int) (w : World) (h : fix_MulT.f a0 a1 = some r) :
    Calls Try.prog 26 #[.int .u64 a0, .int .u64 a1] w fun e w' => e = .returned (.int .u64 r) ∧ Drawn0 w w' := by
  refine fix_Mul.calls a0 a1 r w (Eq.trans ?_ h)
  unfold fix_MulT.f at h ⊢
  split at h
  · rename_i hw
    rw [if_pos hw]
    unfold fix_Mul.f bits_Mul64.f uMul
    rw [if_pos hw]
    simp only [Option.bind_some]
    have hp := Int.mul_nonneg hw.1.1 hw.2.1
    generalize a0 * a1 = p at *
    split <;> split <;> first | rfl | (exfalso; omega) | (congr 1; omega)
  · cases h
theorem fix_MulT.C (a b : Int) (ha : W64 a) (hb : W64 b) (w : World) : Calls Try.prog 26 #[.int .u64 a, .int .u64 b] w fun e w' => e = .returned (.int .u64 (uMul a b)) ∧ Drawn0 w w' :=
  fix_MulT.calls a b _ w (by unfold fix_MulT.f; rw [if_pos ⟨ha, hb⟩])
theorem fix_MulT.Q (a b : Int) (ha : W64 a) (hb : W64 b) (w : World) (n : Nat) : Calls Try.prog 26 #[.int .u64 a, .int .u64 b] (w.drewN n) fun e w' => e = .returned (.int .u64 (uMul a b)) ∧ ∃ m, w' = w.drewN m := quiet_c (fix_MulT.C a b ha hb) n
set_option maxHeartbeats 400000 in
theorem grownC (by_ c0 : Int) (hb : W64 by_) (hc0 : W64 c0) (g : Nat) (w : World) (hc : w.cell? ⟨g, 0, none⟩ = some (.int .u64 c0)) :
    Calls Try.prog 23 #[.int .u64 by_, .pointer (some ⟨g, 0, none⟩)] w fun e w' => e = .returned (.int .u64 (uHeld (uAdd c0 by_))) ∧ Drawn0 w w' := by
  go_enter Try.func23, Try.ntmps23
  go_wp2_with (first | ((go_at_call 25); (with_reducible refine (fix_Add.C _ _ hc0 hb _).mono ?_); rintro e w' ⟨rfl, ⟨nd, rfl⟩⟩) | ((go_at_call 24); (with_reducible refine (reno_Held.C _ _).mono ?_); rintro e w' ⟨rfl, ⟨nd, rfl⟩⟩))
  go_ret
  exact ⟨rfl, ⟨_, rfl⟩⟩
set_option maxHeartbeats 4000000 in
theorem ack_lim (c0 c1 c2 c3 bytes at_ : Int) (w : World) :
    Calls Try.prog 11 #[.agg #[.int .u64 c0, .int .u64 c1, .int .u64 c2, .int .u64 c3], .int .u64 bytes, .int .u64 at_, .bool true] w fun e w' => e = .returned (.agg #[.int .u64 c0, .int .u64 c1, .int .u64 c2, .int .u64 c3]) ∧ Below w.heap.size w w' := by
  have hmf : ∀ (fn : Fn) (first cap : Array Value) (w : World), (Instr.makeFunc fn first cap).run Try.prog w = .ok (.func fn first cap) w := fun _ _ _ _ => rfl
  have hu := Try.underlying25
  go_enter Try.func11, Try.ntmps11
  go_wp2
  refine bodyPost_ret (v := .agg #[.int .u64 c0, .int .u64 c1, .int .u64 c2, .int .u64 c3]) (by simp [results, Try.results11, go_sem]) rfl ⟨rfl, ?_⟩
  exact below_alloc (below_alloc (Below.refl _ _) _) _
set_option maxHeartbeats 4000000 in
theorem ack_early (c0 c1 c2 c3 bytes at_ : Int) (hlt : at_ < c2) (w : World) :
    Calls Try.prog 11 #[.agg #[.int .u64 c0, .int .u64 c1, .int .u64 c2, .int .u64 c3], .int .u64 bytes, .int .u64 at_, .bool false] w fun e w' => e = .returned (.agg #[.int .u64 c0, .int .u64 c1, .int .u64 c2, .int .u64 c3]) ∧ Below w.heap.size w w' := by
  have hmf : ∀ (fn : Fn) (first cap : Array Value) (w : World), (Instr.makeFunc fn first cap).run Try.prog w = .ok (.func fn first cap) w := fun _ _ _ _ => rfl
  have hu := Try.underlying25
  go_enter Try.func11, Try.ntmps11
  go_wp2
  refine bodyPost_ret (v := .agg #[.int .u64 c0, .int .u64 c1, .int .u64 c2, .int .u64 c3]) (by simp [results, Try.results11, go_sem]) rfl ⟨rfl, ?_⟩
  exact below_alloc (below_alloc (Below.refl _ _) _) _
set_option maxHeartbeats 4000000 in
theorem ack_slow (c0 c1 c2 c3 bytes at_ : Int) (h0 : W64 c0) (hb : W64 bytes) (hge : c2 ≤ at_) (hs : c0 < c1) (w : World) :
    Calls Try.prog 11 #[.agg #[.int .u64 c0, .int .u64 c1, .int .u64 c2, .int .u64 c3], .int .u64 bytes, .int .u64 at_, .bool false] w fun e w' => e = .returned (.agg #[.int .u64 (uHeld (uAdd c0 bytes)), .int .u64 c1, .int .u64 c2, .int .u64 c3]) ∧ Below w.heap.size w w' := by
  have hmf : ∀ (fn : Fn) (first cap : Array Value) (w : World), (Instr.makeFunc fn first cap).run Try.prog w = .ok (.func fn first cap) w := fun _ _ _ _ => rfl
  have hu := Try.underlying25
  have hge' : decide (at_ < c2) = false := decide_eq_false (by omega)
  go_enter Try.func11, Try.ntmps11
  go_wp2_with (go_at_call 23; (with_reducible refine (grownC bytes c0 hb h0 w.heap.size _ (by go_simp)).mono ?_); rintro e w' ⟨rfl, ⟨nd, rfl⟩⟩)
  refine bodyPost_ret (v := .agg #[.int .u64 (uHeld (uAdd c0 bytes)), .int .u64 c1, .int .u64 c2, .int .u64 c3]) (by simp [results, Try.results11, go_sem]) rfl ⟨rfl, ?_⟩
  repeat (first | (with_reducible exact Below.refl _ _) | (with_reducible refine below_set ?_ (by omega)) | (with_reducible apply pw_below_drewN) | (with_reducible apply below_alloc))
set_option maxRecDepth 100000 in
set_option maxHeartbeats 4000000 in
theorem ack_fast (c0 c1 c2 c3 bytes at_ : Int) (h0 : W64 c0) (h3 : W64 c3) (hb : W64 bytes) (hge : c2 ≤ at_) (hs : c1 ≤ c0) (w : World) :
    Calls Try.prog 11 #[.agg #[.int .u64 c0, .int .u64 c1, .int .u64 c2, .int .u64 c3], .int .u64 bytes, .int .u64 at_, .bool false] w fun e w' => e = .returned (.agg #[.int .u64 (uHeld (uAdd c0 (uAdd c3 (uMul bytes 1200) / max c0 1))), .int .u64 c1, .int .u64 c2, .int .u64 (uAdd c3 (uMul bytes 1200) % max c0 1)]) ∧ Below w.heap.size w w' := by
  have hmf : ∀ (fn : Fn) (first cap : Array Value) (w : World), (Instr.makeFunc fn first cap).run Try.prog w = .ok (.func fn first cap) w := fun _ _ _ _ => rfl
  have hu := Try.underlying25
  have hge' : decide (at_ < c2) = false := decide_eq_false (by omega)
  have hs' : decide (c0 < c1) = false := decide_eq_false (by omega)
  have m1 := uMul_w hb (show W64 1200 by omega)
  have hr := uAdd_w h3 m1
  have hm1 : 1 ≤ max c0 1 := by omega
  have hq : W64 (uAdd c3 (uMul bytes 1200) / max c0 1) := ⟨Int.ediv_nonneg hr.1 (by omega), Int.le_trans (Int.ediv_le_self _ hr.1) hr.2⟩
  have hw1 : IntKind.u64.wrap ((uAdd c3 (uMul bytes 1200)).tdiv (max c0 1)) = uAdd c3 (uMul bytes 1200) / max c0 1 := by rw [Int.tdiv_eq_ediv_of_nonneg hr.1, w64 hq]
  have hw2 : (uAdd c3 (uMul bytes 1200)).tmod (max c0 1) = uAdd c3 (uMul bytes 1200) % max c0 1 := Int.tmod_eq_emod_of_nonneg hr.1
  have hr' : 0 ≤ uAdd c3 (uMul bytes 1200) := hr.1
  have hr'' : uAdd c3 (uMul bytes 1200) ≤ 18446744073709551615 := hr.2
  go_enter Try.func11, Try.ntmps11
  go_wp2
  go_quiet (first | (go_at_call 26; with_reducible exact fix_MulT.Q _ _ hb (show W64 1200 by omega) _ _) | (go_at_call 25; with_reducible exact fix_Add.Q _ _ h3 m1 _ _))
  go_wp2
  go_region_with (go_at_call 23; (with_reducible refine (grownC _ c0 hq h0 w.heap.size _ (by go_simp)).mono ?_); rintro e w' ⟨rfl, ⟨nd, rfl⟩⟩)
  all_goals
    clear hw1 hw2
    go_wp2
    refine bodyPost_ret (v := .agg #[.int .u64 (uHeld (uAdd c0 (uAdd c3 (uMul bytes 1200) / max c0 1))), .int .u64 c1, .int .u64 c2, .int .u64 (uAdd c3 (uMul bytes 1200) % max c0 1)]) (by simp [results, Try.results11, go_sem]) rfl ⟨rfl, ?_⟩
    repeat (first | (with_reducible exact Below.refl _ _) | (with_reducible refine below_set ?_ (by omega)) | (with_reducible apply pw_below_drewN) | (with_reducible apply below_alloc) | (with_reducible apply below_drew))
def reno_Ack.f (a0_0 : Int) (a0_1 : Int) (a0_2 : Int) (a0_3 : Int) (a1 : Int) (a2 : Int) (a3 : Bool) : Option (Int × Int × Int × Int) := if W64 a0_0 ∧ W64 a0_3 ∧ W64 a1 then some (uRenoAck a0_0 a0_1 a0_2 a0_3 a1 a2 a3) else none
theorem reno_Ack.calls (a0_0 : Int) (a0_1 : Int) (a0_2 : Int) (a0_3 : Int) (a1 : Int) (a2 : Int) (a3 : Bool) (r1 : Int) (r2 : Int) (r3 : Int) (r4 : Int) (w : World) (h : reno_Ack.f a0_0 a0_1 a0_2 a0_3 a1 a2 a3 = some (r1, r2, r3, r4)) :
    Calls Try.prog 11 #[.agg #[.int .u64 a0_0, .int .u64 a0_1, .int .u64 a0_2, .int .u64 a0_3], .int .u64 a1, .int .u64 a2, .bool a3] w fun e w' => e = .returned (.agg #[.int .u64 r1, .int .u64 r2, .int .u64 r3, .int .u64 r4]) ∧ Below w.heap.size w w' := by
  unfold reno_Ack.f at h
  split at h
  · rename_i hw
    have h := Option.some.inj h
    cases a3 with
    | true =>
      unfold uRenoAck at h
      rw [if_pos (.inl rfl)] at h
      cases h
      exact ack_lim _ _ _ _ _ _ w
    | false =>
      unfold uRenoAck at h
      by_cases h1 : a2 < a0_2
      · rw [if_pos (.inr h1)] at h
        cases h
        exact ack_early _ _ _ _ _ _ h1 w
      · rw [if_neg (by simp; omega)] at h
        by_cases h2 : a0_0 < a0_1
        · rw [if_pos h2] at h
          cases h
          exact ack_slow _ _ _ _ _ _ hw.1 hw.2.2 (by omega) h2 w
        · rw [if_neg h2] at h
          cases h
          exact ack_fast _ _ _ _ _ _ hw.1 hw.2.1 hw.2.2 (by omega) (by omega) w
  · cases h
end Go.Proofs.Ytpgffmnbdggpnaa.PCv
end
section
namespace Go.Proofs.Ytpgffmnbdggpnaa.PCv
open Go.RowKit Go.Proofs.YtpgffmnbdggpnaaW.PrintWords Go.Proofs.YtpgffmnbdggpnaaW.PrintLast Go.Proofs.YtpgffmnbdggpnaaW.PrintMore
set_option linter.unusedVariables false
set_option linter.unusedSimpArgs false
set_option maxRecDepth 100000
set_option maxHeartbeats 8000000
def uR0 (c0 c1 c2 c3 by_ at_ : Int) (lim : Bool) : Int := (uRenoAck c0 c1 c2 c3 by_ at_ lim).1
def uR3 (c0 c1 c2 c3 by_ at_ : Int) (lim : Bool) : Int := (uRenoAck c0 c1 c2 c3 by_ at_ lim).2.2.2
theorem uR_eq (c0 c1 c2 c3 by_ at_ : Int) (lim : Bool) : uRenoAck c0 c1 c2 c3 by_ at_ lim = (uR0 c0 c1 c2 c3 by_ at_ lim, c1, c2, uR3 c0 c1 c2 c3 by_ at_ lim) := by
 unfold uR0 uR3 uRenoAck
 split
 ·rfl
 ·split <;> rfl
theorem uR0_w {c0 c1 c2 c3 by_ at_ : Int} {lim : Bool} (h : W64 c0) : W64 (uR0 c0 c1 c2 c3 by_ at_ lim) := by
 unfold uR0 uRenoAck
 split
 ·exact h
 ·split <;> exact uHeld_w _
theorem uR3_w {c0 c1 c2 c3 by_ at_ : Int} {lim : Bool} (h0 : W64 c0) (h3 : W64 c3) (hb : W64 by_) : W64 (uR3 c0 c1 c2 c3 by_ at_ lim) := by
 have hr := uAdd_w h3 (uMul_w hb (show W64 1200 by omega))
 have hm : 1 ≤ max c0 1 := by omega
 unfold uR3 uRenoAck
 split
 ·exact h3
 ·split
  ·exact h3
  ·have e1 := Int.emod_nonneg (uAdd c3 (uMul by_ 1200)) (show max c0 1 ≠ 0 by omega)
   have e2 := Int.emod_lt_of_pos (uAdd c3 (uMul by_ 1200)) (show 0 < max c0 1 by omega)
   have e3 : max c0 1 ≤ 18446744073709551615 := by omega
   show W64 (uAdd c3 (uMul by_ 1200) % max c0 1)
   omega
theorem renoC (c0 c1 c2 c3 by_ at_ : Int) (lim : Bool) (h0 : W64 c0) (h3 : W64 c3) (hb : W64 by_) (w : World) :
  Calls Try.prog 11 #[.agg #[.int .u64 c0, .int .u64 c1, .int .u64 c2, .int .u64 c3], .int .u64 by_, .int .u64 at_, .bool lim] w fun e w' => e = .returned (.agg #[.int .u64 (uR0 c0 c1 c2 c3 by_ at_ lim), .int .u64 c1, .int .u64 c2, .int .u64 (uR3 c0 c1 c2 c3 by_ at_ lim)]) ∧ Below w.heap.size w w' :=
 reno_Ack.calls c0 c1 c2 c3 by_ at_ lim _ _ _ _ w (by unfold reno_Ack.f; rw [if_pos ⟨h0, h3, hb⟩, uR_eq])
theorem subdiv_w {x : Int} (h : W64 x) (n : Int) (hn : 1 ≤ n) : W64 (x - x / n) := by
 have h1 := Int.ediv_nonneg h.1 (show (0 : Int) ≤ n by omega)
 have h2 := Int.ediv_le_self n h.1
 omega
end Go.Proofs.Ytpgffmnbdggpnaa.PCv
end
section
namespace Go.Proofs.Ytpgffmnbdggpnaa.PCv
open Go.RowKit Go.Proofs.YtpgffmnbdggpnaaW.PrintWords Go.Proofs.YtpgffmnbdggpnaaW.PrintLast Go.Proofs.YtpgffmnbdggpnaaW.PrintMore
set_option linter.unusedVariables false
set_option linter.unusedSimpArgs false
theorem fix_Cbrt.mulT (a b : Int) (h1 : W64 a) (h2 : W64 b) (w : World) (n : Nat) : Calls Try.prog 26 #[.int .u64 a, .int .u64 b] (w.drewN n) fun e w' => e = .returned (.int .u64 (uMul a b)) ∧ ∃ m, w' = w.drewN m :=
  (fix_MulT.calls a b (uMul a b) (w.drewN n) (by unfold fix_MulT.f; rw [if_pos ⟨h1, h2⟩])).mono fun e w' ⟨he, ⟨m, hm⟩⟩ => ⟨he, n + m, by rw [hm, World.drewN_drewN]⟩
def cbFits (a x : Int) : Bool := decide (uMul (uMul x x) x ≤ a) && decide (x ≤ 2642245)
set_option maxHeartbeats 1000000 in
theorem cb_fits (x a : Int) (hx : W64 x) (b : Nat) (w : World) (hc : w.cell? ⟨b, 0, none⟩ = some (.int .u64 a)) :
    Calls Try.prog 56 #[.int .u64 x, .pointer (some ⟨b, 0, none⟩)] w fun e w' => e = .returned (.bool (cbFits a x)) ∧ Drawn0 w w' := by
  have h1 := uMul_w hx hx
  by_cases h : uMul (uMul x x) x ≤ a
  · have hd : decide (uMul (uMul x x) x ≤ a) = true := decide_eq_true h
    go_enter Try.func56, Try.ntmps56
    go_wp2_with (fail)
    go_quiet (first | ((go_at_call 26; with_reducible exact fix_Cbrt.mulT _ _ hx hx _ _)) | ((go_at_call 26; with_reducible exact fix_Cbrt.mulT _ _ h1 hx _ _)))
    go_wp2
    go_ret
    exact ⟨ret_bool (by unfold cbFits; rw [hd]; simp), ⟨_, rfl⟩⟩
  · have hd : decide (uMul (uMul x x) x ≤ a) = false := decide_eq_false h
    go_enter Try.func56, Try.ntmps56
    go_wp2_with (fail)
    go_quiet (first | ((go_at_call 26; with_reducible exact fix_Cbrt.mulT _ _ hx hx _ _)) | ((go_at_call 26; with_reducible exact fix_Cbrt.mulT _ _ h1 hx _ _)))
    go_wp2
    go_ret
    exact ⟨ret_bool (by unfold cbFits; rw [hd]; simp), ⟨_, rfl⟩⟩
def CbInv (a : Int) (k : Nat) (out : Int) : Prop := 0 ≤ out ∧ out ≤ 4194303 ∧ (∃ q, 0 ≤ q ∧ out = q * 2 ^ (22 - k)) ∧ cbAux a (22 - k) out = uCbrt a
theorem cb_start (a : Int) : CbInv a 0 0 := ⟨by omega, by omega, ⟨0, by omega, by omega⟩, rfl⟩
theorem cbFits_iff (a x : Int) (ha : W64 a) (h0 : 0 ≤ x) (h1 : x ≤ 4194303) : cbFits a x = true ↔ x * x * x ≤ a ∧ x ≤ 2642245 := by
  unfold cbFits
  rw [Bool.and_eq_true, decide_eq_true_iff, decide_eq_true_iff]
  have e1 := mul_bd (A := 4194303) (B := 4194303) h0 h1 h0 h1
  have e2 : uMul x x = x * x := by unfold uMul; rw [if_pos (by omega)]
  rw [e2]
  have e3 := mul_bd (a := x * x) (b := x) (A := 17592177655809) (B := 4194303) (by omega) (by omega) h0 h1
  constructor
  · rintro ⟨g1, g2⟩
    have e4 := mul_bd (A := 2642245) (B := 2642245) h0 g2 h0 g2
    have e5 := mul_bd (a := x * x) (b := x) (A := 6981458640025) (B := 2642245) (by omega) (by omega) h0 g2
    unfold uMul at g1
    rw [if_pos (by omega)] at g1
    exact ⟨g1, g2⟩
  · rintro ⟨g1, g2⟩
    unfold uMul
    rw [if_pos (by omega)]
    exact ⟨g1, g2⟩
theorem cb_step (a : Int) (ha : W64 a) (k : Nat) (out : Int) (hlt : k < 22) (h : CbInv a k out) :
    bits BinOp.or IntKind.u64 out (IntKind.u64.wrap (2 ^ (21 - k))) = out + 2 ^ (21 - k) ∧ W64 (out + 2 ^ (21 - k)) ∧
    (cbFits a (out + 2 ^ (21 - k)) = true → CbInv a (k + 1) (out + 2 ^ (21 - k))) ∧ (cbFits a (out + 2 ^ (21 - k)) = false → CbInv a (k + 1) out) := by
  obtain ⟨h0, h1, ⟨q, hq0, hq⟩, h3⟩ := h
  obtain ⟨n, hn⟩ : ∃ n, 21 - k = n := ⟨_, rfl⟩
  have hk : 22 - k = n + 1 := by omega
  have hk1 : 22 - (k + 1) = n := by omega
  rw [hn]
  have hp : (0 : Int) < 2 ^ n := Int.pow_pos (by omega)
  have hp2 : (2 : Int) ^ (n + 1) = 2 ^ n + 2 ^ n := by rw [Int.pow_succ]; omega
  have hpn : (2 : Nat) ^ n ≤ 2 ^ 21 := Nat.pow_le_pow_right (by omega) (by omega)
  have hpi : (2 : Int) ^ n ≤ 2097152 := by
    have : ((2 ^ n : Nat) : Int) ≤ ((2 ^ 21 : Nat) : Int) := by exact_mod_cast hpn
    rw [Int.natCast_pow] at this
    simpa using this
  -- the highest bits alone: out + 2^(n+1) is at most 2^22
  have htop : out + 2 ^ (n + 1) ≤ 4194304 := by
    have e22 : (4194304 : Int) = 2 ^ k * 2 ^ (n + 1) := by rw [← Int.pow_add, show k + (n + 1) = 22 by omega]; rfl
    have hP := Int.pow_pos (n := 2) (m := n + 1) (by omega)
    rw [hk] at hq
    have : q < 2 ^ k := by
      have : q * 2 ^ (n + 1) < 2 ^ k * 2 ^ (n + 1) := by rw [← hq, ← e22]; omega
      exact Int.lt_of_mul_lt_mul_right this (by omega)
    rw [hq, e22, show q * 2 ^ (n + 1) + 2 ^ (n + 1) = (q + 1) * 2 ^ (n + 1) by rw [Int.add_mul, Int.one_mul]]
    exact Int.mul_le_mul_of_nonneg_right (by omega) (by omega)
  rw [hk] at h3
  have hfit := cbFits_iff a (out + 2 ^ n) ha (by omega) (by omega)
  refine ⟨?_, by omega, fun hf => ?_, fun hf => ?_⟩
  · rw [w64 (by omega), hq, hk]
    exact or_low q (2 ^ n) (n + 1) (by omega) hq0 (by omega) (by omega) (by rw [← hk, ← hq]; omega)
  · refine ⟨by omega, by omega, ⟨2 * q + 1, by omega, ?_⟩, ?_⟩
    · rw [hk1, hq, hk, hp2, Int.mul_add, Int.add_mul, Int.one_mul, Int.mul_assoc]; omega
    · rw [hk1, ← h3]
      simp only [cbAux]
      unfold cbStep
      rw [if_pos (hfit.1 hf)]
  · refine ⟨by omega, by omega, ⟨2 * q, by omega, ?_⟩, ?_⟩
    · rw [hk1, hq, hk, hp2, Int.mul_add, Int.mul_assoc]; omega
    · rw [hk1, ← h3]
      simp only [cbAux]
      unfold cbStep
      rw [if_neg (fun hh => by rw [← hfit] at hh; simp [hf] at hh)]
set_option maxHeartbeats 1000000 in
theorem cb_walk (a : Int) (ha : W64 a) (w : World) :
    Calls Try.prog 27 #[.int .u64 a] w fun e w' => e = .returned (.int .u64 (uCbrt a)) ∧ Below w.heap.size w w' := by
  have hmf : ∀ (fn : Fn) (first cap : Array Value) (w : World), (Instr.makeFunc fn first cap).run Try.prog w = .ok (.func fn first cap) w := fun _ _ _ _ => rfl
  go_enter Try.func27, Try.ntmps27
  go_wp2
  go_loopw [4, 8] (fun o i wr => ∃ (k : Nat) (out : Int), k ≤ 22 ∧ i = .int .i64 k ∧ o = .int .u64 out ∧ CbInv a k out ∧ Drawn0 (w.alloc (.cells #[.int .u64 a] 23)) wr) (fun _ i _ => 22 - (intOf i).toNat)
  case atStart => exact ⟨0, 0, by omega, rfl, rfl, cb_start a, Drawn0.refl _⟩
  case round =>
    obtain ⟨k, out, hk, rfl, rfl, hinv, hdr⟩ := hrel
    obtain ⟨nd, rfl⟩ := hdr
    by_cases hlt : k < 22
    · obtain ⟨hx, hxw, hyes, hno⟩ := cb_step a ha k out hlt hinv
      by_cases hf : cbFits a (out + 2 ^ (21 - k)) = true
      · have hinv' := Lib.hid (hyes hf)
        clear hyes hno hinv
        go_wp2_with (fail)
        refine (cb_fits (out + 2 ^ (21 - k)) a hxw w.heap.size _ (by go_simp)).mono ?_
        rintro e w' ⟨rfl, ⟨nd', rfl⟩⟩
        rw [hf]
        clear hx hf
        go_wp2
        go_roundw
        case rel => exact ⟨k + 1, _, by omega, by go_num, rfl, hinv'.out, ⟨_, rfl⟩⟩
        case measure => simp [intOf]; omega
      · have hf' : cbFits a (out + 2 ^ (21 - k)) = false := by simpa using hf
        have hinv' := Lib.hid (hno hf')
        clear hyes hno hinv hf
        go_wp2_with (fail)
        refine (cb_fits (out + 2 ^ (21 - k)) a hxw w.heap.size _ (by go_simp)).mono ?_
        rintro e w' ⟨rfl, ⟨nd', rfl⟩⟩
        rw [hf']
        clear hx hf'
        go_wp2
        go_roundw
        case rel => exact ⟨k + 1, _, by omega, by go_num, rfl, hinv'.out, ⟨_, rfl⟩⟩
        case measure => simp [intOf]; omega
    · obtain rfl : k = 22 := by omega
      have hend := Lib.hid hinv.2.2.2
      clear hinv
      go_wp2
      go_ret
      exact ⟨ret_int hend.out, pw_below_drewN (below_alloc (Below.refl _ _) _) _⟩
def fix_Cbrt.f (a0 : Int) : Option Int := if W64 a0 then some (uCbrt a0) else none
theorem fix_Cbrt.calls (a0 : Int) (r : Int) (w : World) (h : fix_Cbrt.f a0 = some r) :
    Calls Try.prog 27 #[.int .u64 a0] w fun e w' => e = .returned (.int .u64 r) ∧ Below w.heap.size w w' := by
  unfold fix_Cbrt.f at h
  split at h
  · obtain rfl := Option.some.inj h
    exact cb_walk a0 ‹_› w
  · cases h
theorem fix_Sub.C (a b : Int) (ha : W64 a) (hb : W64 b) (w : World) : Calls Try.prog 29 #[.int .u64 a, .int .u64 b] w fun e w' => e = .returned (.int .u64 (uSub a b)) ∧ Drawn0 w w' := by
  by_cases h : b < a
  · have e : uSub a b = a - b := by unfold uSub; rw [if_pos (by omega)]
    rw [e]
    go_enter Try.func29, Try.ntmps29
    go_wp2
    go_ret
    exact ⟨ret_int (by first | rfl | omega | (rw [ww]; omega)), Drawn0.refl _⟩
  · have e : uSub a b = 0 := by unfold uSub; split <;> omega
    rw [e]
    go_enter Try.func29, Try.ntmps29
    go_wp2
    go_ret
    exact ⟨ret_int (by first | rfl | omega | (rw [ww]; omega)), Drawn0.refl _⟩
theorem fix_Sub.Q (a b : Int) (ha : W64 a) (hb : W64 b) (w : World) (n : Nat) : Calls Try.prog 29 #[.int .u64 a, .int .u64 b] (w.drewN n) fun e w' => e = .returned (.int .u64 (uSub a b)) ∧ ∃ m, w' = w.drewN m := quiet_c (fix_Sub.C a b ha hb) n
def fix_Sub.f (a0 : Int) (a1 : Int) : Option Int := if W64 a0 ∧ W64 a1 then some (uSub a0 a1) else none
theorem fix_Sub.calls (a0 : Int) (a1 : Int) (r : Int) (w : World) (h : fix_Sub.f a0 a1 = some r) :
    Calls Try.prog 29 #[.int .u64 a0, .int .u64 a1] w fun e w' => e = .returned (.int .u64 r) ∧ Drawn0 w w' := by
  unfold fix_Sub.f at h
  split at h
  · rename_i hw
    obtain rfl := Option.some.inj h
    exact fix_Sub.C a0 a1 hw.1 hw.2 w
  · cases h
def uCube (d : Int) : Int := uMulDiv (min d 2097152 * min d 2097152 * min d 2097152) 480 1000000000
def uTarget (c0 most kk t : Int) : Int := min (max (if kk ≤ t then uAdd most (uCube (t - kk)) else uSub most (uCube (uSub kk t))) c0) (uAdd c0 (c0 / 2))
theorem cube_bd {d : Int} (h : W64 d) : 0 ≤ min d 2097152 * min d 2097152 ∧ min d 2097152 * min d 2097152 ≤ 4398046511104 ∧ 0 ≤ min d 2097152 * min d 2097152 * min d 2097152 ∧ min d 2097152 * min d 2097152 * min d 2097152 ≤ 9223372036854775808 := by
  have h0 : 0 ≤ min d 2097152 ∧ min d 2097152 ≤ 2097152 := by omega
  generalize min d 2097152 = m at *
  have e1 := mul_bd (A := 2097152) (B := 2097152) h0.1 h0.2 h0.1 h0.2
  have e2 := mul_bd (a := m * m) (b := m) (A := 4398046511104) (B := 2097152) (by omega) (by omega) h0.1 h0.2
  omega
theorem uCube_w {d : Int} (h : W64 d) : W64 (uCube d) := by
  have := cube_bd h
  exact uMulDiv_w (by omega) (by omega) (by omega)
set_option maxHeartbeats 1000000 in
theorem cubeC (d : Int) (h : W64 d) (w : World) :
    Calls Try.prog 57 #[.int .u64 d] w fun e w' => e = .returned (.int .u64 (uCube d)) ∧ Drawn0 w w' := by
  have hb := cube_bd h
  have h1 : W64 (min d 2097152 * min d 2097152 * min d 2097152) := by omega
  have h2 : W64 480 := by omega
  have h3 : W64 1000000000 := by omega
  have e1 : IntKind.u64.wrap (min d 2097152 * min d 2097152) = min d 2097152 * min d 2097152 := w64 (by omega)
  have e2 : IntKind.u64.wrap (min d 2097152 * min d 2097152 * min d 2097152) = min d 2097152 * min d 2097152 * min d 2097152 := w64 (by omega)
  go_enter Try.func57, Try.ntmps57
  go_wp2_with ((go_at_call 20); (with_reducible refine (fix_MulDivT.C _ _ _ h1 h2 h3 _).mono ?_); rintro e w' ⟨rfl, ⟨nd, rfl⟩⟩)
  go_ret
  exact ⟨rfl, ⟨_, rfl⟩⟩
theorem cubeQ (d : Int) (h : W64 d) (w : World) (n : Nat) : Calls Try.prog 57 #[.int .u64 d] (w.drewN n) fun e w' => e = .returned (.int .u64 (uCube d)) ∧ ∃ m, w' = w.drewN m := quiet_c (cubeC d h) n
set_option maxHeartbeats 4000000 in
theorem cubic_Target.late (c0 c1 c2 : Int) (c3 : Bool) (c4 c5 c6 c7 t : Int) (h0 : W64 c0) (h5 : W64 c5) (h6 : W64 c6) (ht : W64 t) (hge : c6 ≤ t) (w : World) :
    Calls Try.prog 28 #[.agg #[.int .u64 c0, .int .u64 c1, .int .u64 c2, .bool c3, .int .u64 c4, .int .u64 c5, .int .u64 c6, .int .u64 c7], .int .u64 t] w fun e w' => e = .returned (.int .u64 (uTarget c0 c5 c6 t)) ∧ Below w.heap.size w w' := by
  have hu := Try.underlying29
  have hd : decide (c6 ≤ t) = true := decide_eq_true hge
  have q1 := uSub_w h6 ht
  have q2 := uCube_w q1
  have q3 : W64 (t - c6) := by omega
  have q4 := uCube_w q3
  have e3 : IntKind.u64.wrap (t - c6) = t - c6 := w64 q3
  have e4 : IntKind.u64.wrap (c0.tdiv 2) = c0 / 2 := by rw [Int.tdiv_eq_ediv_of_nonneg h0.1, w64 (by omega)]
  have q5 : W64 (c0 / 2) := by omega
  go_enter Try.func28, Try.ntmps28
  go_wp2
  go_quiet (first | (go_at_call 29; with_reducible exact fix_Sub.Q _ _ h6 ht _ _) | (go_at_call 57; with_reducible exact cubeQ _ q1 _ _) | (go_at_call 29; with_reducible exact fix_Sub.Q _ _ h5 q2 _ _))
  generalize hW1 : World.drewN _ nq = W1
  have f0 : W1.cell? ⟨w.heap.size, 0, none⟩ = some (.int .u64 c0) := by subst hW1; go_simp
  have f5 : W1.cell? ⟨w.heap.size, 5, none⟩ = some (.int .u64 c5) := by subst hW1; go_simp
  have f6 : W1.cell? ⟨w.heap.size, 6, none⟩ = some (.int .u64 c6) := by subst hW1; go_simp
  have b1 : Below w.heap.size w W1 := by rw [← hW1]; exact pw_below_drewN (below_alloc (Below.refl _ _) _) _
  clear hW1
  go_wp2
  go_quiet (first | (go_at_call 57; with_reducible exact cubeQ _ q3 _ _) | (go_at_call 25; with_reducible exact fix_Add.Q _ _ h5 q4 _ _))
  generalize hW2 : World.drewN W1 nq = W2
  have g0 : W2.cell? ⟨w.heap.size, 0, none⟩ = some (.int .u64 c0) := by subst hW2; go_simp
  have b2 : Below w.heap.size w W2 := by rw [← hW2]; exact pw_below_drewN b1 _
  clear hW2
  go_wp2
  go_quiet ((go_at_call 25; with_reducible exact fix_Add.Q _ _ h0 q5 _ _))
  go_wp2
  refine bodyPost_ret (v := .int .u64 (uTarget c0 c5 c6 t)) (by simp [results, Try.results28, go_sem, uTarget, if_pos hge]) rfl ⟨rfl, ?_⟩
  repeat (first | (with_reducible exact b2) | (with_reducible exact Below.refl _ _) | (with_reducible refine below_set ?_ (by omega)) | (with_reducible apply pw_below_drewN) | (with_reducible apply below_alloc) | (with_reducible apply below_drew))
set_option maxHeartbeats 4000000 in
theorem cubic_Target.early (c0 c1 c2 : Int) (c3 : Bool) (c4 c5 c6 c7 t : Int) (h0 : W64 c0) (h5 : W64 c5) (h6 : W64 c6) (ht : W64 t) (hlt : ¬ c6 ≤ t) (w : World) :
    Calls Try.prog 28 #[.agg #[.int .u64 c0, .int .u64 c1, .int .u64 c2, .bool c3, .int .u64 c4, .int .u64 c5, .int .u64 c6, .int .u64 c7], .int .u64 t] w fun e w' => e = .returned (.int .u64 (uTarget c0 c5 c6 t)) ∧ Below w.heap.size w w' := by
  have hu := Try.underlying29
  have hd : decide (c6 ≤ t) = false := decide_eq_false hlt
  have q1 := uSub_w h6 ht
  have q2 := uCube_w q1
  have e4 : IntKind.u64.wrap (c0.tdiv 2) = c0 / 2 := by rw [Int.tdiv_eq_ediv_of_nonneg h0.1, w64 (by omega)]
  have q5 : W64 (c0 / 2) := by omega
  go_enter Try.func28, Try.ntmps28
  go_wp2
  go_quiet (first | (go_at_call 29; with_reducible exact fix_Sub.Q _ _ h6 ht _ _) | (go_at_call 57; with_reducible exact cubeQ _ q1 _ _) | (go_at_call 29; with_reducible exact fix_Sub.Q _ _ h5 q2 _ _))
  generalize hW1 : World.drewN _ nq = W1
  have f0 : W1.cell? ⟨w.heap.size, 0, none⟩ = some (.int .u64 c0) := by subst hW1; go_simp
  have f5 : W1.cell? ⟨w.heap.size, 5, none⟩ = some (.int .u64 c5) := by subst hW1; go_simp
  have f6 : W1.cell? ⟨w.heap.size, 6, none⟩ = some (.int .u64 c6) := by subst hW1; go_simp
  have b1 : Below w.heap.size w W1 := by rw [← hW1]; exact pw_below_drewN (below_alloc (Below.refl _ _) _) _
  clear hW1
  go_wp2
  go_quiet ((go_at_call 25; with_reducible exact fix_Add.Q _ _ h0 q5 _ _))
  go_wp2
  refine bodyPost_ret (v := .int .u64 (uTarget c0 c5 c6 t)) (by simp [results, Try.results28, go_sem, uTarget, if_neg (show ¬ c6 ≤ t by omega)]) rfl ⟨rfl, ?_⟩
  repeat (first | (with_reducible exact b1) | (with_reducible exact Below.refl _ _) | (with_reducible refine below_set ?_ (by omega)) | (with_reducible apply pw_below_drewN) | (with_reducible apply below_alloc) | (with_reducible apply below_drew))
def cubic_Target.f (a0_0 a0_1 a0_2 : Int) (a0_3 : Bool) (a0_4 a0_5 a0_6 a0_7 : Int) (a1 : Int) : Option (Int) := if W64 a0_0 ∧ W64 a0_5 ∧ W64 a0_6 ∧ W64 a1 then some (uTarget a0_0 a0_5 a0_6 a1) else none
theorem cubic_Target.calls (a0_0 a0_1 a0_2 : Int) (a0_3 : Bool) (a0_4 a0_5 a0_6 a0_7 : Int) (a1 : Int) (r1 : Int) (w : World) (h : cubic_Target.f a0_0 a0_1 a0_2 a0_3 a0_4 a0_5 a0_6 a0_7 a1 = some r1) :
    Calls Try.prog 28 #[.agg #[.int .u64 a0_0, .int .u64 a0_1, .int .u64 a0_2, .bool a0_3, .int .u64 a0_4, .int .u64 a0_5, .int .u64 a0_6, .int .u64 a0_7], .int .u64 a1] w fun e w' => e = .returned (.int .u64 r1) ∧ Below w.heap.size w w' := by
  unfold cubic_Target.f at h
  split at h
  · rename_i hw
    obtain rfl := Option.some.inj h
    by_cases hk : a0_6 ≤ a1
    · exact cubic_Target.late _ _ _ _ _ _ _ _ _ hw.1 hw.2.1 hw.2.2.1 hw.2.2.2 hk w
    · exact cubic_Target.early _ _ _ _ _ _ _ _ _ hw.1 hw.2.1 hw.2.2.1 hw.2.2.2 hk w
  · cases h
theorem cbrtC (a : Int) (h : W64 a) (w : World) : Calls Try.prog 27 #[.int .u64 a] w fun e w' => e = .returned (.int .u64 (uCbrt a)) ∧ Below w.heap.size w w' := fix_Cbrt.calls a _ w (by unfold fix_Cbrt.f; rw [if_pos h])
theorem targetC (c0 c1 c2 : Int) (c3 : Bool) (c4 c5 c6 c7 t : Int) (h0 : W64 c0) (h5 : W64 c5) (h6 : W64 c6) (ht : W64 t) (w : World) : Calls Try.prog 28 #[.agg #[.int .u64 c0, .int .u64 c1, .int .u64 c2, .bool c3, .int .u64 c4, .int .u64 c5, .int .u64 c6, .int .u64 c7], .int .u64 t] w fun e w' => e = .returned (.int .u64 (uTarget c0 c5 c6 t)) ∧ Below w.heap.size w w' :=
 cubic_Target.calls c0 c1 c2 c3 c4 c5 c6 c7 t _ w (by unfold cubic_Target.f; rw [if_pos ⟨h0, h5, h6, ht⟩])
end Go.Proofs.Ytpgffmnbdggpnaa.PCv
end
