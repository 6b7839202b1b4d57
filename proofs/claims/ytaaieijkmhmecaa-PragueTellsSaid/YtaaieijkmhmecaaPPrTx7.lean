-- Written by a program of this session (wip/tools/xprint.py) for this claim.
import Derived.Test.YtaaieijkmhmecaaPPrTx0
import Derived.Test.YtaaieijkmhmecaaPPrTx4
import Derived.Test.YtaaieijkmhmecaaPPrTx6
namespace Go.Proofs.Ytaaieijkmhmecaa.PPrT
open Go.RowKit Go.Proofs.YtaaieijkmhmecaaW.PrintWords Go.Proofs.YtaaieijkmhmecaaW.PrintLast Go.Proofs.YtaaieijkmhmecaaW.PrintMore
attribute [local go_sem] max2_int min2_int max_two min_two max_three min_three max_four min_four   -- for this text's walks alone
set_option linter.unusedVariables false
set_option linter.unusedSimpArgs false

/-! ### wigwagref01_MulDivT: function 32, told anew -/
theorem wide_tells (a b : Int) (h1 : W64 a) (h2 : W64 b) : wigwagref01_wide.f a b = some (a * b / 18446744073709551616, a * b % 18446744073709551616) := by
  obtain ⟨ah, hah⟩ : ∃ z, a / 4294967296 = z := ⟨_, rfl⟩
  obtain ⟨al, hal⟩ : ∃ z, a % 4294967296 = z := ⟨_, rfl⟩
  obtain ⟨bh, hbh⟩ : ∃ z, b / 4294967296 = z := ⟨_, rfl⟩
  obtain ⟨bl, hbl⟩ : ∃ z, b % 4294967296 = z := ⟨_, rfl⟩
  have hab : a * b = ah * bh * 18446744073709551616 + (ah * bl + al * bh) * 4294967296 + al * bl := by
    have ea : a = ah * 4294967296 + al := by omega
    have eb : b = bh * 4294967296 + bl := by omega
    rw [ea, eb, Int.add_mul, Int.mul_add, Int.mul_add]
    have e1 : ah * 4294967296 * (bh * 4294967296) = ah * bh * 18446744073709551616 := by
      rw [Int.mul_assoc, Int.mul_left_comm 4294967296, ← Int.mul_assoc, Int.mul_comm 4294967296 4294967296]; rfl
    have e2 : ah * 4294967296 * bl = ah * bl * 4294967296 := by rw [Int.mul_assoc, Int.mul_comm 4294967296, ← Int.mul_assoc]
    have e3 : al * (bh * 4294967296) = al * bh * 4294967296 := by rw [Int.mul_assoc]
    omega
  have p1 := mul_bd (a := ah) (b := bh) (A := 4294967295) (B := 4294967295) (by omega) (by omega) (by omega) (by omega)
  have p2 := mul_bd (a := ah) (b := bl) (A := 4294967295) (B := 4294967295) (by omega) (by omega) (by omega) (by omega)
  have p3 := mul_bd (a := al) (b := bh) (A := 4294967295) (B := 4294967295) (by omega) (by omega) (by omega) (by omega)
  have p4 := mul_bd (a := al) (b := bl) (A := 4294967295) (B := 4294967295) (by omega) (by omega) (by omega) (by omega)
  unfold wigwagref01_wide.f
  rw [and_mask a h1, and_mask b h2, hah, hal, hbh, hbl, hab]
  generalize ah * bh = m1 at *
  generalize ah * bl = m2 at *
  generalize al * bh = m3 at *
  generalize al * bl = m4 at *
  rw [w64 (x := m1) (by omega), w64 (x := m2) (by omega), w64 (x := m3) (by omega), w64 (x := m4) (by omega), and_mask m2 (by omega), and_mask m3 (by omega), and_mask m4 (by omega)]
  clear hab hah hal hbh hbl h1 h2
  rw [w64 (x := m4 / 4294967296 + m2 % 4294967296) (by omega), w64 (x := m4 / 4294967296 + m2 % 4294967296 + m3 % 4294967296) (by omega)]
  rw [w64 (x := m1 + m2 / 4294967296) (by omega), w64 (x := m1 + m2 / 4294967296 + m3 / 4294967296) (by omega), w64 (x := m1 + m2 / 4294967296 + m3 / 4294967296 + (m4 / 4294967296 + m2 % 4294967296 + m3 % 4294967296) / 4294967296) (by omega)]
  rw [ww, ww]
  congr 2 <;> omega
theorem and_one (x : Int) (h : W64 x) : Go.bits .and .u64 x 1 = x % 2 := by
  rw [u64_and x 1 h.1 (by omega) (by omega) (by omega)]
  have e : (1 : Int).toNat = 1 := rfl
  rw [e, Nat.and_one_is_mod]
  omega
theorem refdiv_l0 (c lo : Int) (hc : 0 < c) (hc' : c ≤ 18446744073709551615) (hlo : W64 lo) : ∀ (n k : Nat) (X : Int), 0 ≤ X → n ≤ 64 → n < k →
    wigwagref01_MulDiv.l0 k c lo (X % c) (X / c % 18446744073709551616) ((n : Int) - 1) = some ((X * 2 ^ n + lo % 2 ^ n) / c % 18446744073709551616)
  | 0, k, X, hX, hn, hk => by
    obtain ⟨k, rfl⟩ : ∃ m, k = m + 1 := ⟨k - 1, by omega⟩
    simp only [wigwagref01_MulDiv.l0]
    rw [if_neg (by omega)]
    simp [Int.emod_one]
  | n + 1, k, X, hX, hn, hk => by
    obtain ⟨k, rfl⟩ : ∃ m, k = m + 1 := ⟨k - 1, by omega⟩
    have hp : (0 : Int) < 2 ^ n := Int.pow_pos (by omega)
    have ew : IntKind.u64.wrap ((n + 1 : Nat) - 1 : Int) = n := by rw [w64 (by omega)]; omega
    have es : shr .u64 lo (n : Int) = lo / 2 ^ n := by
      unfold shr
      rw [Int.toNat_natCast, Nat.min_eq_left (by show n ≤ 64; omega)]
    have hd0 : 0 ≤ lo / 2 ^ n := Int.ediv_nonneg hlo.1 (by omega)
    have hd1 : lo / 2 ^ n ≤ lo := Int.ediv_le_self _ hlo.1
    have hr0 := Int.emod_nonneg X (b := c) (by omega)
    have hr1 := Int.emod_lt_of_pos X hc
    have hX0 := Int.emod_add_mul_ediv X c
    have hq0 : 0 ≤ X / c := Int.ediv_nonneg hX (by omega)
    have ei : wrap64 (((n + 1 : Nat) : Int) - 1 - 1) = (n : Int) - 1 := by unfold wrap64; omega
    obtain ⟨bit, hbit⟩ : ∃ z, lo / 2 ^ n % 2 = z := ⟨_, rfl⟩
    have hb : bit = 0 ∨ bit = 1 := by omega
    -- what is left of lo
    have hlow : lo % 2 ^ (n + 1) = bit * 2 ^ n + lo % 2 ^ n := by
      have e1 := Int.emod_add_mul_ediv lo (2 ^ n)
      have e2 := Int.emod_nonneg lo (b := 2 ^ n) (by omega)
      have e3 := Int.emod_lt_of_pos lo hp
      have e4 : lo = (bit * 2 ^ n + lo % 2 ^ n) + 2 ^ (n + 1) * (lo / 2 ^ n / 2) := by
        have e5 : lo / 2 ^ n = 2 * (lo / 2 ^ n / 2) + bit := by omega
        have e6 : 2 ^ n * (lo / 2 ^ n) = 2 ^ (n + 1) * (lo / 2 ^ n / 2) + bit * 2 ^ n := by
          rw [Int.pow_succ]
          generalize lo / 2 ^ n / 2 = z at *
          rw [e5, Int.mul_add, Int.mul_assoc, Int.mul_comm bit]
        omega
      have hP : (2 : Int) ^ (n + 1) = 2 ^ n + 2 ^ n := by rw [Int.pow_succ]; omega
      have hlt : 0 ≤ bit * 2 ^ n + lo % 2 ^ n ∧ bit * 2 ^ n + lo % 2 ^ n < 2 ^ (n + 1) := by
        rcases hb with rfl | rfl <;> omega
      rw [e4, Int.add_mul_emod_self_left, Int.emod_eq_of_lt hlt.1 hlt.2, ← e4]
    have efin : X * 2 ^ (n + 1) + lo % 2 ^ (n + 1) = (2 * X + bit) * 2 ^ n + lo % 2 ^ n := by
      rw [hlow, Int.pow_succ, Int.add_mul, ← Int.mul_assoc, Int.mul_comm 2 X, Int.mul_assoc X 2, Int.mul_comm 2 (2 ^ n), Int.mul_assoc]
      omega
    rw [efin]
    have ih := refdiv_l0 c lo hc hc' hlo n k (2 * X + bit) (by omega) (by omega) (by omega)
    have hand : Go.bits .and .u64 (shr .u64 lo (IntKind.u64.wrap ((n + 1 : Nat) - 1 : Int))) 1 = bit := by rw [ew, es, and_one _ (by omega), hbit]
    simp only [wigwagref01_MulDiv.l0]
    rw [if_pos (by omega), if_pos (by rw [ew]; omega), hand, ei]
    -- the two ways
    have hout : ∀ Q : Int, (X / c % 18446744073709551616 * 2 % 18446744073709551616 + Q) % 18446744073709551616 = (2 * (X / c) + Q) % 18446744073709551616 := by intro Q; omega
    have hyes : c ≤ 2 * (X % c) + bit → (2 * X + bit) / c = 2 * (X / c) + 1 ∧ (2 * X + bit) % c = 2 * (X % c) + bit - c := by
      intro hge
      have e : 2 * X + bit = (2 * (X % c) + bit - c) + c * (2 * (X / c) + 1) := by rw [Int.mul_add, Int.mul_left_comm]; omega
      constructor
      · rw [e, Int.add_mul_ediv_left _ _ (by omega), Int.ediv_eq_zero_of_lt (by omega) (by omega)]; omega
      · rw [e, Int.add_mul_emod_self_left, Int.emod_eq_of_lt (by omega) (by omega)]
    have hno : 2 * (X % c) + bit < c → (2 * X + bit) / c = 2 * (X / c) ∧ (2 * X + bit) % c = 2 * (X % c) + bit := by
      intro hlt
      have e : 2 * X + bit = (2 * (X % c) + bit) + c * (2 * (X / c)) := by rw [Int.mul_left_comm]; omega
      constructor
      · rw [e, Int.add_mul_ediv_left _ _ (by omega), Int.ediv_eq_zero_of_lt (by omega) (by omega)]; omega
      · rw [e, Int.add_mul_emod_self_left, Int.emod_eq_of_lt (by omega) (by omega)]
    generalize X / c = Q at *
    generalize X % c = L at *
    generalize (2 * X + bit) / c = Q' at *
    generalize (2 * X + bit) % c = L' at *
    simp only [ww]
    by_cases hov : L / 9223372036854775808 = 1
    · obtain ⟨rfl, rfl⟩ := hyes (by omega)
      rw [if_pos hov, ← ih, hout]
      congr 1
      omega
    · rw [if_neg hov]
      by_cases hge : c ≤ 2 * L + bit
      · obtain ⟨rfl, rfl⟩ := hyes hge
        rw [if_pos (by omega), ← ih, hout]
        congr 1
        omega
      · obtain ⟨rfl, rfl⟩ := hno (by omega)
        rw [if_neg (by omega), ← ih]
        congr 1 <;> omega
theorem refdiv_tells (a b c : Int) (h1 : W64 a) (h2 : W64 b) (h3 : W64 c) : ∃ k, wigwagref01_MulDiv.f k a b c = some (uMulDiv a b c) := by
  have hp := Int.mul_nonneg h1.1 h2.1
  have hp' := mul_bd (A := 18446744073709551615) (B := 18446744073709551615) h1.1 h1.2 h2.1 h2.2
  refine ⟨66, ?_⟩
  unfold wigwagref01_MulDiv.f uMulDiv
  rw [wide_tells a b h1 h2]
  simp only [Option.bind_some]
  generalize a * b = p at *
  by_cases hz : p = 0
  · subst hz
    simp [wigwagref01_MulDiv.j0]
  · have e : ∀ z, (z = true → False) → wigwagref01_MulDiv.j0 66 c (p / 18446744073709551616) (p % 18446744073709551616) z = some (if c * 18446744073709551616 ≤ p then 18446744073709551615 else p / c) := by
      intro z hz'
      simp only [wigwagref01_MulDiv.j0]
      rw [if_neg hz']
      by_cases hc : c * 18446744073709551616 ≤ p
      · rw [if_pos (by omega), if_pos hc]
      · rw [if_neg (by omega), if_neg hc]
        have hlt : p / 18446744073709551616 < c := by omega
        have h := refdiv_l0 c (p % 18446744073709551616) (by omega) (by omega) (w64_mod p) 64 65 (p / 18446744073709551616) (by omega) (by omega) (by omega)
        rw [Int.emod_eq_of_lt (by omega) hlt, Int.ediv_eq_zero_of_lt (by omega) hlt] at h
        have e1 : p / 18446744073709551616 * 2 ^ 64 + p % 18446744073709551616 % 2 ^ 64 = p := by omega
        rw [e1] at h
        have hq0 : 0 ≤ p / c := Int.ediv_nonneg hp h3.1
        have hq1 : p / c < 18446744073709551616 := (Int.ediv_lt_iff_lt_mul (by omega)).2 (by omega)
        refine h.trans ?_
        congr 1
        omega
    rw [if_neg hz]
    split
    · exact e _ (by simp; omega)
    · exact e _ (by simp)
def wigwagref01_MulDivT.f (a0 : Int) (a1 : Int) (a2 : Int) : Option Int := if W64 a0 ∧ W64 a1 ∧ W64 a2 then some (uMulDiv a0 a1 a2) else none
theorem wigwagref01_MulDivT.calls (a0 : Int) (a1 : Int) (a2 : Int) (r : Int) (w : World) (h : wigwagref01_MulDivT.f a0 a1 a2 = some r) :
    Calls Try.prog 32 #[.int .u64 a0, .int .u64 a1, .int .u64 a2] w fun e w' => e = .returned (.int .u64 r) ∧ Drawn0 w w' := by
  unfold wigwagref01_MulDivT.f at h
  split at h
  · rename_i hw
    obtain ⟨k, hk⟩ := refdiv_tells a0 a1 a2 hw.1 hw.2.1 hw.2.2
    exact wigwagref01_MulDiv.calls k a0 a1 a2 r w (hk.trans h)
  · cases h
theorem wigwagref01_MulDivT.C (a b c : Int) (ha : W64 a) (hb : W64 b) (hc : W64 c) (w : World) : Calls Try.prog 32 #[.int .u64 a, .int .u64 b, .int .u64 c] w fun e w' => e = .returned (.int .u64 (uMulDiv a b c)) ∧ Drawn0 w w' :=
  wigwagref01_MulDivT.calls a b c _ w (by unfold wigwagref01_MulDivT.f; rw [if_pos ⟨ha, hb, hc⟩])
theorem wigwagref01_MulDivT.Q (a b c : Int) (ha : W64 a) (hb : W64 b) (hc : W64 c) (w : World) (n : Nat) : Calls Try.prog 32 #[.int .u64 a, .int .u64 b, .int .u64 c] (w.drewN n) fun e w' => e = .returned (.int .u64 (uMulDiv a b c)) ∧ ∃ m, w' = w.drewN m := quiet_c (wigwagref01_MulDivT.C a b c ha hb hc) n


/-! ### wigwagref14_share: function 28 -/
def wigwagref14_share.f (a0 : Int) (a1 : Int) : Option (Int) := if a1 = 0 then (some 0) else (if a0 > a1 then ((wigwagref01_MulDivT.f a1 1048576 a1).bind fun t166 => (some t166)) else ((wigwagref01_MulDivT.f a0 1048576 a1).bind fun t167 => (some t167)))
set_option maxHeartbeats 8000000 in
set_option maxRecDepth 100000 in
theorem wigwagref14_share.calls (a0 : Int) (a1 : Int) (r : Int) (w : World) (h : wigwagref14_share.f a0 a1 = some r) :
    Calls Try.prog 28 #[.int .u64 a0, .int .u64 a1] w fun e w' => e = .returned (.int .u64 r) ∧ Drawn0 w w' := by
  have H : (if a1 = 0 then (some 0) else (if a0 > a1 then ((wigwagref01_MulDivT.f a1 1048576 a1).bind fun t166 => (some t166)) else ((wigwagref01_MulDivT.f a0 1048576 a1).bind fun t167 => (some t167)))) = some r := h
  clear h
  by_cases c3 : a1 = 0
  · rw [if_pos c3] at H
    have c3b0 : (a1 == 0) = true := beq_iff_eq.mpr c3
    have c3b1 : (a1 != 0) = false := bne_eq_false_iff_eq.mpr c3
    clear c3
    obtain rfl := Option.some.inj H
    go_enter Try.func28, Try.ntmps28
    go_wp2
    go_ret
    exact ⟨by first | rfl | (simp; done) | (simp [*]; done), by repeat (first | exact Drawn0.refl _ | apply Drawn0.step)⟩
  · rw [if_neg c3] at H
    have c3b0 : (a1 == 0) = false := beq_eq_false_iff_ne.mpr c3
    have c3b1 : (a1 != 0) = true := bne_iff_ne.mpr c3
    by_cases c4 : a0 > a1
    · rw [if_pos c4] at H
      have c4b0 : decide (a1 < a0) = true := decide_eq_true c4
      clear c4
      replace H := Option.bind_eq_some_iff.mp H
      obtain ⟨t166, A50, H⟩ := H
      replace H : (some t166) = some r := H
      have A5 := Aside0.mk A50
      clear A50
      obtain rfl := Option.some.inj H
      go_enter Try.func28, Try.ntmps28
      go_wp2_with (first | ((with_reducible refine gate_callee (f := 32) rfl ?_); refine goesL_ (some 13) rfl rfl Try.func32 (by kernel_rfl) rfl #[.int .u64 a1, .int .u64 1048576, .int .u64 a1] rfl (by (try simp only [List.map_toArray, List.map_cons, List.map_nil]); first | done | rfl | (simp only [List.length_drop, List.length_take]; rfl)) ?_; (with_reducible refine (wigwagref01_MulDivT.calls a1 1048576 a1 t166 _ A5.out).mono ?_); rintro e w' ⟨rfl, ⟨nd, rfl⟩⟩; refine ⟨_, rfl, ?_⟩))
      go_ret
      exact ⟨by first | rfl | (simp; done) | (simp [*]; done), by repeat (first | exact Drawn0.refl _ | apply Drawn0.step)⟩
    · rw [if_neg c4] at H
      have c4b0 : decide (a1 < a0) = false := decide_eq_false c4
      clear c4
      replace H := Option.bind_eq_some_iff.mp H
      obtain ⟨t167, A60, H⟩ := H
      replace H : (some t167) = some r := H
      have A6 := Aside0.mk A60
      clear A60
      obtain rfl := Option.some.inj H
      go_enter Try.func28, Try.ntmps28
      go_wp2_with (first | ((with_reducible refine gate_callee (f := 32) rfl ?_); refine goesL_ (some 13) rfl rfl Try.func32 (by kernel_rfl) rfl #[.int .u64 a0, .int .u64 1048576, .int .u64 a1] rfl (by (try simp only [List.map_toArray, List.map_cons, List.map_nil]); first | done | rfl | (simp only [List.length_drop, List.length_take]; rfl)) ?_; (with_reducible refine (wigwagref01_MulDivT.calls a0 1048576 a1 t167 _ A6.out).mono ?_); rintro e w' ⟨rfl, ⟨nd, rfl⟩⟩; refine ⟨_, rfl, ?_⟩))
      go_ret
      exact ⟨by first | rfl | (simp; done) | (simp [*]; done), by repeat (first | exact Drawn0.refl _ | apply Drawn0.step)⟩

end Go.Proofs.Ytaaieijkmhmecaa.PPrT
