-- Written by a program of this session (wip/tools/xprint.py) for this claim.
import Derived.Test.YtoanhimhomgjmaaPPrOx0
import Derived.Test.YtoanhimhomgjmaaPPrOx1
import Derived.Test.YtoanhimhomgjmaaPPrOx2
import Derived.Test.YtoanhimhomgjmaaPPrOx3
namespace Go.Proofs.Ytoanhimhomgjmaa.PPrO
open Go.RowKit Go.Proofs.YtoanhimhomgjmaaW.PrintWords Go.Proofs.YtoanhimhomgjmaaW.PrintLast Go.Proofs.YtoanhimhomgjmaaW.PrintMore
attribute [local go_sem] max2_int min2_int max_two min_two max_three min_three max_four min_four   -- for this text's walks alone
set_option linter.unusedVariables false
set_option linter.unusedSimpArgs false

/-! ### fix_MulDivT: function 35, told anew -/
theorem div_test {yn1 yn0 v u d q rh : Int} (hv : v = yn1 * 4294967296 + yn0) (hv0 : 0 < v) (h : q * yn1 + rh = u) :
    (u * 4294967296 + d) / v < q ↔ 4294967296 * rh + d < q * yn0 := by
  rw [Int.ediv_lt_iff_lt_mul hv0, hv, Int.mul_add, ← Int.mul_assoc]
  generalize q * yn1 = p at *
  generalize q * yn0 = m at *
  omega
/-- A digit's quotient lies below the base. -/
theorem div_digit {v u d : Int} (hv0 : 0 < v) (hu0 : 0 ≤ u) (hu : u < v) (hd0 : 0 ≤ d) (hd : d < 4294967296) :
    0 ≤ (u * 4294967296 + d) / v ∧ (u * 4294967296 + d) / v ≤ 4294967295 := by
  refine ⟨Int.ediv_nonneg (by omega) (by omega), ?_⟩
  have : (u * 4294967296 + d) / v < 4294967296 := (Int.ediv_lt_iff_lt_mul hv0).2 (by omega)
  omega

theorem div_l1 {v s yn1 yn0 un0 q1 u : Int} (hv : v = yn1 * 4294967296 + yn0) (hy1 : 2147483648 ≤ yn1) (hy1' : yn1 < 4294967296) (hy0 : 0 ≤ yn0) (hy0' : yn0 < 4294967296)
    (hu0 : 0 ≤ u) (hu : u < v) (hd0 : 0 ≤ un0) (hd : un0 < 4294967296) (hs : 0 ≤ s) (n : Nat) :
    ∀ (k : Nat) (rh q : Int), q * yn1 + rh = u → (u * 4294967296 + un0) / v ≤ q → q ≤ 4294967297 → 0 ≤ rh → rh < 4294967296 → q - (u * 4294967296 + un0) / v = n → 2 * n + 2 ≤ k →
    ∃ r, bits_Div64.l1 k v s yn1 yn0 un0 q1 rh u q = some (IntKind.u64.wrap (IntKind.u64.wrap (q1 * 4294967296) + (u * 4294967296 + un0) / v), r) := by
  have hv0 : 0 < v := by omega
  obtain ⟨hQ0, hQ1⟩ := div_digit hv0 hu0 hu hd0 hd
  induction n with
  | zero =>
    intro k rh q h1 h2 h3 h4 h5 h6 hk
    obtain ⟨k, rfl⟩ : ∃ m, k = m + 2 := ⟨k - 2, by omega⟩
    have ht := div_test (d := un0) hv hv0 h1
    have hb := mul_bd (a := q) (b := yn0) (A := 4294967295) (B := 4294967295) (by omega) (by omega) hy0 (by omega)
    generalize (u * 4294967296 + un0) / v = Q at *
    obtain rfl : q = Q := by omega
    have hng : ¬ (4294967296 * rh + un0 < q * yn0) := by rw [← ht]; omega
    simp only [bits_Div64.l1]
    rw [if_neg (by omega), w64 (x := q * yn0) (by omega), w64 (x := 4294967296 * rh) (by omega), w64 (x := 4294967296 * rh + un0) (by omega), decide_eq_false (by omega)]
    simp only [bits_Div64.j4]
    rw [if_neg (by simp), if_pos hs]
    exact ⟨_, rfl⟩
  | succ n ih =>
    intro k rh q h1 h2 h3 h4 h5 h6 hk
    obtain ⟨k, rfl⟩ : ∃ m, k = m + 2 := ⟨k - 2, by omega⟩
    have ht := div_test (d := un0) hv hv0 h1
    have hgt : (u * 4294967296 + un0) / v < q := by omega
    have ht1 := ht.1 hgt
    have h1' : (q - 1) * yn1 + (rh + yn1) = u := by rw [Int.sub_mul, Int.one_mul]; omega
    have hstep : bits_Div64.l1 (k + 2) v s yn1 yn0 un0 q1 rh u q = bits_Div64.j4 (k + 1) v s yn1 yn0 un0 q1 rh u q true := by
      simp only [bits_Div64.l1]
      by_cases hc : q ≥ 4294967296
      · rw [if_pos hc]
      · have hb := mul_bd (a := q) (b := yn0) (A := 4294967295) (B := 4294967295) (by omega) (by omega) hy0 (by omega)
        rw [if_neg hc, w64 (x := q * yn0) (by omega), w64 (x := 4294967296 * rh) (by omega), w64 (x := 4294967296 * rh + un0) (by omega), decide_eq_true (by omega)]
    rw [hstep]
    simp only [bits_Div64.j4]
    rw [if_pos trivial, w64 (x := rh + yn1) (by omega), w64 (x := q - 1) (by omega)]
    by_cases hc : rh + yn1 ≥ 4294967296
    · have hm := mul_bd (a := q - 1) (b := yn0) (A := 4294967296) (B := 4294967295) (by omega) (by omega) hy0 (by omega)
      have hq : q - 1 = (u * 4294967296 + un0) / v := by
        have ht' := div_test (d := un0) hv hv0 h1'
        have : ¬ ((u * 4294967296 + un0) / v < q - 1) := by rw [ht']; omega
        omega
      rw [if_pos hc, if_pos hs, hq]
      exact ⟨_, rfl⟩
    · rw [if_neg hc]
      exact ih k (rh + yn1) (q - 1) h1' (by omega) (by omega) (by omega) (by omega) (by omega) (by omega)

/-- The remainder behind a digit, reckoned as the code reckons it. -/
theorem div_rest {v u d : Int} (hv0 : 0 < v) (hv1 : v ≤ 18446744073709551615) :
    IntKind.u64.wrap (IntKind.u64.wrap (IntKind.u64.wrap (u * 4294967296) + d) - IntKind.u64.wrap ((u * 4294967296 + d) / v * v)) = (u * 4294967296 + d) % v := by
  have h1 := Int.emod_add_mul_ediv (u * 4294967296 + d) v
  have h2 := Int.emod_nonneg (u * 4294967296 + d) (b := v) (by omega)
  have h3 := Int.emod_lt_of_pos (u * 4294967296 + d) hv0
  rw [Int.mul_comm v] at h1
  rw [ww, ww, ww, ww]
  generalize (u * 4294967296 + d) / v * v = p at *
  omega

theorem div_l0 {v s yn1 yn0 un1 un0 u : Int} (hv : v = yn1 * 4294967296 + yn0) (hy1 : 2147483648 ≤ yn1) (hy1' : yn1 < 4294967296) (hy0 : 0 ≤ yn0) (hy0' : yn0 < 4294967296)
    (hu0 : 0 ≤ u) (hu : u < v) (hd0 : 0 ≤ un1) (hd : un1 < 4294967296) (n : Nat) :
    ∀ (k : Nat) (rh q : Int), q * yn1 + rh = u → (u * 4294967296 + un1) / v ≤ q → q ≤ 4294967297 → 0 ≤ rh → rh < 4294967296 → q - (u * 4294967296 + un1) / v = n → 2 * n + 2 ≤ k →
    ∃ j, k ≤ j + 2 * n + 2 ∧ bits_Div64.l0 k v s yn1 yn0 u un1 un0 q rh = bits_Div64.j2 j v s yn1 yn0 u un1 un0 ((u * 4294967296 + un1) / v) := by
  have hv0 : 0 < v := by omega
  obtain ⟨hQ0, hQ1⟩ := div_digit hv0 hu0 hu hd0 hd
  induction n with
  | zero =>
    intro k rh q h1 h2 h3 h4 h5 h6 hk
    obtain ⟨k, rfl⟩ : ∃ m, k = m + 2 := ⟨k - 2, by omega⟩
    have ht := div_test (d := un1) hv hv0 h1
    have hb := mul_bd (a := q) (b := yn0) (A := 4294967295) (B := 4294967295) (by omega) (by omega) hy0 (by omega)
    generalize (u * 4294967296 + un1) / v = Q at *
    obtain rfl : q = Q := by omega
    have hng : ¬ (4294967296 * rh + un1 < q * yn0) := by rw [← ht]; omega
    simp only [bits_Div64.l0]
    rw [if_neg (by omega), w64 (x := q * yn0) (by omega), w64 (x := 4294967296 * rh) (by omega), w64 (x := 4294967296 * rh + un1) (by omega), decide_eq_false (by omega)]
    simp only [bits_Div64.j1]
    rw [if_neg (by simp)]
    exact ⟨k, by omega, rfl⟩
  | succ n ih =>
    intro k rh q h1 h2 h3 h4 h5 h6 hk
    obtain ⟨k, rfl⟩ : ∃ m, k = m + 2 := ⟨k - 2, by omega⟩
    have ht := div_test (d := un1) hv hv0 h1
    have hgt : (u * 4294967296 + un1) / v < q := by omega
    have ht1 := ht.1 hgt
    have h1' : (q - 1) * yn1 + (rh + yn1) = u := by rw [Int.sub_mul, Int.one_mul]; omega
    have hstep : bits_Div64.l0 (k + 2) v s yn1 yn0 u un1 un0 q rh = bits_Div64.j1 (k + 1) v s yn1 yn0 u un1 un0 q rh true := by
      simp only [bits_Div64.l0]
      by_cases hc : q ≥ 4294967296
      · rw [if_pos hc]
      · have hb := mul_bd (a := q) (b := yn0) (A := 4294967295) (B := 4294967295) (by omega) (by omega) hy0 (by omega)
        rw [if_neg hc, w64 (x := q * yn0) (by omega), w64 (x := 4294967296 * rh) (by omega), w64 (x := 4294967296 * rh + un1) (by omega), decide_eq_true (by omega)]
    rw [hstep]
    simp only [bits_Div64.j1]
    rw [if_pos trivial, w64 (x := rh + yn1) (by omega), w64 (x := q - 1) (by omega)]
    by_cases hc : rh + yn1 ≥ 4294967296
    · have hm := mul_bd (a := q - 1) (b := yn0) (A := 4294967296) (B := 4294967295) (by omega) (by omega) hy0 (by omega)
      have hq : q - 1 = (u * 4294967296 + un1) / v := by
        have ht' := div_test (d := un1) hv hv0 h1'
        have : ¬ ((u * 4294967296 + un1) / v < q - 1) := by rw [ht']; omega
        omega
      rw [if_pos hc, hq]
      exact ⟨k, by omega, rfl⟩
    · rw [if_neg hc]
      obtain ⟨j, hj, e⟩ := ih k (rh + yn1) (q - 1) h1' (by omega) (by omega) (by omega) (by omega) (by omega) (by omega)
      exact ⟨j, by omega, e⟩
/-- The first guess of a digit: at most two too great. -/
theorem div_guess {v yn1 yn0 u d : Int} (hv : v = yn1 * 4294967296 + yn0) (hy1 : 2147483648 ≤ yn1) (hy1' : yn1 < 4294967296) (hy0 : 0 ≤ yn0) (hy0' : yn0 < 4294967296)
    (hu0 : 0 ≤ u) (hu : u < v) (hd0 : 0 ≤ d) (hd : d < 4294967296) :
    u / yn1 * yn1 + u % yn1 = u ∧ (u * 4294967296 + d) / v ≤ u / yn1 ∧ u / yn1 ≤ 4294967297 ∧ 0 ≤ u % yn1 ∧ u % yn1 < 4294967296 := by
  have h1 := Int.emod_add_mul_ediv u yn1
  have h2 := Int.emod_nonneg u (b := yn1) (by omega)
  have h3 := Int.emod_lt_of_pos u (b := yn1) (by omega)
  have e : u / yn1 * yn1 + u % yn1 = u := by rw [Int.mul_comm]; omega
  have hq0 : 0 ≤ u / yn1 := Int.ediv_nonneg hu0 (by omega)
  refine ⟨e, ?_, ?_, h2, by omega⟩
  · have ht := div_test (d := d) (u := u) (q := u / yn1 + 1) (rh := u % yn1 - yn1) hv (by omega) (by rw [Int.add_mul, Int.one_mul]; omega)
    have hm := Int.mul_nonneg hq0 hy0
    have : 4294967296 * (u % yn1 - yn1) + d < (u / yn1 + 1) * yn0 := by rw [Int.add_mul, Int.one_mul]; omega
    have := ht.2 this
    omega
  · have : u / yn1 < 4294967298 := (Int.ediv_lt_iff_lt_mul (by omega)).2 (by omega)
    omega

theorem and_mask (x : Int) (h : W64 x) : Go.bits .and .u64 x 4294967295 = x % 4294967296 := by
  rw [u64_and x 4294967295 h.1 (by omega) (by omega) (by omega)]
  have e : (4294967295 : Int).toNat = 2 ^ 32 - 1 := rfl
  rw [e, Nat.and_two_pow_sub_one_eq_mod]
  omega
theorem or_low (q b : Int) (n : Nat) (hn : n ≤ 64) (h0 : 0 ≤ q) (hb0 : 0 ≤ b) (hb : b < 2 ^ n) (hq : q * 2 ^ n ≤ 18446744073709551615) : Go.bits .or .u64 (q * 2 ^ n) b = q * 2 ^ n + b := by
  have hp : (0 : Int) < 2 ^ n := Int.pow_pos (by omega)
  have h64 : (2 : Nat) ^ n ≤ 2 ^ 64 := Nat.pow_le_pow_right (by omega) hn
  obtain ⟨q, rfl⟩ := Int.eq_ofNat_of_zero_le h0
  obtain ⟨b, rfl⟩ := Int.eq_ofNat_of_zero_le hb0
  have hc : ((2 ^ n : Nat) : Int) = 2 ^ n := by simp
  have hqn : (q : Int) * 2 ^ n = ((2 ^ n * q : Nat) : Int) := by rw [Int.natCast_mul, hc, Int.mul_comm]
  have hbn : b < 2 ^ n := by rw [← hc] at hb; omega
  rw [hqn] at hq ⊢
  rw [u64_or _ _ (by omega) (by omega) (by omega) (by omega), Int.toNat_natCast, Int.toNat_natCast, ← Nat.two_pow_add_eq_or_of_lt hbn]
  omega
theorem div64_tells (hi lo y : Int) (h1 : W64 hi) (h2 : W64 lo) (h3 : W64 y) (hlt : hi < y) :
    ∃ k r, bits_Div64.f k hi lo y = some ((hi * 18446744073709551616 + lo) / y, r) := by
  have hy0 : 0 < y := by omega
  by_cases hz : hi = 0
  · refine ⟨0, Int.tmod lo y, ?_⟩
    unfold bits_Div64.f
    rw [if_neg (by omega), if_neg (by omega), if_pos hz, Int.tdiv_eq_ediv_of_nonneg h2.1]
    have hd0 : 0 ≤ lo / y := Int.ediv_nonneg h2.1 h3.1
    have hd1 : lo / y ≤ lo := Int.ediv_le_self y h2.1
    rw [w64 (by omega), hz, Int.zero_mul, Int.zero_add]
  · -- the shift
    have hy : y.toNat < 2 ^ 64 := by omega
    obtain ⟨b1, b2, b3⟩ := Lib.bitLenAux_bounds 64 y.toNat hy (by omega)
    have b4 : Lib.bitLenAux 64 y.toNat ≤ 64 := Lib.bitLen_le y.toNat 64 (Nat.le_refl _) hy
    have eL : Lib.bitLen y.toNat = Lib.bitLenAux 64 y.toNat := rfl
    generalize Lib.bitLenAux 64 y.toNat = L at *
    obtain ⟨s, hs⟩ : ∃ s : Nat, s + L = 64 := ⟨64 - L, by omega⟩
    have hP0 : (0 : Int) < 2 ^ s := Int.pow_pos (by omega)
    have hL0 : (0 : Int) < 2 ^ L := Int.pow_pos (by omega)
    have hPL : (2 : Int) ^ s * 2 ^ L = 18446744073709551616 := by rw [← Int.pow_add, hs]; rfl
    have hyL : y < 2 ^ L := by
      have : ((y.toNat : Nat) : Int) < ((2 ^ L : Nat) : Int) := by exact_mod_cast b3
      rw [Int.natCast_pow] at this
      have e : ((2 : Nat) : Int) = 2 := rfl
      rw [e] at this; omega
    have hyL' : 2 ^ L ≤ 2 * y := by
      have : ((2 ^ (L - 1) : Nat) : Int) ≤ ((y.toNat : Nat) : Int) := by exact_mod_cast b2
      rw [Int.natCast_pow] at this
      have e : ((2 : Nat) : Int) = 2 := rfl
      rw [e] at this
      have e2 : (2 : Int) ^ L = 2 ^ (L - 1) * 2 := by rw [← Int.pow_succ]; congr 1; omega
      omega
    -- the numbers
    have hv1 : y * 2 ^ s < 18446744073709551616 := by rw [← hPL, Int.mul_comm (2 ^ s)]; exact Int.mul_lt_mul_of_pos_right hyL hP0
    have hv2 : 18446744073709551616 ≤ 2 * (y * 2 ^ s) := by
      rw [← hPL, Int.mul_comm (2 ^ s), ← Int.mul_assoc]; exact Int.mul_le_mul_of_nonneg_right hyL' (by omega)
    have hh1 : hi * 2 ^ s ≤ y * 2 ^ s := Int.mul_le_mul_of_nonneg_right (by omega) (by omega)
    have hh0 : 0 ≤ hi * 2 ^ s := Int.mul_nonneg h1.1 (by omega)
    have hlo0 : 0 ≤ lo / 2 ^ L := Int.ediv_nonneg h2.1 (by omega)
    have hlo1 : lo / 2 ^ L < 2 ^ s := (Int.ediv_lt_iff_lt_mul hL0).2 (by omega)
    have hlP : 0 ≤ lo * 2 ^ s := Int.mul_nonneg h2.1 (by omega)
    have hcarry : lo * 2 ^ s / 18446744073709551616 = lo / 2 ^ L := by
      rw [← hPL, Int.mul_comm lo, Int.mul_ediv_mul_of_pos _ _ hP0]
    have hsum : (hi * 2 ^ s + lo / 2 ^ L) * 18446744073709551616 + lo * 2 ^ s % 18446744073709551616 = (hi * 18446744073709551616 + lo) * 2 ^ s := by
      have e1 : (hi * 18446744073709551616 + lo) * 2 ^ s = hi * 2 ^ s * 18446744073709551616 + lo * 2 ^ s := by
        rw [Int.add_mul, Int.mul_assoc, Int.mul_assoc, Int.mul_comm 18446744073709551616]
      rw [e1, ← hcarry]
      omega
    have hltv : hi * 2 ^ s + lo / 2 ^ L < y * 2 ^ s := by
      have e2 : (hi * 18446744073709551616 + lo) * 2 ^ s < y * 18446744073709551616 * 2 ^ s := Int.mul_lt_mul_of_pos_right (by omega) hP0
      rw [Int.mul_assoc, Int.mul_comm 18446744073709551616, ← Int.mul_assoc] at e2
      omega
    have efin : (hi * 18446744073709551616 + lo) / y = ((hi * 2 ^ s + lo / 2 ^ L) * 18446744073709551616 + lo * 2 ^ s % 18446744073709551616) / (y * 2 ^ s) := by
      rw [hsum, Int.mul_comm _ (2 ^ s), Int.mul_comm _ (2 ^ s), Int.mul_ediv_mul_of_pos _ _ hP0]
    have ew : IntKind.u64.wrap (64 - (L : Int)) = s := by rw [w64 (by omega)]; omega
    have ew2 : IntKind.u64.wrap (64 - (s : Int)) = L := by rw [w64 (by omega)]; omega
    have es1 : shl .u64 y (s : Int) = y * 2 ^ s := by
      unfold shl
      rw [Int.toNat_natCast, Nat.min_eq_left (by show s ≤ 64; omega), w64 (by omega)]
    have es2 : shl .u64 hi (s : Int) = hi * 2 ^ s := by
      unfold shl
      rw [Int.toNat_natCast, Nat.min_eq_left (by show s ≤ 64; omega), w64 (by omega)]
    have es3 : shl .u64 lo (s : Int) = lo * 2 ^ s % 18446744073709551616 := by
      unfold shl
      rw [Int.toNat_natCast, Nat.min_eq_left (by show s ≤ 64; omega), ww]
    have es4 : shr .u64 lo (L : Int) = lo / 2 ^ L := by
      unfold shr
      rw [Int.toNat_natCast, Nat.min_eq_left (by show L ≤ 64; omega)]
    have es5 : Go.bits .or .u64 (hi * 2 ^ s) (lo / 2 ^ L) = hi * 2 ^ s + lo / 2 ^ L := or_low hi _ s (by omega) h1.1 hlo0 hlo1 (by omega)
    have hm0 := w64_mod (lo * 2 ^ s)
    have hu0 : 0 ≤ hi * 2 ^ s + lo / 2 ^ L := by omega
    rw [efin]
    -- the code
    have hcode : ∀ k, bits_Div64.f k hi lo y = bits_Div64.l0 k (y * 2 ^ s) s (y * 2 ^ s / 4294967296) (y * 2 ^ s % 4294967296) (hi * 2 ^ s + lo / 2 ^ L) (lo * 2 ^ s % 18446744073709551616 / 4294967296) (lo * 2 ^ s % 18446744073709551616 % 4294967296)
        ((hi * 2 ^ s + lo / 2 ^ L) / (y * 2 ^ s / 4294967296)) ((hi * 2 ^ s + lo / 2 ^ L) % (y * 2 ^ s / 4294967296)) := by
      intro k
      unfold bits_Div64.f bits_LeadingZeros64.f
      rw [if_neg (by omega), if_neg (by omega), if_neg hz, if_pos h3]
      simp only [Option.bind_some]
      rw [eL, ew, ew2, es1, es2, es3, es4, es5, and_mask _ hm0, and_mask _ (by omega)]
      rw [if_pos (by omega), if_pos (by omega), if_neg (by omega)]
      generalize hi * 2 ^ s + lo / 2 ^ L = u at *
      generalize y * 2 ^ s = v at *
      obtain ⟨g1, g2, g3, g4, g5⟩ := div_guess (v := v) (yn1 := v / 4294967296) (yn0 := v % 4294967296) (u := u) (d := 0) (by omega) (by omega) (by omega) (by omega) (by omega) hu0 hltv (by omega) (by omega)
      have hq0 : 0 ≤ u / (v / 4294967296) := Int.ediv_nonneg hu0 (by omega)
      have hqm := Int.mul_nonneg hq0 (show (0 : Int) ≤ v / 4294967296 by omega)
      rw [Int.tdiv_eq_ediv_of_nonneg hu0, w64 (x := u / (v / 4294967296)) (by omega)]
      generalize u / (v / 4294967296) * (v / 4294967296) = m at *
      rw [w64 (x := m) (by omega), w64 (x := u - m) (by omega)]
      congr 1
      omega
    generalize hi * 2 ^ s + lo / 2 ^ L = u at *
    generalize y * 2 ^ s = v at *
    generalize lo * 2 ^ s % 18446744073709551616 = un at *
    clear efin es5 es4 es3 es2 es1 ew ew2 hsum hcarry
    obtain ⟨g1, g2, g3, g4, g5⟩ := div_guess (v := v) (yn1 := v / 4294967296) (yn0 := v % 4294967296) (u := u) (d := un / 4294967296) (by omega) (by omega) (by omega) (by omega) (by omega) hu0 hltv (by omega) (by omega)
    obtain ⟨n, hn⟩ : ∃ n : Nat, u / (v / 4294967296) - (u * 4294967296 + un / 4294967296) / v = n := ⟨(u / (v / 4294967296) - (u * 4294967296 + un / 4294967296) / v).toNat, by omega⟩
    have hrest := div_rest (v := v) (u := u) (d := un / 4294967296) (by omega) (by omega)
    have hr0 := Int.emod_nonneg (u * 4294967296 + un / 4294967296) (b := v) (by omega)
    have hr1 := Int.emod_lt_of_pos (u * 4294967296 + un / 4294967296) (b := v) (by omega)
    have hdm := Int.emod_add_mul_ediv (u * 4294967296 + un / 4294967296) v
    obtain ⟨hQ0, hQ1⟩ := div_digit (v := v) (u := u) (d := un / 4294967296) (by omega) hu0 hltv (by omega) (by omega)
    obtain ⟨f1, f2, f3, f4, f5⟩ := div_guess (v := v) (yn1 := v / 4294967296) (yn0 := v % 4294967296) (u := (u * 4294967296 + un / 4294967296) % v) (d := un % 4294967296) (by omega) (by omega) (by omega) (by omega) (by omega) hr0 hr1 (by omega) (by omega)
    have efin2 : (u * 18446744073709551616 + un) / v = (u * 4294967296 + un / 4294967296) / v * 4294967296 + ((u * 4294967296 + un / 4294967296) % v * 4294967296 + un % 4294967296) / v := by
      generalize (u * 4294967296 + un / 4294967296) % v = u' at *
      generalize (u * 4294967296 + un / 4294967296) / v = Q at *
      have e : u * 18446744073709551616 + un = (u' * 4294967296 + un % 4294967296) + v * (Q * 4294967296) := by
        rw [← Int.mul_assoc]; omega
      rw [e, Int.add_mul_ediv_left _ _ (by omega)]
      omega
    obtain ⟨hZ0, hZ1⟩ := div_digit (v := v) (u := (u * 4294967296 + un / 4294967296) % v) (d := un % 4294967296) (by omega) hr0 hr1 (by omega) (by omega)
    obtain ⟨n', hn'⟩ : ∃ n : Nat, (u * 4294967296 + un / 4294967296) % v / (v / 4294967296) - ((u * 4294967296 + un / 4294967296) % v * 4294967296 + un % 4294967296) / v = n := ⟨((u * 4294967296 + un / 4294967296) % v / (v / 4294967296) - ((u * 4294967296 + un / 4294967296) % v * 4294967296 + un % 4294967296) / v).toNat, by omega⟩
    obtain ⟨j, hj, e0⟩ := div_l0 (v := v) (s := s) (yn1 := v / 4294967296) (yn0 := v % 4294967296) (un1 := un / 4294967296) (un0 := un % 4294967296) (u := u) (by omega) (by omega) (by omega) (by omega) (by omega) hu0 hltv (by omega) (by omega) n (2 * n + 2 * n' + 8) _ _ g1 g2 g3 g4 g5 hn (by omega)
    refine ⟨2 * n + 2 * n' + 8, ?_⟩
    rw [hcode, e0]
    obtain ⟨j, rfl⟩ : ∃ m, j = m + 1 := ⟨j - 1, by omega⟩
    simp only [bits_Div64.j2]
    rw [if_neg (by omega), hrest, Int.tdiv_eq_ediv_of_nonneg hr0]
    rw [efin2]
    generalize (u * 4294967296 + un / 4294967296) % v = u' at *
    have hq0 : 0 ≤ u' / (v / 4294967296) := Int.ediv_nonneg hr0 (by omega)
    have hqm := Int.mul_nonneg hq0 (show (0 : Int) ≤ v / 4294967296 by omega)
    rw [w64 (x := u' / (v / 4294967296)) (by omega)]
    have hm' : IntKind.u64.wrap (u' - IntKind.u64.wrap (u' / (v / 4294967296) * (v / 4294967296))) = u' % (v / 4294967296) := by
      generalize u' / (v / 4294967296) * (v / 4294967296) = m at *
      rw [w64 (x := m) (by omega), w64 (x := u' - m) (by omega)]; omega
    rw [hm']
    obtain ⟨r, er⟩ := div_l1 (v := v) (s := s) (yn1 := v / 4294967296) (yn0 := v % 4294967296) (un0 := un % 4294967296) (q1 := (u * 4294967296 + un / 4294967296) / v) (u := u') (by omega) (by omega) (by omega) (by omega) (by omega) hr0 hr1 (by omega) (by omega) (by omega) n' j _ _ f1 f2 f3 f4 f5 hn' (by omega)
    rw [er]
    refine ⟨r, ?_⟩
    rw [w64 (x := (u * 4294967296 + un / 4294967296) / v * 4294967296) (by omega), w64 (by omega)]

theorem muldiv_tells (a b c : Int) (h1 : W64 a) (h2 : W64 b) (h3 : W64 c) : ∃ k, fix_MulDiv.f k a b c = some (uMulDiv a b c) := by
  have hp := Int.mul_nonneg h1.1 h2.1
  have hp' := mul_bd (A := 18446744073709551615) (B := 18446744073709551615) h1.1 h1.2 h2.1 h2.2
  unfold fix_MulDiv.f bits_Mul64.f uMulDiv
  rw [if_pos ⟨h1, h2⟩]
  simp only [Option.bind_some]
  generalize a * b = p at *
  by_cases hz : p = 0
  · refine ⟨1, ?_⟩
    subst hz
    simp [fix_MulDiv.j0]
  · by_cases hc : c * 18446744073709551616 ≤ p
    · refine ⟨1, ?_⟩
      have e : ∀ z, (z = true → False) → fix_MulDiv.j0 1 c (p / 18446744073709551616) (p % 18446744073709551616) z = some 18446744073709551615 := by
        intro z hz'
        simp only [fix_MulDiv.j0]
        rw [if_neg hz', if_pos (by omega)]
      rw [if_neg hz, if_pos hc]
      split
      · exact e _ (by simp; omega)
      · exact e _ (by simp)
    · obtain ⟨k, r, hk⟩ := div64_tells (p / 18446744073709551616) (p % 18446744073709551616) c (by omega) (by omega) h3 (by omega)
      have ep : p / 18446744073709551616 * 18446744073709551616 + p % 18446744073709551616 = p := by omega
      rw [ep] at hk
      refine ⟨k + 1, ?_⟩
      have e : ∀ z, (z = true → False) → fix_MulDiv.j0 (k + 1) c (p / 18446744073709551616) (p % 18446744073709551616) z = some (p / c) := by
        intro z hz'
        simp only [fix_MulDiv.j0]
        rw [if_neg hz', if_neg (by omega), hk]
        rfl
      rw [if_neg hz, if_neg hc]
      split
      · exact e _ (by simp; omega)
      · exact e _ (by simp)
def fix_MulDivT.f (a0 : Int) (a1 : Int) (a2 : Int) : Option Int := if W64 a0 ∧ W64 a1 ∧ W64 a2 then some (uMulDiv a0 a1 a2) else none
theorem fix_MulDivT.calls (a0 : Int) (a1 : Int) (a2 : Int) (r : Int) (w : World) (h : fix_MulDivT.f a0 a1 a2 = some r) :
    Calls Try.prog 35 #[.int .u64 a0, .int .u64 a1, .int .u64 a2] w fun e w' => e = .returned (.int .u64 r) ∧ Drawn0 w w' := by
  unfold fix_MulDivT.f at h
  split at h
  · rename_i hw
    obtain ⟨k, hk⟩ := muldiv_tells a0 a1 a2 hw.1 hw.2.1 hw.2.2
    exact fix_MulDiv.calls k a0 a1 a2 r w (hk.trans h)
  · cases h
theorem fix_MulDivT.C (a b c : Int) (ha : W64 a) (hb : W64 b) (hc : W64 c) (w : World) : Calls Try.prog 35 #[.int .u64 a, .int .u64 b, .int .u64 c] w fun e w' => e = .returned (.int .u64 (uMulDiv a b c)) ∧ Drawn0 w w' :=
  fix_MulDivT.calls a b c _ w (by unfold fix_MulDivT.f; rw [if_pos ⟨ha, hb, hc⟩])
theorem fix_MulDivT.Q (a b c : Int) (ha : W64 a) (hb : W64 b) (hc : W64 c) (w : World) (n : Nat) : Calls Try.prog 35 #[.int .u64 a, .int .u64 b, .int .u64 c] (w.drewN n) fun e w' => e = .returned (.int .u64 (uMulDiv a b c)) ∧ ∃ m, w' = w.drewN m := quiet_c (fix_MulDivT.C a b c ha hb hc) n


end Go.Proofs.Ytoanhimhomgjmaa.PPrO
