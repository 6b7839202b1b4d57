-- Written by a program of this session (wip/tools/xprint.py) for this claim.
import Derived.Test.YtaaieijkmhmecaaPPrCx0
import Derived.Test.YtaaieijkmhmecaaPPrCx2
namespace Go.Proofs.Ytaaieijkmhmecaa.PPrC
open Go.RowKit Go.Proofs.YtaaieijkmhmecaaW.PrintWords Go.Proofs.YtaaieijkmhmecaaW.PrintLast Go.Proofs.YtaaieijkmhmecaaW.PrintMore
attribute [local go_sem] max2_int min2_int max_two min_two max_three min_three max_four min_four   -- for this text's walks alone
set_option linter.unusedVariables false
set_option linter.unusedSimpArgs false

/-! ### fix_MulDivT: function 26, told anew -/
theorem div_test {yn1 yn0 v u d q rh : Int} (hv : v = yn1 * 4294967296 + yn0) (hv0 : 0 < v) (h : q * yn1 + rh = u) :
    (u * 4294967296 + d) / v < q ↔ 4294967296 * rh + d < q * yn0 := by
  rw [Int.ediv_lt_iff_lt_mul hv0, hv, Int.mul_add, ← Int.mul_assoc]
  generalize q * yn1 = p at *
  generalize q * yn0 = m at *
  omega
/-- A digit's quotient lies below the base. -/
theorem div_digit {v u d : Int} (hv0 : 0 < v) (hu0 : 0 ≤ u) (hu : u < v) (hd0 : 0 ≤ d) (hd : d < 4294967296) :
    0 ≤ (u * 4294967296 + d) / v ∧ (u * 4294967296 + d) / v ≤ 4294967295 := by
  refine ⟨Int.ediv_nonneg (by omega) (by omega), ?_⟩
  have : (u * 4294967296 + d) / v < 4294967296 := (Int.ediv_lt_iff_lt_mul hv0).2 (by omega)
  omega

theorem div_l1 {v s yn1 yn0 un0 q1 u : Int} (hv : v = yn1 * 4294967296 + yn0) (hy1 : 2147483648 ≤ yn1) (hy1' : yn1 < 4294967296) (hy0 : 0 ≤ yn0) (hy0' : yn0 < 4294967296)
    (hu0 : 0 ≤ u) (hu : u < v) (hd0 : 0 ≤ un0) (hd : un0 < 4294967296) (hs : 0 ≤ s) (n : Nat) :
    ∀ (k : Nat) (rh q : Int), q * yn1 + rh = u → (u * 4294967296 + un0) / v ≤ q → q ≤ 4294967297 → 0 ≤ rh → rh < 4294967296 → q - (u * 4294967296 + un0) / v = n → 2 * n + 2 ≤ k →
    ∃ r, bits_Div64.l1 k v s yn1 yn0 un0 q1 rh u q = some (IntKind.u64.wrap (IntKind.u64.wrap (q1 * 4294967296) + (u * 4294967296 + un0) / v), r) := by
  have hv0 : 0 < v := by omega
  obtain ⟨hQ0, hQ1⟩ := div_digit hv0 hu0 hu hd0 hd
  induction n with
  | zero =>
    intro k rh q h1 h2 h3 h4 h5 h6 hk
    obtain ⟨k, rfl⟩ : ∃ m, k = m + 2 := ⟨k - 2, by omega⟩
    have ht := div_test (d := un0) hv hv0 h1
    have hb := mul_bd (a := q) (b := yn0) (A := 4294967295) (B := 4294967295) (by omega) (by omega) hy0 (by omega)
    generalize (u * 4294967296 + un0) / v = Q at *
    obtain rfl : q = Q := by omega
    have hng : ¬ (4294967296 * rh + un0 < q * yn0) := by rw [← ht]; omega
    simp only [bits_Div64.l1]
    rw [if_neg (by omega), w64 (x := q * yn0) (by omega), w64 (x := 4294967296 * rh) (by omega), w64 (x := 4294967296 * rh + un0) (by omega), decide_eq_false (by omega)]
    simp only [bits_Div64.j4]
    rw [if_neg (by simp), if_pos hs]
    exact ⟨_, rfl⟩
  | succ n ih =>
    intro k rh q h1 h2 h3 h4 h5 h6 hk
    obtain ⟨k, rfl⟩ : ∃ m, k = m + 2 := ⟨k - 2, by omega⟩
    have ht := div_test (d := un0) hv hv0 h1
    have hgt : (u * 4294967296 + un0) / v < q := by omega
    have ht1 := ht.1 hgt
    have h1' : (q - 1) * yn1 + (rh + yn1) = u := by rw [Int.sub_mul, Int.one_mul]; omega
    have hstep : bits_Div64.l1 (k + 2) v s yn1 yn0 un0 q1 rh u q = bits_Div64.j4 (k + 1) v s yn1 yn0 un0 q1 rh u q true := by
      simp only [bits_Div64.l1]
      by_cases hc : q ≥ 4294967296
      · rw [if_pos hc]
      · have hb := mul_bd (a := q) (b := yn0) (A := 4294967295) (B := 4294967295) (by omega) (by omega) hy0 (by omega)
        rw [if_neg hc, w64 (x := q * yn0) (by omega), w64 (x := 4294967296 * rh) (by omega), w64 (x := 4294967296 * rh + un0) (by omega), decide_eq_true (by omega)]
    rw [hstep]
    simp only [bits_Div64.j4]
    rw [if_pos trivial, w64 (x := rh + yn1) (by omega), w64 (x := q - 1) (by omega)]
    by_cases hc : rh + yn1 ≥ 4294967296
    · have hm := mul_bd (a := q - 1) (b := yn0) (A := 4294967296) (B := 4294967295) (by omega) (by omega) hy0 (by omega)
      have hq : q - 1 = (u * 4294967296 + un0) / v := by
        have ht' := div_test (d := un0) hv hv0 h1'
        have : ¬ ((u * 4294967296 + un0) / v < q - 1) := by rw [ht']; omega
        omega
      rw [if_pos hc, if_pos hs, hq]
      exact ⟨_, rfl⟩
    · rw [if_neg hc]
      exact ih k (rh + yn1) (q - 1) h1' (by omega) (by omega) (by omega) (by omega) (by omega) (by omega)

/-- The remainder behind a digit, reckoned as the code reckons it. -/
theorem div_rest {v u d : Int} (hv0 : 0 < v) (hv1 : v ≤ 18446744073709551615) :
    IntKind.u64.wrap (IntKind.u64.wrap (IntKind.u64.wrap (u * 4294967296) + d) - IntKind.u64.wrap ((u * 4294967296 + d) / v * v)) = (u * 4294967296 + d) % v := by
  have h1 := Int.emod_add_mul_ediv (u * 4294967296 + d) v
  have h2 := Int.emod_nonneg (u * 4294967296 + d) (b := v) (by omega)
  have h3 := Int.emod_lt_of_pos (u * 4294967296 + d) hv0
  rw [Int.mul_comm v] at h1
  rw [ww, ww, ww, ww]
  generalize (u * 4294967296 + d) / v * v = p at *
  omega

theorem div_l0 {v s yn1 yn0 un1 un0 u : Int} (hv : v = yn1 * 4294967296 + yn0) (hy1 : 2147483648 ≤ yn1) (hy1' : yn1 < 4294967296) (hy0 : 0 ≤ yn0) (hy0' : yn0 < 4294967296)
    (hu0 : 0 ≤ u) (hu : u < v) (hd0 : 0 ≤ un1) (hd : un1 < 4294967296) (n : Nat) :
    ∀ (k : Nat) (rh q : Int), q * yn1 + rh = u → (u * 4294967296 + un1) / v ≤ q → q ≤ 4294967297 → 0 ≤ rh → rh < 4294967296 → q - (u * 4294967296 + un1) / v = n → 2 * n + 2 ≤ k →
    ∃ j, k ≤ j + 2 * n + 2 ∧ bits_Div64.l0 k v s yn1 yn0 u un1 un0 q rh = bits_Div64.j2 j v s yn1 yn0 u un1 un0 ((u * 4294967296 + un1) / v) := by
  have hv0 : 0 < v := by omega
  obtain ⟨hQ0, hQ1⟩ := div_digit hv0 hu0 hu hd0 hd
  induction n with
  | zero =>
    intro k rh q h1 h2 h3 h4 h5 h6 hk
    obtain ⟨k, rfl⟩ : ∃ m, k = m + 2 := ⟨k - 2, by omega⟩
    have ht := div_test (d := un1) hv hv0 h1
    have hb := mul_bd (a := q) (b := yn0) (A := 4294967295) (B := 4294967295) (by omega) (by omega) hy0 (by omega)
    generalize (u * 4294967296 + un1) / v = Q at *
    obtain rfl : q = Q := by omega
    have hng : ¬ (4294967296 * rh + un1 < q * yn0) := by rw [← ht]; omega
    simp only [bits_Div64.l0]
    rw [if_neg (by omega), w64 (x := q * yn0) (by omega), w64 (x := 4294967296 * rh) (by omega), w64 (x := 4294967296 * rh + un1) (by omega), decide_eq_false (by omega)]
    simp only [bits_Div64.j1]
    rw [if_neg (by simp)]
    exact ⟨k, by omega, rfl⟩
  | succ n ih =>
    intro k rh q h1 h2 h3 h4 h5 h6 hk
    obtain ⟨k, rfl⟩ : ∃ m, k = m + 2 := ⟨k - 2, by omega⟩
    have ht := div_test (d := un1) hv hv0 h1
    have hgt : (u * 4294967296 + un1) / v < q := by omega
    have ht1 := ht.1 hgt
    have h1' : (q - 1) * yn1 + (rh + yn1) = u := by rw [Int.sub_mul, Int.one_mul]; omega
    have hstep : bits_Div64.l0 (k + 2) v s yn1 yn0 u un1 un0 q rh = bits_Div64.j1 (k + 1) v s yn1 yn0 u un1 un0 q rh true := by
      simp only [bits_Div64.l0]
      by_cases hc : q ≥ 4294967296
      · rw [if_pos hc]
      · have hb := mul_bd (a := q) (b := yn0) (A := 4294967295) (B := 4294967295) (by omega) (by omega) hy0 (by omega)
        rw [if_neg hc, w64 (x := q * yn0) (by omega), w64 (x := 4294967296 * rh) (by omega), w64 (x := 4294967296 * rh + un1) (by omega), decide_eq_true (by omega)]
    rw [hstep]
    simp only [bits_Div64.j1]
    rw [if_pos trivial, w64 (x := rh + yn1) (by omega), w64 (x := q - 1) (by omega)]
    by_cases hc : rh + yn1 ≥ 4294967296
    · have hm := mul_bd (a := q - 1) (b := yn0) (A := 4294967296) (B := 4294967295) (by omega) (by omega) hy0 (by omega)
      have hq : q - 1 = (u * 4294967296 + un1) / v := by
        have ht' := div_test (d := un1) hv hv0 h1'
        have : ¬ ((u * 4294967296 + un1) / v < q - 1) := by rw [ht']; omega
        omega
      rw [if_pos hc, hq]
      exact ⟨k, by omega, rfl⟩
    · rw [if_neg hc]
      obtain ⟨j, hj, e⟩ := ih k (rh + yn1) (q - 1) h1' (by omega) (by omega) (by omega) (by omega) (by omega) (by omega)
      exact ⟨j, by omega, e⟩
/-- The first guess of a digit: at most two too great. -/
theorem div_guess {v yn1 yn0 u d : Int} (hv : v = yn1 * 4294967296 + yn0) (hy1 : 2147483648 ≤ yn1) (hy1' : yn1 < 4294967296) (hy0 : 0 ≤ yn0) (hy0' : yn0 < 4294967296)
    (hu0 : 0 ≤ u) (hu : u < v) (hd0 : 0 ≤ d) (hd : d < 4294967296) :
    u / yn1 * yn1 + u % yn1 = u ∧ (u * 4294967296 + d) / v ≤ u / yn1 ∧ u / yn1 ≤ 4294967297 ∧ 0 ≤ u % yn1 ∧ u % yn1 < 4294967296 := by
  have h1 := Int.emod_add_mul_ediv u yn1
  have h2 := Int.emod_nonneg u (b := yn1) (by omega)
  have h3 := Int.emod_lt_of_pos u (b := yn1) (by omega)
  have e : u / yn1 * yn1 + u % yn1 = u := by rw [Int.mul_comm]; omega
  have hq0 : 0 ≤ u / yn1 := Int.ediv_nonneg hu0 (by omega)
  refine ⟨e, ?_, ?_, h2, by omega⟩
  · have ht := div_test (d := d) (u := u) (q := u / yn1 + 1) (rh := u % yn1 - yn1) hv (by omega) (by rw [Int.add_mul, Int.one_mul]; omega)
    have hm := Int.mul_nonneg hq0 hy0
    have : 4294967296 * (u % yn1 - yn1) + d < (u / yn1 + 1) * yn0 := by rw [Int.add_mul, Int.one_mul]; omega
    have := ht.2 this
    omega
  · have : u / yn1 < 4294967298 := (Int.ediv_lt_iff_lt_mul (by omega)).2 (by omega)
    omega

theorem and_mask (x : Int) (h : W64 x) : Go.bits .and .u64 x 4294967295 = x % 4294967296 := by
  rw [u64_and x 4294967295 h.1 (by omega) (by omega) (by omega)]
  have e : (4294967295 : Int).toNat = 2 ^ 32 - 1 := rfl
  rw [e, Nat.and_two_pow_sub_one_eq_mod]
  omega
theorem or_low (q b : Int) (n : Nat) (hn : n ≤ 64) (h0 : 0 ≤ q) (hb0 : 0 ≤ b) (hb : b < 2 ^ n) (hq : q * 2 ^ n ≤ 18446744073709551615) : Go.bits .or .u64 (q * 2 ^ n) b = q * 2 ^ n + b := by
  have hp : (0 : Int) < 2 ^ n := Int.pow_pos (by omega)
  have h64 : (2 : Nat) ^ n ≤ 2 ^ 64 := Nat.pow_le_pow_right (by omega) hn
  obtain ⟨q, rfl⟩ := Int.eq_ofNat_of_zero_le h0
  obtain ⟨b, rfl⟩ := Int.eq_ofNat_of_zero_le hb0
  have hc : ((2 ^ n : Nat) : Int) = 2 ^ n := by simp
  have hqn : (q : Int) * 2 ^ n = ((2 ^ n * q : Nat) : Int) := by rw [Int.natCast_mul, hc, Int.mul_comm]
  have hbn : b < 2 ^ n := by rw [← hc] at hb; omega
  rw [hqn] at hq ⊢
  rw [u64_or _ _ (by omega) (by omega) (by omega) (by omega), Int.toNat_natCast, Int.toNat_natCast, ← Nat.two_pow_add_eq_or_of_lt hbn]
  omega
theorem div64_tells (hi lo y : Int) (h1 : W64 hi) (h2 : W64 lo) (h3 : W64 y) (hlt : hi < y) :
    ∃ k r, bits_Div64.f k hi lo y = some ((hi * 18446744073709551616 + lo) / y, r) := by
  have hy0 : 0 < y := by omega
  by_cases hz : hi = 0
  · refine ⟨0, Int.tmod lo y, ?_⟩
    unfold bits_Div64.f
    rw [if_neg (by omega), if_neg (by omega), if_pos hz, Int.tdiv_eq_ediv_of_nonneg h2.1]
    have hd0 : 0 ≤ lo / y := Int.ediv_nonneg h2.1 h3.1
    have hd1 : lo / y ≤ lo := Int.ediv_le_self y h2.1
    rw [w64 (by omega), hz, Int.zero_mul, Int.zero_add]
  · -- the shift
    have hy : y.toNat < 2 ^ 64 := by omega
    obtain ⟨b1, b2, b3⟩ := Lib.bitLenAux_bounds 64 y.toNat hy (by omega)
    have b4 : Lib.bitLenAux 64 y.toNat ≤ 64 := Lib.bitLen_le y.toNat 64 (Nat.le_refl _) hy
    have eL : Lib.bitLen y.toNat = Lib.bitLenAux 64 y.toNat := rfl
    generalize Lib.bitLenAux 64 y.toNat = L at *
    obtain ⟨s, hs⟩ : ∃ s : Nat, s + L = 64 := ⟨64 - L, by omega⟩
    have hP0 : (0 : Int) < 2 ^ s := Int.pow_pos (by omega)
    have hL0 : (0 : Int) < 2 ^ L := Int.pow_pos (by omega)
    have hPL : (2 : Int) ^ s * 2 ^ L = 18446744073709551616 := by rw [← Int.pow_add, hs]; rfl
    have hyL : y < 2 ^ L := by
      have : ((y.toNat : Nat) : Int) < ((2 ^ L : Nat) : Int) := by exact_mod_cast b3
      rw [Int.natCast_pow] at this
      have e : ((2 : Nat) : Int) = 2 := rfl
      rw [e] at this; omega
    have hyL' : 2 ^ L ≤ 2 * y := by
      have : ((2 ^ (L - 1) : Nat) : Int) ≤ ((y.toNat : Nat) : Int) := by exact_mod_cast b2
      rw [Int.natCast_pow] at this
      have e : ((2 : Nat) : Int) = 2 := rfl
      rw [e] at this
      have e2 : (2 : Int) ^ L = 2 ^ (L - 1) * 2 := by rw [← Int.pow_succ]; congr 1; omega
      omega
    -- the numbers
    have hv1 : y * 2 ^ s < 18446744073709551616 := by rw [← hPL, Int.mul_comm (2 ^ s)]; exact Int.mul_lt_mul_of_pos_right hyL hP0
    have hv2 : 18446744073709551616 ≤ 2 * (y * 2 ^ s) := by
      rw [← hPL, Int.mul_comm (2 ^ s), ← Int.mul_assoc]; exact Int.mul_le_mul_of_nonneg_right hyL' (by omega)
    have hh1 : hi * 2 ^ s ≤ y * 2 ^ s := Int.mul_le_mul_of_nonneg_right (by omega) (by omega)
    have hh0 : 0 ≤ hi * 2 ^ s := Int.mul_nonneg h1.1 (by omega)
    have hlo0 : 0 ≤ lo / 2 ^ L := Int.ediv_nonneg h2.1 (by omega)
    have hlo1 : lo / 2 ^ L < 2 ^ s := (Int.ediv_lt_iff_lt_mul hL0).2 (by omega)
    have hlP : 0 ≤ lo * 2 ^ s := Int.mul_nonneg h2.1 (by omega)
    have hcarry : lo * 2 ^ s / 18446744073709551616 = lo / 2 ^ L := by
      rw [← hPL, Int.mul_comm lo, Int.mul_ediv_mul_of_pos _ _ hP0]
    have hsum : (hi * 2 ^ s + lo / 2 ^ L) * 18446744073709551616 + lo * 2 ^ s % 18446744073709551616 = (hi * 18446744073709551616 + lo) * 2 ^ s := by
      have e1 : (hi * 18446744073709551616 + lo) * 2 ^ s = hi * 2 ^ s * 18446744073709551616 + lo * 2 ^ s := by
        rw [Int.add_mul, Int.mul_assoc, Int.mul_assoc, Int.mul_comm 18446744073709551616]
      rw [e1, ← hcarry]
      omega
    have hltv : hi * 2 ^ s + lo / 2 ^ L < y * 2 ^ s := by
      have e2 : (hi * 18446744073709551616 + lo) * 2 ^ s < y * 18446744073709551616 * 2 ^ s := Int.mul_lt_mul_of_pos_right (by omega) hP0
      rw [Int.mul_assoc, Int.mul_comm 18446744073709551616, ← Int.mul_assoc] at e2
      omega
    have efin : (hi * 18446744073709551616 + lo) / y = ((hi * 2 ^ s + lo / 2 ^ L) * 18446744073709551616 + lo * 2 ^ s % 18446744073709551616) / (y * 2 ^ s) := by
      rw [hsum, Int.mul_comm _ (2 ^ s), Int.mul_comm _ (2 ^ s), Int.mul_ediv_mul_of_pos _ _ hP0]
    have ew : IntKind.u64.wrap (64 - (L : Int)) = s := by rw [w64 (by omega)]; omega
    have ew2 : IntKind.u64.wrap (64 - (s : Int)) = L := by rw [w64 (by omega)]; omega
    have es1 : shl .u64 y (s : Int) = y * 2 ^ s := by
      unfold shl
      rw [Int.toNat_natCast, Nat.min_eq_left (by show s ≤ 64; omega), w64 (by omega)]
    have es2 : shl .u64 hi (s : Int) = hi * 2 ^ s := by
      unfold shl
      rw [Int.toNat_natCast, Nat.min_eq_left (by show s ≤ 64; omega), w64 (by omega)]
    have es3 : shl .u64 lo (s : Int) = lo * 2 ^ s % 18446744073709551616 := by
      unfold shl
      rw [Int.toNat_natCast, Nat.min_eq_left (by show s ≤ 64; omega), ww]
    have es4 : shr .u64 lo (L : Int) = lo / 2 ^ L := by
      unfold shr
      rw [Int.toNat_natCast, Nat.min_eq_left (by show L ≤ 64; omega)]
    have es5 : Go.bits .or .u64 (hi * 2 ^ s) (lo / 2 ^ L) = hi * 2 ^ s + lo / 2 ^ L := or_low hi _ s (by omega) h1.1 hlo0 hlo1 (by omega)
    have hm0 := w64_mod (lo * 2 ^ s)
    have hu0 : 0 ≤ hi * 2 ^ s + lo / 2 ^ L := by omega
    rw [efin]
    -- the code
    have hcode : ∀ k, bits_Div64.f k hi lo y = bits_Div64.l0 k (y * 2 ^ s) s (y * 2 ^ s / 4294967296) (y * 2 ^ s % 4294967296) (hi * 2 ^ s + lo / 2 ^ L) (lo * 2 ^ s % 18446744073709551616 / 4294967296) (lo * 2 ^ s % 18446744073709551616 % 4294967296)
        ((hi * 2 ^ s + lo / 2 ^ L) / (y * 2 ^ s / 4294967296)) ((hi * 2 ^ s + lo / 2 ^ L) % (y * 2 ^ s / 4294967296)) := by
      intro k
      unfold bits_Div64.f bits_LeadingZeros64.f
      rw [if_neg (by omega), if_neg (by omega), if_neg hz, if_pos h3]
      simp only [Option.bind_some]
      rw [eL, ew, ew2, es1, es2, es3, es4, es5, and_mask _ hm0, and_mask _ (by omega)]
      rw [if_pos (by omega), if_pos (by omega), if_neg (by omega)]
      generalize hi * 2 ^ s + lo / 2 ^ L = u at *
      generalize y * 2 ^ s = v at *
      obtain ⟨g1, g2, g3, g4, g5⟩ := div_guess (v := v) (yn1 := v / 4294967296) (yn0 := v % 4294967296) (u := u) (d := 0) (by omega) (by omega) (by omega) (by omega) (by omega) hu0 hltv (by omega) (by omega)
      have hq0 : 0 ≤ u / (v / 4294967296) := Int.ediv_nonneg hu0 (by omega)
      have hqm := Int.mul_nonneg hq0 (show (0 : Int) ≤ v / 4294967296 by omega)
      rw [Int.tdiv_eq_ediv_of_nonneg hu0, w64 (x := u / (v / 4294967296)) (by omega)]
      generalize u / (v / 4294967296) * (v / 4294967296) = m at *
      rw [w64 (x := m) (by omega), w64 (x := u - m) (by omega)]
      congr 1
      omega
    generalize hi * 2 ^ s + lo / 2 ^ L = u at *
    generalize y * 2 ^ s = v at *
    generalize lo * 2 ^ s % 18446744073709551616 = un at *
    clear efin es5 es4 es3 es2 es1 ew ew2 hsum hcarry
    obtain ⟨g1, g2, g3, g4, g5⟩ := div_guess (v := v) (yn1 := v / 4294967296) (yn0 := v % 4294967296) (u := u) (d := un / 4294967296) (by omega) (by omega) (by omega) (by omega) (by omega) hu0 hltv (by omega) (by omega)
    obtain ⟨n, hn⟩ : ∃ n : Nat, u / (v / 4294967296) - (u * 4294967296 + un / 4294967296) / v = n := ⟨(u / (v / 4294967296) - (u * 4294967296 + un / 4294967296) / v).toNat, by omega⟩
    have hrest := div_rest (v := v) (u := u) (d := un / 4294967296) (by omega) (by omega)
    have hr0 := Int.emod_nonneg (u * 4294967296 + un / 4294967296) (b := v) (by omega)
    have hr1 := Int.emod_lt_of_pos (u * 4294967296 + un / 4294967296) (b := v) (by omega)
    have hdm := Int.emod_add_mul_ediv (u * 4294967296 + un / 4294967296) v
    obtain ⟨hQ0, hQ1⟩ := div_digit (v := v) (u := u) (d := un / 4294967296) (by omega) hu0 hltv (by omega) (by omega)
    obtain ⟨f1, f2, f3, f4, f5⟩ := div_guess (v := v) (yn1 := v / 4294967296) (yn0 := v % 4294967296) (u := (u * 4294967296 + un / 4294967296) % v) (d := un % 4294967296) (by omega) (by omega) (by omega) (by omega) (by omega) hr0 hr1 (by omega) (by omega)
    have efin2 : (u * 18446744073709551616 + un) / v = (u * 4294967296 + un / 4294967296) / v * 4294967296 + ((u * 4294967296 + un / 4294967296) % v * 4294967296 + un % 4294967296) / v := by
      generalize (u * 4294967296 + un / 4294967296) % v = u' at *
      generalize (u * 4294967296 + un / 4294967296) / v = Q at *
      have e : u * 18446744073709551616 + un = (u' * 4294967296 + un % 4294967296) + v * (Q * 4294967296) := by
        rw [← Int.mul_assoc]; omega
      rw [e, Int.add_mul_ediv_left _ _ (by omega)]
      omega
    obtain ⟨hZ0, hZ1⟩ := div_digit (v := v) (u := (u * 4294967296 + un / 4294967296) % v) (d := un % 4294967296) (by omega) hr0 hr1 (by omega) (by omega)
    obtain ⟨n', hn'⟩ : ∃ n : Nat, (u * 4294967296 + un / 4294967296) % v / (v / 4294967296) - ((u * 4294967296 + un / 4294967296) % v * 4294967296 + un % 4294967296) / v = n := ⟨((u * 4294967296 + un / 4294967296) % v / (v / 4294967296) - ((u * 4294967296 + un / 4294967296) % v * 4294967296 + un % 4294967296) / v).toNat, by omega⟩
    obtain ⟨j, hj, e0⟩ := div_l0 (v := v) (s := s) (yn1 := v / 4294967296) (yn0 := v % 4294967296) (un1 := un / 4294967296) (un0 := un % 4294967296) (u := u) (by omega) (by omega) (by omega) (by omega) (by omega) hu0 hltv (by omega) (by omega) n (2 * n + 2 * n' + 8) _ _ g1 g2 g3 g4 g5 hn (by omega)
    refine ⟨2 * n + 2 * n' + 8, ?_⟩
    rw [hcode, e0]
    obtain ⟨j, rfl⟩ : ∃ m, j = m + 1 := ⟨j - 1, by omega⟩
    simp only [bits_Div64.j2]
    rw [if_neg (by omega), hrest, Int.tdiv_eq_ediv_of_nonneg hr0]
    rw [efin2]
    generalize (u * 4294967296 + un / 4294967296) % v = u' at *
    have hq0 : 0 ≤ u' / (v / 4294967296) := Int.ediv_nonneg hr0 (by omega)
    have hqm := Int.mul_nonneg hq0 (show (0 : Int) ≤ v / 4294967296 by omega)
    rw [w64 (x := u' / (v / 4294967296)) (by omega)]
    have hm' : IntKind.u64.wrap (u' - IntKind.u64.wrap (u' / (v / 4294967296) * (v / 4294967296))) = u' % (v / 4294967296) := by
      generalize u' / (v / 4294967296) * (v / 4294967296) = m at *
      rw [w64 (x := m) (by omega), w64 (x := u' - m) (by omega)]; omega
    rw [hm']
    obtain ⟨r, er⟩ := div_l1 (v := v) (s := s) (yn1 := v / 4294967296) (yn0 := v % 4294967296) (un0 := un % 4294967296) (q1 := (u * 4294967296 + un / 4294967296) / v) (u := u') (by omega) (by omega) (by omega) (by omega) (by omega) hr0 hr1 (by omega) (by omega) (by omega) n' j _ _ f1 f2 f3 f4 f5 hn' (by omega)
    rw [er]
    refine ⟨r, ?_⟩
    rw [w64 (x := (u * 4294967296 + un / 4294967296) / v * 4294967296) (by omega), w64 (by omega)]

theorem muldiv_tells (a b c : Int) (h1 : W64 a) (h2 : W64 b) (h3 : W64 c) : ∃ k, fix_MulDiv.f k a b c = some (uMulDiv a b c) := by
  have hp := Int.mul_nonneg h1.1 h2.1
  have hp' := mul_bd (A := 18446744073709551615) (B := 18446744073709551615) h1.1 h1.2 h2.1 h2.2
  unfold fix_MulDiv.f bits_Mul64.f uMulDiv
  rw [if_pos ⟨h1, h2⟩]
  simp only [Option.bind_some]
  generalize a * b = p at *
  by_cases hz : p = 0
  · refine ⟨1, ?_⟩
    subst hz
    simp [fix_MulDiv.j0]
  · by_cases hc : c * 18446744073709551616 ≤ p
    · refine ⟨1, ?_⟩
      have e : ∀ z, (z = true → False) → fix_MulDiv.j0 1 c (p / 18446744073709551616) (p % 18446744073709551616) z = some 18446744073709551615 := by
        intro z hz'
        simp only [fix_MulDiv.j0]
        rw [if_neg hz', if_pos (by omega)]
      rw [if_neg hz, if_pos hc]
      split
      · exact e _ (by simp; omega)
      · exact e _ (by simp)
    · obtain ⟨k, r, hk⟩ := div64_tells (p / 18446744073709551616) (p % 18446744073709551616) c (by omega) (by omega) h3 (by omega)
      have ep : p / 18446744073709551616 * 18446744073709551616 + p % 18446744073709551616 = p := by omega
      rw [ep] at hk
      refine ⟨k + 1, ?_⟩
      have e : ∀ z, (z = true → False) → fix_MulDiv.j0 (k + 1) c (p / 18446744073709551616) (p % 18446744073709551616) z = some (p / c) := by
        intro z hz'
        simp only [fix_MulDiv.j0]
        rw [if_neg hz', if_neg (by omega), hk]
        rfl
      rw [if_neg hz, if_neg hc]
      split
      · exact e _ (by simp; omega)
      · exact e _ (by simp)
def fix_MulDivT.f (a0 : Int) (a1 : Int) (a2 : Int) : Option Int := if W64 a0 ∧ W64 a1 ∧ W64 a2 then some (uMulDiv a0 a1 a2) else none
theorem fix_MulDivT.calls (a0 : Int) (a1 : Int) (a2 : Int) (r : Int) (w : World) (h : fix_MulDivT.f a0 a1 a2 = some r) :
    Calls Try.prog 26 #[.int .u64 a0, .int .u64 a1, .int .u64 a2] w fun e w' => e = .returned (.int .u64 r) ∧ Drawn0 w w' := by
  unfold fix_MulDivT.f at h
  split at h
  · rename_i hw
    obtain ⟨k, hk⟩ := muldiv_tells a0 a1 a2 hw.1 hw.2.1 hw.2.2
    exact fix_MulDiv.calls k a0 a1 a2 r w (hk.trans h)
  · cases h
theorem fix_MulDivT.C (a b c : Int) (ha : W64 a) (hb : W64 b) (hc : W64 c) (w : World) : Calls Try.prog 26 #[.int .u64 a, .int .u64 b, .int .u64 c] w fun e w' => e = .returned (.int .u64 (uMulDiv a b c)) ∧ Drawn0 w w' :=
  fix_MulDivT.calls a b c _ w (by unfold fix_MulDivT.f; rw [if_pos ⟨ha, hb, hc⟩])
theorem fix_MulDivT.Q (a b c : Int) (ha : W64 a) (hb : W64 b) (hc : W64 c) (w : World) (n : Nat) : Calls Try.prog 26 #[.int .u64 a, .int .u64 b, .int .u64 c] (w.drewN n) fun e w' => e = .returned (.int .u64 (uMulDiv a b c)) ∧ ∃ m, w' = w.drewN m := quiet_c (fix_MulDivT.C a b c ha hb hc) n


/-! ### reno_Held: function 37 -/
theorem reno_Held.C (a : Int) (w : World) : Calls Try.prog 37 #[.int .u64 a] w fun e w' => e = .returned (.int .u64 (uHeld a)) ∧ Drawn0 w w' := by
  unfold uHeld
  by_cases h : a < 2400
  · rw [if_pos h]
    go_enter Try.func37, Try.ntmps37
    go_wp2
    go_ret
    exact ⟨ret_int (by first | rfl | omega), Drawn0.refl _⟩
  · rw [if_neg h]
    by_cases h' : 16777216 < a
    · rw [if_pos h']
      go_enter Try.func37, Try.ntmps37
      go_wp2
      go_ret
      exact ⟨ret_int (by first | rfl | omega), Drawn0.refl _⟩
    · rw [if_neg h']
      go_enter Try.func37, Try.ntmps37
      go_wp2
      go_ret
      exact ⟨ret_int (by first | rfl | omega), Drawn0.refl _⟩
theorem reno_Held.Q (a : Int) (w : World) (n : Nat) : Calls Try.prog 37 #[.int .u64 a] (w.drewN n) fun e w' => e = .returned (.int .u64 (uHeld a)) ∧ ∃ m, w' = w.drewN m := quiet_c (reno_Held.C a) n
def reno_Held.f (a0 : Int) : Option Int := some (uHeld a0)
theorem reno_Held.calls (a0 : Int) (r : Int) (w : World) (h : reno_Held.f a0 = some r) :
    Calls Try.prog 37 #[.int .u64 a0] w fun e w' => e = .returned (.int .u64 r) ∧ Drawn0 w w' := by
  obtain rfl := Option.some.inj h
  exact reno_Held.C a0 w


/-! ### fix_Add: function 23 -/
theorem fix_Add.add64 (x y : Int) (hx : 0 ≤ x) (hy : 0 ≤ y) (w : World) : (callFunc 39 #[.int .u64 x, .int .u64 y, .int .u64 0]).run Try.prog w =
    .ok (.value (.tuple #[.int .u64 ((x + y) % 18446744073709551616), .int .u64 ((x + y) / 18446744073709551616)])) w := by
  rw [run_callFunc_extern Try.func39 (by kernel_rfl) (by kernel_rfl) (by kernel_rfl) (e := Go.add64Entry) (by kernel_rfl), Go.run_add64 x y 0 hx hy (by omega) (by omega)]
  simp only [Result.andThen, Int.add_zero]
def fix_Add.f (a0 : Int) (a1 : Int) : Option Int := if W64 a0 ∧ W64 a1 then some (uAdd a0 a1) else none
set_option maxHeartbeats 1000000 in
theorem fix_Add.calls (a0 : Int) (a1 : Int) (r : Int) (w : World) (h : fix_Add.f a0 a1 = some r) :
    Calls Try.prog 23 #[.int .u64 a0, .int .u64 a1] w fun e w' => e = .returned (.int .u64 r) ∧ Drawn0 w w' := by
  unfold fix_Add.f at h
  split at h
  · rename_i hw
    obtain ⟨⟨h0, h1⟩, h2, h3⟩ := hw
    have hr := Lib.hid (Option.some.inj h)
    clear h
    by_cases hc : a0 + a1 ≤ 18446744073709551615
    · have hd : decide (0 < (a0 + a1) / 18446744073709551616) = false := by simp; omega
      go_enter Try.func23, Try.ntmps23
      go_wp2_with (simp only [fix_Add.add64 a0 a1 h0 h2])
      go_ret
      refine ⟨?_, Drawn0.refl _⟩
      exact ret_int (by rw [← hr.out]; unfold uAdd; rw [if_pos hc]; omega)
    · have hd : decide (0 < (a0 + a1) / 18446744073709551616) = true := by simp; omega
      go_enter Try.func23, Try.ntmps23
      go_wp2_with (simp only [fix_Add.add64 a0 a1 h0 h2])
      go_ret
      refine ⟨?_, Drawn0.refl _⟩
      exact ret_int (by rw [← hr.out]; unfold uAdd; rw [if_neg (by omega)])
  · cases h
theorem fix_Add.C (a b : Int) (ha : W64 a) (hb : W64 b) (w : World) : Calls Try.prog 23 #[.int .u64 a, .int .u64 b] w fun e w' => e = .returned (.int .u64 (uAdd a b)) ∧ Drawn0 w w' :=
  fix_Add.calls a b _ w (by unfold fix_Add.f; rw [if_pos ⟨ha, hb⟩])
theorem fix_Add.Q (a b : Int) (ha : W64 a) (hb : W64 b) (w : World) (n : Nat) : Calls Try.prog 23 #[.int .u64 a, .int .u64 b] (w.drewN n) fun e w' => e = .returned (.int .u64 (uAdd a b)) ∧ ∃ m, w' = w.drewN m := quiet_c (fix_Add.C a b ha hb) n


/-- A state of type 51 at block g of W; what its slices lead to came in by w0. -/
def IsS51 (w0 W : World) (g : Nat) (f0 : Int) (f1 : Int) (f2 : Int) (f3 : Int) (f4 : Int) (f5 : Int) (f6 : Int) (f7 : Int) (f8 : Int) (f9 : Int) (f10 : Int) (f11 : Int) (f12 : Bool) : Prop := W.heap[g]? = some (.cells #[.int .u64 f0, .int .u64 f1, .int .u64 f2, .int .u64 f3, .int .u64 f4, .int .u64 f5, .int .u64 f6, .int .u64 f7, .int .u64 f8, .int .u64 f9, .int .u64 f10, .int .u64 f11, .bool f12] 51 (0, 0)) ∧ w0.heap.size ≤ g
theorem IsS51.grown {w0 W : World} {g : Nat} {f0 : Int} {f1 : Int} {f2 : Int} {f3 : Int} {f4 : Int} {f5 : Int} {f6 : Int} {f7 : Int} {f8 : Int} {f9 : Int} {f10 : Int} {f11 : Int} {f12 : Bool} {W1 : World} {row : Option Nat} (h : IsS51 w0 W g f0 f1 f2 f3 f4 f5 f6 f7 f8 f9 f10 f11 f12) (hw : W.grownBy W1 row) (hne : some g ≠ row) : IsS51 w0 W1 g f0 f1 f2 f3 f4 f5 f6 f7 f8 f9 f10 f11 f12 := by
  obtain ⟨hb, hg⟩ := h
  exact ⟨blk_grown hb hw hne, hg⟩
theorem IsS51.own_neN {w0 W : World} {g : Nat} {f0 : Int} {f1 : Int} {f2 : Int} {f3 : Int} {f4 : Int} {f5 : Int} {f6 : Int} {f7 : Int} {f8 : Int} {f9 : Int} {f10 : Int} {f11 : Int} {f12 : Bool} {α : Type} {d : Kd α} {e : Nat} {base : Nat} {ok : Nat → Prop} {v : Value} {xs : List α} (h : IsS51 w0 W g f0 f1 f2 f3 f4 f5 f6 f7 f8 f9 f10 f11 f12) (ho : Kd.N d e W base ok v xs) (ht : e ≠ 51) : some g ≠ v.ownBlock := by
  obtain ⟨hb, hg⟩ := h
  exact Kd.N_ne ho hb ht
theorem IsS51.fresh {w0 W : World} {g : Nat} {f0 : Int} {f1 : Int} {f2 : Int} {f3 : Int} {f4 : Int} {f5 : Int} {f6 : Int} {f7 : Int} {f8 : Int} {f9 : Int} {f10 : Int} {f11 : Int} {f12 : Bool} (h : IsS51 w0 W g f0 f1 f2 f3 f4 f5 f6 f7 f8 f9 f10 f11 f12) : ∀ k, W.heap.size ≤ k → k ≠ g := by
  obtain ⟨hb, hg⟩ := h
  exact Kd.freshB hb
theorem IsS51.kept {w0 W : World} {g : Nat} {f0 : Int} {f1 : Int} {f2 : Int} {f3 : Int} {f4 : Int} {f5 : Int} {f6 : Int} {f7 : Int} {f8 : Int} {f9 : Int} {f10 : Int} {f11 : Int} {f12 : Bool} {W1 : World} {S : Nat → Prop} (h : IsS51 w0 W g f0 f1 f2 f3 f4 f5 f6 f7 f8 f9 f10 f11 f12) (hk : Kept W W1 S) (hne : ¬ S g) : IsS51 w0 W1 g f0 f1 f2 f3 f4 f5 f6 f7 f8 f9 f10 f11 f12 := by
  obtain ⟨hb, hg⟩ := h
  exact ⟨blk_kept hb hk hne, hg⟩
theorem IsS51.below {w0 W : World} {g : Nat} {f0 : Int} {f1 : Int} {f2 : Int} {f3 : Int} {f4 : Int} {f5 : Int} {f6 : Int} {f7 : Int} {f8 : Int} {f9 : Int} {f10 : Int} {f11 : Int} {f12 : Bool} {W1 : World} (h : IsS51 w0 W g f0 f1 f2 f3 f4 f5 f6 f7 f8 f9 f10 f11 f12) (hw : Below W.heap.size W W1) : IsS51 w0 W1 g f0 f1 f2 f3 f4 f5 f6 f7 f8 f9 f10 f11 f12 := h.grown (grown_of_below hw none) (by simp)
theorem IsS51.alloc {w0 W : World} {g : Nat} {f0 : Int} {f1 : Int} {f2 : Int} {f3 : Int} {f4 : Int} {f5 : Int} {f6 : Int} {f7 : Int} {f8 : Int} {f9 : Int} {f10 : Int} {f11 : Int} {f12 : Bool} (h : IsS51 w0 W g f0 f1 f2 f3 f4 f5 f6 f7 f8 f9 f10 f11 f12) (o : Obj) : IsS51 w0 (W.alloc o) g f0 f1 f2 f3 f4 f5 f6 f7 f8 f9 f10 f11 f12 := h.below (below_alloc (Below.refl _ _) o)
theorem IsS51.drewN {w0 W : World} {g : Nat} {f0 : Int} {f1 : Int} {f2 : Int} {f3 : Int} {f4 : Int} {f5 : Int} {f6 : Int} {f7 : Int} {f8 : Int} {f9 : Int} {f10 : Int} {f11 : Int} {f12 : Bool} (h : IsS51 w0 W g f0 f1 f2 f3 f4 f5 f6 f7 f8 f9 f10 f11 f12) (m : Nat) : IsS51 w0 (W.drewN m) g f0 f1 f2 f3 f4 f5 f6 f7 f8 f9 f10 f11 f12 := h
theorem IsS51.drew {w0 W : World} {g : Nat} {f0 : Int} {f1 : Int} {f2 : Int} {f3 : Int} {f4 : Int} {f5 : Int} {f6 : Int} {f7 : Int} {f8 : Int} {f9 : Int} {f10 : Int} {f11 : Int} {f12 : Bool} (h : IsS51 w0 W g f0 f1 f2 f3 f4 f5 f6 f7 f8 f9 f10 f11 f12) : IsS51 w0 W.drew g f0 f1 f2 f3 f4 f5 f6 f7 f8 f9 f10 f11 f12 := h
theorem IsS51.at_ {w0 W : World} {g : Nat} {f0 : Int} {f1 : Int} {f2 : Int} {f3 : Int} {f4 : Int} {f5 : Int} {f6 : Int} {f7 : Int} {f8 : Int} {f9 : Int} {f10 : Int} {f11 : Int} {f12 : Bool} {w' : World} {m : Nat} (hq : W.drewN m = w') (h : IsS51 w0 W g f0 f1 f2 f3 f4 f5 f6 f7 f8 f9 f10 f11 f12) : IsS51 w0 w' g f0 f1 f2 f3 f4 f5 f6 f7 f8 f9 f10 f11 f12 := by subst hq; exact IsS51.drewN h m
theorem IsS51.apart {w0 W : World} {g : Nat} {f0 : Int} {f1 : Int} {f2 : Int} {f3 : Int} {f4 : Int} {f5 : Int} {f6 : Int} {f7 : Int} {f8 : Int} {f9 : Int} {f10 : Int} {f11 : Int} {f12 : Bool} {α : Type} {d : Kd α} {e : Nat} {base : Nat} {ok : Nat → Prop} {v : Value} {xs : List α} (h : IsS51 w0 W g f0 f1 f2 f3 f4 f5 f6 f7 f8 f9 f10 f11 f12) (ho : d.R e W base ok v xs) (ht : ∀ q, q ∈ e :: d.E → q ≠ 51) : d.R e W base (fun k => ok k ∧ k ≠ g) v xs := by
  obtain ⟨hb, hg⟩ := h
  exact Kd.R_types ho hb ht
theorem IsS51.own_ne {w0 W : World} {g : Nat} {f0 : Int} {f1 : Int} {f2 : Int} {f3 : Int} {f4 : Int} {f5 : Int} {f6 : Int} {f7 : Int} {f8 : Int} {f9 : Int} {f10 : Int} {f11 : Int} {f12 : Bool} {α : Type} {d : Kd α} {e : Nat} {base : Nat} {ok : Nat → Prop} {v : Value} {xs : List α} (h : IsS51 w0 W g f0 f1 f2 f3 f4 f5 f6 f7 f8 f9 f10 f11 f12) (ho : d.R e W base ok v xs) (ht : e ≠ 51) : some g ≠ v.ownBlock := by
  obtain ⟨hb, hg⟩ := h
  exact Kd.R_ne ho hb ht
theorem IsS51.apartQ {w0 W : World} {g : Nat} {f0 : Int} {f1 : Int} {f2 : Int} {f3 : Int} {f4 : Int} {f5 : Int} {f6 : Int} {f7 : Int} {f8 : Int} {f9 : Int} {f10 : Int} {f11 : Int} {f12 : Bool} {α : Type} {d : Kd α} {e : Nat} {base : Nat} {ok : Nat → Prop} {v : Value} {xs : List α} (h : IsS51 w0 W g f0 f1 f2 f3 f4 f5 f6 f7 f8 f9 f10 f11 f12) (ho : d.Q e W base ok v xs) (ht : ∀ q, q ∈ e :: d.E → q ≠ 51) : d.Q e W base (fun k => ok k ∧ k ≠ g) v xs := by
  obtain ⟨hb, hg⟩ := h
  exact Kd.Q_types ho hb ht
theorem IsS51.own_neQ {w0 W : World} {g : Nat} {f0 : Int} {f1 : Int} {f2 : Int} {f3 : Int} {f4 : Int} {f5 : Int} {f6 : Int} {f7 : Int} {f8 : Int} {f9 : Int} {f10 : Int} {f11 : Int} {f12 : Bool} {α : Type} {d : Kd α} {e : Nat} {base : Nat} {ok : Nat → Prop} {v : Value} {xs : List α} (h : IsS51 w0 W g f0 f1 f2 f3 f4 f5 f6 f7 f8 f9 f10 f11 f12) (ho : d.Q e W base ok v xs) (ht : e ≠ 51) : some g ≠ v.ownBlock := by
  obtain ⟨hb, hg⟩ := h
  exact Kd.Q_ne ho hb ht
theorem IsS51.apartS {w0 W : World} {g : Nat} {f0 : Int} {f1 : Int} {f2 : Int} {f3 : Int} {f4 : Int} {f5 : Int} {f6 : Int} {f7 : Int} {f8 : Int} {f9 : Int} {f10 : Int} {f11 : Int} {f12 : Bool} {α : Type} {d : Kd α} {e : Nat} {base : Nat} {ok : Nat → Prop} {v : Value} {xs : List α} (h : IsS51 w0 W g f0 f1 f2 f3 f4 f5 f6 f7 f8 f9 f10 f11 f12) (ho : d.S e W base ok v xs) (ht : ∀ q, q ∈ e :: d.E → q ≠ 51) : d.S e W base (fun k => ok k ∧ k ≠ g) v xs := by
  obtain ⟨hb, hg⟩ := h
  exact Kd.S_types ho hb ht
theorem IsS51.own_neS {w0 W : World} {g : Nat} {f0 : Int} {f1 : Int} {f2 : Int} {f3 : Int} {f4 : Int} {f5 : Int} {f6 : Int} {f7 : Int} {f8 : Int} {f9 : Int} {f10 : Int} {f11 : Int} {f12 : Bool} {α : Type} {d : Kd α} {e : Nat} {base : Nat} {ok : Nat → Prop} {v : Value} {xs : List α} (h : IsS51 w0 W g f0 f1 f2 f3 f4 f5 f6 f7 f8 f9 f10 f11 f12) (ho : d.S e W base ok v xs) (ht : e ≠ 51) : some g ≠ v.ownBlock := by
  obtain ⟨hb, hg⟩ := h
  exact Kd.S_ne ho hb ht
theorem IsS51.lt {w0 W : World} {g : Nat} {f0 : Int} {f1 : Int} {f2 : Int} {f3 : Int} {f4 : Int} {f5 : Int} {f6 : Int} {f7 : Int} {f8 : Int} {f9 : Int} {f10 : Int} {f11 : Int} {f12 : Bool} (h : IsS51 w0 W g f0 f1 f2 f3 f4 f5 f6 f7 f8 f9 f10 f11 f12) : g < W.heap.size := by
  obtain ⟨hb, hg⟩ := h
  exact blk_lt hb
theorem IsS51.ge {w0 W : World} {g : Nat} {f0 : Int} {f1 : Int} {f2 : Int} {f3 : Int} {f4 : Int} {f5 : Int} {f6 : Int} {f7 : Int} {f8 : Int} {f9 : Int} {f10 : Int} {f11 : Int} {f12 : Bool} (h : IsS51 w0 W g f0 f1 f2 f3 f4 f5 f6 f7 f8 f9 f10 f11 f12) : w0.heap.size ≤ g := by
  obtain ⟨hb, hg⟩ := h
  exact hg
theorem IsS51.ne_blk {w0 W : World} {g : Nat} {f0 : Int} {f1 : Int} {f2 : Int} {f3 : Int} {f4 : Int} {f5 : Int} {f6 : Int} {f7 : Int} {f8 : Int} {f9 : Int} {f10 : Int} {f11 : Int} {f12 : Bool} {a : Nat} {cs : Array Value} {t : TypeId} {fr : Nat × Nat} (h : IsS51 w0 W g f0 f1 f2 f3 f4 f5 f6 f7 f8 f9 f10 f11 f12) (hb2 : W.heap[a]? = some (.cells cs t fr)) (ht : t ≠ 51) : g ≠ a := by
  obtain ⟨hb, hg⟩ := h
  rintro rfl
  rw [hb] at hb2
  injection hb2 with hb2
  injection hb2 with _ ht2
  exact ht ht2.symm
theorem IsS51.far {w0 W : World} {g : Nat} {f0 : Int} {f1 : Int} {f2 : Int} {f3 : Int} {f4 : Int} {f5 : Int} {f6 : Int} {f7 : Int} {f8 : Int} {f9 : Int} {f10 : Int} {f11 : Int} {f12 : Bool} {p : Addr} (h : IsS51 w0 W g f0 f1 f2 f3 f4 f5 f6 f7 f8 f9 f10 f11 f12) (hne : g ≠ p.block) (u : Value) : IsS51 w0 (W.setCell p u) g f0 f1 f2 f3 f4 f5 f6 f7 f8 f9 f10 f11 f12 := by
  obtain ⟨hb, hg⟩ := h
  exact ⟨blk_far hb hne u, hg⟩
theorem cellS51_0 {W : World} {g : Nat} {f0 : Int} {f1 : Int} {f2 : Int} {f3 : Int} {f4 : Int} {f5 : Int} {f6 : Int} {f7 : Int} {f8 : Int} {f9 : Int} {f10 : Int} {f11 : Int} {f12 : Bool} (h : W.heap[g]? = some (.cells #[.int .u64 f0, .int .u64 f1, .int .u64 f2, .int .u64 f3, .int .u64 f4, .int .u64 f5, .int .u64 f6, .int .u64 f7, .int .u64 f8, .int .u64 f9, .int .u64 f10, .int .u64 f11, .bool f12] 51 (0, 0))) : W.cell? ⟨g, 0, none⟩ = some (.int .u64 f0) := (blk_cell h 0).trans rfl
theorem IsS51.set_0 {w0 W : World} {g : Nat} {f0 : Int} {f1 : Int} {f2 : Int} {f3 : Int} {f4 : Int} {f5 : Int} {f6 : Int} {f7 : Int} {f8 : Int} {f9 : Int} {f10 : Int} {f11 : Int} {f12 : Bool} (h : IsS51 w0 W g f0 f1 f2 f3 f4 f5 f6 f7 f8 f9 f10 f11 f12) (x : Int) : IsS51 w0 (W.setCell ⟨g, 0, none⟩ (.int .u64 x)) g x f1 f2 f3 f4 f5 f6 f7 f8 f9 f10 f11 f12 := by
  obtain ⟨hb, hg⟩ := h
  exact ⟨by simpa using blk_set hb 0 (.int .u64 x), hg⟩
theorem cellS51_1 {W : World} {g : Nat} {f0 : Int} {f1 : Int} {f2 : Int} {f3 : Int} {f4 : Int} {f5 : Int} {f6 : Int} {f7 : Int} {f8 : Int} {f9 : Int} {f10 : Int} {f11 : Int} {f12 : Bool} (h : W.heap[g]? = some (.cells #[.int .u64 f0, .int .u64 f1, .int .u64 f2, .int .u64 f3, .int .u64 f4, .int .u64 f5, .int .u64 f6, .int .u64 f7, .int .u64 f8, .int .u64 f9, .int .u64 f10, .int .u64 f11, .bool f12] 51 (0, 0))) : W.cell? ⟨g, 1, none⟩ = some (.int .u64 f1) := (blk_cell h 1).trans rfl
theorem IsS51.set_1 {w0 W : World} {g : Nat} {f0 : Int} {f1 : Int} {f2 : Int} {f3 : Int} {f4 : Int} {f5 : Int} {f6 : Int} {f7 : Int} {f8 : Int} {f9 : Int} {f10 : Int} {f11 : Int} {f12 : Bool} (h : IsS51 w0 W g f0 f1 f2 f3 f4 f5 f6 f7 f8 f9 f10 f11 f12) (x : Int) : IsS51 w0 (W.setCell ⟨g, 1, none⟩ (.int .u64 x)) g f0 x f2 f3 f4 f5 f6 f7 f8 f9 f10 f11 f12 := by
  obtain ⟨hb, hg⟩ := h
  exact ⟨by simpa using blk_set hb 1 (.int .u64 x), hg⟩
theorem cellS51_2 {W : World} {g : Nat} {f0 : Int} {f1 : Int} {f2 : Int} {f3 : Int} {f4 : Int} {f5 : Int} {f6 : Int} {f7 : Int} {f8 : Int} {f9 : Int} {f10 : Int} {f11 : Int} {f12 : Bool} (h : W.heap[g]? = some (.cells #[.int .u64 f0, .int .u64 f1, .int .u64 f2, .int .u64 f3, .int .u64 f4, .int .u64 f5, .int .u64 f6, .int .u64 f7, .int .u64 f8, .int .u64 f9, .int .u64 f10, .int .u64 f11, .bool f12] 51 (0, 0))) : W.cell? ⟨g, 2, none⟩ = some (.int .u64 f2) := (blk_cell h 2).trans rfl
theorem IsS51.set_2 {w0 W : World} {g : Nat} {f0 : Int} {f1 : Int} {f2 : Int} {f3 : Int} {f4 : Int} {f5 : Int} {f6 : Int} {f7 : Int} {f8 : Int} {f9 : Int} {f10 : Int} {f11 : Int} {f12 : Bool} (h : IsS51 w0 W g f0 f1 f2 f3 f4 f5 f6 f7 f8 f9 f10 f11 f12) (x : Int) : IsS51 w0 (W.setCell ⟨g, 2, none⟩ (.int .u64 x)) g f0 f1 x f3 f4 f5 f6 f7 f8 f9 f10 f11 f12 := by
  obtain ⟨hb, hg⟩ := h
  exact ⟨by simpa using blk_set hb 2 (.int .u64 x), hg⟩
theorem cellS51_3 {W : World} {g : Nat} {f0 : Int} {f1 : Int} {f2 : Int} {f3 : Int} {f4 : Int} {f5 : Int} {f6 : Int} {f7 : Int} {f8 : Int} {f9 : Int} {f10 : Int} {f11 : Int} {f12 : Bool} (h : W.heap[g]? = some (.cells #[.int .u64 f0, .int .u64 f1, .int .u64 f2, .int .u64 f3, .int .u64 f4, .int .u64 f5, .int .u64 f6, .int .u64 f7, .int .u64 f8, .int .u64 f9, .int .u64 f10, .int .u64 f11, .bool f12] 51 (0, 0))) : W.cell? ⟨g, 3, none⟩ = some (.int .u64 f3) := (blk_cell h 3).trans rfl
theorem IsS51.set_3 {w0 W : World} {g : Nat} {f0 : Int} {f1 : Int} {f2 : Int} {f3 : Int} {f4 : Int} {f5 : Int} {f6 : Int} {f7 : Int} {f8 : Int} {f9 : Int} {f10 : Int} {f11 : Int} {f12 : Bool} (h : IsS51 w0 W g f0 f1 f2 f3 f4 f5 f6 f7 f8 f9 f10 f11 f12) (x : Int) : IsS51 w0 (W.setCell ⟨g, 3, none⟩ (.int .u64 x)) g f0 f1 f2 x f4 f5 f6 f7 f8 f9 f10 f11 f12 := by
  obtain ⟨hb, hg⟩ := h
  exact ⟨by simpa using blk_set hb 3 (.int .u64 x), hg⟩
theorem cellS51_4 {W : World} {g : Nat} {f0 : Int} {f1 : Int} {f2 : Int} {f3 : Int} {f4 : Int} {f5 : Int} {f6 : Int} {f7 : Int} {f8 : Int} {f9 : Int} {f10 : Int} {f11 : Int} {f12 : Bool} (h : W.heap[g]? = some (.cells #[.int .u64 f0, .int .u64 f1, .int .u64 f2, .int .u64 f3, .int .u64 f4, .int .u64 f5, .int .u64 f6, .int .u64 f7, .int .u64 f8, .int .u64 f9, .int .u64 f10, .int .u64 f11, .bool f12] 51 (0, 0))) : W.cell? ⟨g, 4, none⟩ = some (.int .u64 f4) := (blk_cell h 4).trans rfl
theorem IsS51.set_4 {w0 W : World} {g : Nat} {f0 : Int} {f1 : Int} {f2 : Int} {f3 : Int} {f4 : Int} {f5 : Int} {f6 : Int} {f7 : Int} {f8 : Int} {f9 : Int} {f10 : Int} {f11 : Int} {f12 : Bool} (h : IsS51 w0 W g f0 f1 f2 f3 f4 f5 f6 f7 f8 f9 f10 f11 f12) (x : Int) : IsS51 w0 (W.setCell ⟨g, 4, none⟩ (.int .u64 x)) g f0 f1 f2 f3 x f5 f6 f7 f8 f9 f10 f11 f12 := by
  obtain ⟨hb, hg⟩ := h
  exact ⟨by simpa using blk_set hb 4 (.int .u64 x), hg⟩
theorem cellS51_5 {W : World} {g : Nat} {f0 : Int} {f1 : Int} {f2 : Int} {f3 : Int} {f4 : Int} {f5 : Int} {f6 : Int} {f7 : Int} {f8 : Int} {f9 : Int} {f10 : Int} {f11 : Int} {f12 : Bool} (h : W.heap[g]? = some (.cells #[.int .u64 f0, .int .u64 f1, .int .u64 f2, .int .u64 f3, .int .u64 f4, .int .u64 f5, .int .u64 f6, .int .u64 f7, .int .u64 f8, .int .u64 f9, .int .u64 f10, .int .u64 f11, .bool f12] 51 (0, 0))) : W.cell? ⟨g, 5, none⟩ = some (.int .u64 f5) := (blk_cell h 5).trans rfl
theorem IsS51.set_5 {w0 W : World} {g : Nat} {f0 : Int} {f1 : Int} {f2 : Int} {f3 : Int} {f4 : Int} {f5 : Int} {f6 : Int} {f7 : Int} {f8 : Int} {f9 : Int} {f10 : Int} {f11 : Int} {f12 : Bool} (h : IsS51 w0 W g f0 f1 f2 f3 f4 f5 f6 f7 f8 f9 f10 f11 f12) (x : Int) : IsS51 w0 (W.setCell ⟨g, 5, none⟩ (.int .u64 x)) g f0 f1 f2 f3 f4 x f6 f7 f8 f9 f10 f11 f12 := by
  obtain ⟨hb, hg⟩ := h
  exact ⟨by simpa using blk_set hb 5 (.int .u64 x), hg⟩
theorem cellS51_6 {W : World} {g : Nat} {f0 : Int} {f1 : Int} {f2 : Int} {f3 : Int} {f4 : Int} {f5 : Int} {f6 : Int} {f7 : Int} {f8 : Int} {f9 : Int} {f10 : Int} {f11 : Int} {f12 : Bool} (h : W.heap[g]? = some (.cells #[.int .u64 f0, .int .u64 f1, .int .u64 f2, .int .u64 f3, .int .u64 f4, .int .u64 f5, .int .u64 f6, .int .u64 f7, .int .u64 f8, .int .u64 f9, .int .u64 f10, .int .u64 f11, .bool f12] 51 (0, 0))) : W.cell? ⟨g, 6, none⟩ = some (.int .u64 f6) := (blk_cell h 6).trans rfl
theorem IsS51.set_6 {w0 W : World} {g : Nat} {f0 : Int} {f1 : Int} {f2 : Int} {f3 : Int} {f4 : Int} {f5 : Int} {f6 : Int} {f7 : Int} {f8 : Int} {f9 : Int} {f10 : Int} {f11 : Int} {f12 : Bool} (h : IsS51 w0 W g f0 f1 f2 f3 f4 f5 f6 f7 f8 f9 f10 f11 f12) (x : Int) : IsS51 w0 (W.setCell ⟨g, 6, none⟩ (.int .u64 x)) g f0 f1 f2 f3 f4 f5 x f7 f8 f9 f10 f11 f12 := by
  obtain ⟨hb, hg⟩ := h
  exact ⟨by simpa using blk_set hb 6 (.int .u64 x), hg⟩
theorem cellS51_7 {W : World} {g : Nat} {f0 : Int} {f1 : Int} {f2 : Int} {f3 : Int} {f4 : Int} {f5 : Int} {f6 : Int} {f7 : Int} {f8 : Int} {f9 : Int} {f10 : Int} {f11 : Int} {f12 : Bool} (h : W.heap[g]? = some (.cells #[.int .u64 f0, .int .u64 f1, .int .u64 f2, .int .u64 f3, .int .u64 f4, .int .u64 f5, .int .u64 f6, .int .u64 f7, .int .u64 f8, .int .u64 f9, .int .u64 f10, .int .u64 f11, .bool f12] 51 (0, 0))) : W.cell? ⟨g, 7, none⟩ = some (.int .u64 f7) := (blk_cell h 7).trans rfl
theorem IsS51.set_7 {w0 W : World} {g : Nat} {f0 : Int} {f1 : Int} {f2 : Int} {f3 : Int} {f4 : Int} {f5 : Int} {f6 : Int} {f7 : Int} {f8 : Int} {f9 : Int} {f10 : Int} {f11 : Int} {f12 : Bool} (h : IsS51 w0 W g f0 f1 f2 f3 f4 f5 f6 f7 f8 f9 f10 f11 f12) (x : Int) : IsS51 w0 (W.setCell ⟨g, 7, none⟩ (.int .u64 x)) g f0 f1 f2 f3 f4 f5 f6 x f8 f9 f10 f11 f12 := by
  obtain ⟨hb, hg⟩ := h
  exact ⟨by simpa using blk_set hb 7 (.int .u64 x), hg⟩
theorem cellS51_8 {W : World} {g : Nat} {f0 : Int} {f1 : Int} {f2 : Int} {f3 : Int} {f4 : Int} {f5 : Int} {f6 : Int} {f7 : Int} {f8 : Int} {f9 : Int} {f10 : Int} {f11 : Int} {f12 : Bool} (h : W.heap[g]? = some (.cells #[.int .u64 f0, .int .u64 f1, .int .u64 f2, .int .u64 f3, .int .u64 f4, .int .u64 f5, .int .u64 f6, .int .u64 f7, .int .u64 f8, .int .u64 f9, .int .u64 f10, .int .u64 f11, .bool f12] 51 (0, 0))) : W.cell? ⟨g, 8, none⟩ = some (.int .u64 f8) := (blk_cell h 8).trans rfl
theorem IsS51.set_8 {w0 W : World} {g : Nat} {f0 : Int} {f1 : Int} {f2 : Int} {f3 : Int} {f4 : Int} {f5 : Int} {f6 : Int} {f7 : Int} {f8 : Int} {f9 : Int} {f10 : Int} {f11 : Int} {f12 : Bool} (h : IsS51 w0 W g f0 f1 f2 f3 f4 f5 f6 f7 f8 f9 f10 f11 f12) (x : Int) : IsS51 w0 (W.setCell ⟨g, 8, none⟩ (.int .u64 x)) g f0 f1 f2 f3 f4 f5 f6 f7 x f9 f10 f11 f12 := by
  obtain ⟨hb, hg⟩ := h
  exact ⟨by simpa using blk_set hb 8 (.int .u64 x), hg⟩
theorem cellS51_9 {W : World} {g : Nat} {f0 : Int} {f1 : Int} {f2 : Int} {f3 : Int} {f4 : Int} {f5 : Int} {f6 : Int} {f7 : Int} {f8 : Int} {f9 : Int} {f10 : Int} {f11 : Int} {f12 : Bool} (h : W.heap[g]? = some (.cells #[.int .u64 f0, .int .u64 f1, .int .u64 f2, .int .u64 f3, .int .u64 f4, .int .u64 f5, .int .u64 f6, .int .u64 f7, .int .u64 f8, .int .u64 f9, .int .u64 f10, .int .u64 f11, .bool f12] 51 (0, 0))) : W.cell? ⟨g, 9, none⟩ = some (.int .u64 f9) := (blk_cell h 9).trans rfl
theorem IsS51.set_9 {w0 W : World} {g : Nat} {f0 : Int} {f1 : Int} {f2 : Int} {f3 : Int} {f4 : Int} {f5 : Int} {f6 : Int} {f7 : Int} {f8 : Int} {f9 : Int} {f10 : Int} {f11 : Int} {f12 : Bool} (h : IsS51 w0 W g f0 f1 f2 f3 f4 f5 f6 f7 f8 f9 f10 f11 f12) (x : Int) : IsS51 w0 (W.setCell ⟨g, 9, none⟩ (.int .u64 x)) g f0 f1 f2 f3 f4 f5 f6 f7 f8 x f10 f11 f12 := by
  obtain ⟨hb, hg⟩ := h
  exact ⟨by simpa using blk_set hb 9 (.int .u64 x), hg⟩
theorem cellS51_10 {W : World} {g : Nat} {f0 : Int} {f1 : Int} {f2 : Int} {f3 : Int} {f4 : Int} {f5 : Int} {f6 : Int} {f7 : Int} {f8 : Int} {f9 : Int} {f10 : Int} {f11 : Int} {f12 : Bool} (h : W.heap[g]? = some (.cells #[.int .u64 f0, .int .u64 f1, .int .u64 f2, .int .u64 f3, .int .u64 f4, .int .u64 f5, .int .u64 f6, .int .u64 f7, .int .u64 f8, .int .u64 f9, .int .u64 f10, .int .u64 f11, .bool f12] 51 (0, 0))) : W.cell? ⟨g, 10, none⟩ = some (.int .u64 f10) := (blk_cell h 10).trans rfl
theorem IsS51.set_10 {w0 W : World} {g : Nat} {f0 : Int} {f1 : Int} {f2 : Int} {f3 : Int} {f4 : Int} {f5 : Int} {f6 : Int} {f7 : Int} {f8 : Int} {f9 : Int} {f10 : Int} {f11 : Int} {f12 : Bool} (h : IsS51 w0 W g f0 f1 f2 f3 f4 f5 f6 f7 f8 f9 f10 f11 f12) (x : Int) : IsS51 w0 (W.setCell ⟨g, 10, none⟩ (.int .u64 x)) g f0 f1 f2 f3 f4 f5 f6 f7 f8 f9 x f11 f12 := by
  obtain ⟨hb, hg⟩ := h
  exact ⟨by simpa using blk_set hb 10 (.int .u64 x), hg⟩
theorem cellS51_11 {W : World} {g : Nat} {f0 : Int} {f1 : Int} {f2 : Int} {f3 : Int} {f4 : Int} {f5 : Int} {f6 : Int} {f7 : Int} {f8 : Int} {f9 : Int} {f10 : Int} {f11 : Int} {f12 : Bool} (h : W.heap[g]? = some (.cells #[.int .u64 f0, .int .u64 f1, .int .u64 f2, .int .u64 f3, .int .u64 f4, .int .u64 f5, .int .u64 f6, .int .u64 f7, .int .u64 f8, .int .u64 f9, .int .u64 f10, .int .u64 f11, .bool f12] 51 (0, 0))) : W.cell? ⟨g, 11, none⟩ = some (.int .u64 f11) := (blk_cell h 11).trans rfl
theorem IsS51.set_11 {w0 W : World} {g : Nat} {f0 : Int} {f1 : Int} {f2 : Int} {f3 : Int} {f4 : Int} {f5 : Int} {f6 : Int} {f7 : Int} {f8 : Int} {f9 : Int} {f10 : Int} {f11 : Int} {f12 : Bool} (h : IsS51 w0 W g f0 f1 f2 f3 f4 f5 f6 f7 f8 f9 f10 f11 f12) (x : Int) : IsS51 w0 (W.setCell ⟨g, 11, none⟩ (.int .u64 x)) g f0 f1 f2 f3 f4 f5 f6 f7 f8 f9 f10 x f12 := by
  obtain ⟨hb, hg⟩ := h
  exact ⟨by simpa using blk_set hb 11 (.int .u64 x), hg⟩
theorem cellS51_12 {W : World} {g : Nat} {f0 : Int} {f1 : Int} {f2 : Int} {f3 : Int} {f4 : Int} {f5 : Int} {f6 : Int} {f7 : Int} {f8 : Int} {f9 : Int} {f10 : Int} {f11 : Int} {f12 : Bool} (h : W.heap[g]? = some (.cells #[.int .u64 f0, .int .u64 f1, .int .u64 f2, .int .u64 f3, .int .u64 f4, .int .u64 f5, .int .u64 f6, .int .u64 f7, .int .u64 f8, .int .u64 f9, .int .u64 f10, .int .u64 f11, .bool f12] 51 (0, 0))) : W.cell? ⟨g, 12, none⟩ = some (.bool f12) := (blk_cell h 12).trans rfl
theorem IsS51.set_12 {w0 W : World} {g : Nat} {f0 : Int} {f1 : Int} {f2 : Int} {f3 : Int} {f4 : Int} {f5 : Int} {f6 : Int} {f7 : Int} {f8 : Int} {f9 : Int} {f10 : Int} {f11 : Int} {f12 : Bool} (h : IsS51 w0 W g f0 f1 f2 f3 f4 f5 f6 f7 f8 f9 f10 f11 f12) (x : Bool) : IsS51 w0 (W.setCell ⟨g, 12, none⟩ (.bool x)) g f0 f1 f2 f3 f4 f5 f6 f7 f8 f9 f10 f11 x := by
  obtain ⟨hb, hg⟩ := h
  exact ⟨by simpa using blk_set hb 12 (.bool x), hg⟩
theorem IsS51.new (w0 W : World) (f0 : Int) (f1 : Int) (f2 : Int) (f3 : Int) (f4 : Int) (f5 : Int) (f6 : Int) (f7 : Int) (f8 : Int) (f9 : Int) (f10 : Int) (f11 : Int) (f12 : Bool) (hB : Below w0.heap.size w0 W) : IsS51 w0 (W.alloc (.cells #[.int .u64 f0, .int .u64 f1, .int .u64 f2, .int .u64 f3, .int .u64 f4, .int .u64 f5, .int .u64 f6, .int .u64 f7, .int .u64 f8, .int .u64 f9, .int .u64 f10, .int .u64 f11, .bool f12] 51)) W.heap.size f0 f1 f2 f3 f4 f5 f6 f7 f8 f9 f10 f11 f12 := ⟨by simpa using heap_alloc_new W _, hB.size⟩

/-! ### prague_state_end: function 25 -/
def prague_state_end.f (s0_0 : Int) (s0_1 : Int) (s0_2 : Int) (s0_3 : Int) (s0_4 : Int) (s0_5 : Int) (s0_6 : Int) (s0_7 : Int) (s0_8 : Int) (s0_9 : Int) (s0_10 : Int) (s0_11 : Int) (s0_12 : Bool) : Option (Int × Int × Int × Int × Int × Int × Int × Int × Bool × Int × Int × Int × Int × Int × Int × Int × Int × Int × Int × Int × Int × Bool) := some (s0_0, s0_1, s0_2, s0_3, s0_8, s0_9, s0_10, s0_11, s0_12, s0_0, s0_1, s0_2, s0_3, s0_0, s0_1, s0_2, s0_3, s0_8, s0_9, s0_10, s0_11, s0_12)
set_option maxHeartbeats 8000000 in
set_option maxRecDepth 100000 in
theorem prague_state_end.calls (g : Nat) (s0_0 : Int) (s0_1 : Int) (s0_2 : Int) (s0_3 : Int) (s0_4 : Int) (s0_5 : Int) (s0_6 : Int) (s0_7 : Int) (s0_8 : Int) (s0_9 : Int) (s0_10 : Int) (s0_11 : Int) (s0_12 : Bool) (r1 : Int) (r2 : Int) (r3 : Int) (r4 : Int) (r5 : Int) (r6 : Int) (r7 : Int) (r8 : Int) (r9 : Bool) (r10 : Int) (r11 : Int) (r12 : Int) (r13 : Int) (r14 : Int) (r15 : Int) (r16 : Int) (r17 : Int) (r18 : Int) (r19 : Int) (r20 : Int) (r21 : Int) (r22 : Bool) (w0 w : World) (hI : IsS51 w0 w g s0_0 s0_1 s0_2 s0_3 s0_4 s0_5 s0_6 s0_7 s0_8 s0_9 s0_10 s0_11 s0_12) (hB : Below w0.heap.size w0 w) (h : prague_state_end.f s0_0 s0_1 s0_2 s0_3 s0_4 s0_5 s0_6 s0_7 s0_8 s0_9 s0_10 s0_11 s0_12 = some (r1, r2, r3, r4, r5, r6, r7, r8, r9, r10, r11, r12, r13, r14, r15, r16, r17, r18, r19, r20, r21, r22)) :
    Calls Try.prog 25 #[.pointer (some ⟨g, 0, none⟩)] w fun e w' => e = .returned (.agg #[.int .u64 r1, .int .u64 r2, .int .u64 r3, .int .u64 r4, .int .u64 r5, .int .u64 r6, .int .u64 r7, .int .u64 r8, .bool r9]) ∧ IsS51 w0 w' g r10 r11 r12 r13 r14 r15 r16 r17 r18 r19 r20 r21 r22 ∧ Below w0.heap.size w0 w' ∧ KeepBut w w' g none := by
  have hu26 := Try.underlying26
  have hu24 := Try.underlying24
  have HI0 := Aside0.mk hI
  have HK := Aside0.mk (KeepBut.refl w g none)
  have HL := Aside0.mk hB.size
  clear hI
  have HW0 := Aside0.mk hB.size
  have HB := Aside0.mk hB
  clear hB
  have H : (some (s0_0, s0_1, s0_2, s0_3, s0_8, s0_9, s0_10, s0_11, s0_12, s0_0, s0_1, s0_2, s0_3, s0_0, s0_1, s0_2, s0_3, s0_8, s0_9, s0_10, s0_11, s0_12)) = some (r1, r2, r3, r4, r5, r6, r7, r8, r9, r10, r11, r12, r13, r14, r15, r16, r17, r18, r19, r20, r21, r22) := h
  clear h
  simp only [Option.some.injEq, Prod.mk.injEq] at H
  obtain ⟨rfl, rfl, rfl, rfl, rfl, rfl, rfl, rfl, rfl, rfl, rfl, rfl, rfl, rfl, rfl, rfl, rfl, rfl, rfl, rfl, rfl, rfl⟩ := H
  go_enter Try.func25, Try.ntmps25
  go_wp2_with (first | ((with_reducible refine gate_dst (N := 2) rfl ?_); refine box_event ?hg (N := 2) ?hd (cs := #[.int .u64 0, .int .u64 0, .int .u64 0, .int .u64 0, .int .u64 0, .int .u64 0, .int .u64 0, .int .u64 0, .bool false]) (t := 26) ?hr ?_; (case hd => rfl); (case hg => rfl); (case hr => first | (go_simp; done) | (go_simp; rfl)); intro gb108 hg w2 hbox hb; have n0_ := Aside0.mk (IsS51.below (by repeat (first | (with_reducible first | exact HI0.out | apply IsS51.alloc | apply IsS51.drewN | apply IsS51.drew | apply IsS51.set_0 | apply IsS51.set_1 | apply IsS51.set_2 | apply IsS51.set_3 | apply IsS51.set_4 | apply IsS51.set_5 | apply IsS51.set_6 | apply IsS51.set_7 | apply IsS51.set_8 | apply IsS51.set_9 | apply IsS51.set_10 | apply IsS51.set_11 | apply IsS51.set_12) | exact HI0.out)) hb); have n1_ := Aside0.mk (KeepBut.trans (by repeat (first | (with_reducible first | exact HK.out | apply KeepBut.set_ | apply keep_drewN | apply keep_drew | apply keep_alloc) | exact HK.out)) (KeepBut.of_below hb g none) (.inl rfl)); have n2_ := Aside0.mk (below_step (by repeat (first | (with_reducible first | exact HB.out | apply below_alloc | apply pw_below_drewN | apply below_drew1 | refine below_set ?_ (IsS51.ge HI0.out)) | exact HB.out)) hb); have n3_ := Aside0.mk (hbox); have n4_ := Aside0.mk ((by rw [hg]; exact (keep_size (w := w) (g := g) (row := none) (by repeat (first | (with_reducible first | exact HK.out | apply KeepBut.set_ | apply keep_drewN | apply keep_drew | apply keep_alloc) | exact HK.out))) : w.heap.size ≤ gb108)); have n5_ := Aside0.mk ((Nat.le_trans HW0.out (by rw [hg]; exact (keep_size (w := w) (g := g) (row := none) (by repeat (first | (with_reducible first | exact HK.out | apply KeepBut.set_ | apply keep_drewN | apply keep_drew | apply keep_alloc) | exact HK.out))) : w.heap.size ≤ gb108) : w0.heap.size ≤ gb108)); have n6_ := Aside0.mk ((by rw [hg]; exact Nat.ne_of_lt (IsS51.lt (show IsS51 w0 _ g s0_0 s0_1 s0_2 s0_3 s0_4 s0_5 s0_6 s0_7 s0_8 s0_9 s0_10 s0_11 s0_12 from by repeat (first | (with_reducible first | exact HI0.out | apply IsS51.alloc | apply IsS51.drewN | apply IsS51.drew | apply IsS51.set_0 | apply IsS51.set_1 | apply IsS51.set_2 | apply IsS51.set_3 | apply IsS51.set_4 | apply IsS51.set_5 | apply IsS51.set_6 | apply IsS51.set_7 | apply IsS51.set_8 | apply IsS51.set_9 | apply IsS51.set_10 | apply IsS51.set_11 | apply IsS51.set_12) | exact HI0.out))) : g ≠ gb108)); have n7_ := Aside0.mk ((by rw [hg]; exact Nat.ne_of_gt (IsS51.lt (show IsS51 w0 _ g s0_0 s0_1 s0_2 s0_3 s0_4 s0_5 s0_6 s0_7 s0_8 s0_9 s0_10 s0_11 s0_12 from by repeat (first | (with_reducible first | exact HI0.out | apply IsS51.alloc | apply IsS51.drewN | apply IsS51.drew | apply IsS51.set_0 | apply IsS51.set_1 | apply IsS51.set_2 | apply IsS51.set_3 | apply IsS51.set_4 | apply IsS51.set_5 | apply IsS51.set_6 | apply IsS51.set_7 | apply IsS51.set_8 | apply IsS51.set_9 | apply IsS51.set_10 | apply IsS51.set_11 | apply IsS51.set_12) | exact HI0.out))) : gb108 ≠ g)); clear HI0; clear HK; clear HB; have HI0 := n0_; have HK := n1_; have HB := n2_; have BK108 := n3_; have GW108 := n4_; have GE108 := n5_; have NB0_108 := n6_; have NB108_0 := n7_; clear n0_ n1_ n2_ n3_ n4_ n5_ n6_ n7_; clear hb hbox hg; obtain ⟨HGz3, hgz3⟩ := HI0.out; have hcz3_0 := cellS51_0 HGz3; have hcz3_1 := cellS51_1 HGz3; have hcz3_2 := cellS51_2 HGz3; have hcz3_3 := cellS51_3 HGz3; have hcz3_4 := cellS51_4 HGz3; have hcz3_5 := cellS51_5 HGz3; have hcz3_6 := cellS51_6 HGz3; have hcz3_7 := cellS51_7 HGz3; have hcz3_8 := cellS51_8 HGz3; have hcz3_9 := cellS51_9 HGz3; have hcz3_10 := cellS51_10 HGz3; have hcz3_11 := cellS51_11 HGz3; have hcz3_12 := cellS51_12 HGz3; have hfz3_0 := blk_frozen HGz3 0; have hfz3_1 := blk_frozen HGz3 1; have hfz3_2 := blk_frozen HGz3 2; have hfz3_3 := blk_frozen HGz3 3; have hfz3_4 := blk_frozen HGz3 4; have hfz3_5 := blk_frozen HGz3 5; have hfz3_6 := blk_frozen HGz3 6; have hfz3_7 := blk_frozen HGz3 7; have hfz3_8 := blk_frozen HGz3 8; have hfz3_9 := blk_frozen HGz3 9; have hfz3_10 := blk_frozen HGz3 10; have hfz3_11 := blk_frozen HGz3 11; have hfz3_12 := blk_frozen HGz3 12; clear HGz3 hgz3; have hnb4 := NB108_0.out; have hnc4 := NB0_108.out; have hcz5_0 : w2.cell? ⟨gb108, 0, none⟩ = some (.int .u64 0) := (blk_cell BK108.out 0).trans rfl; have hcz5_1 : w2.cell? ⟨gb108, 1, none⟩ = some (.int .u64 0) := (blk_cell BK108.out 1).trans rfl; have hcz5_2 : w2.cell? ⟨gb108, 2, none⟩ = some (.int .u64 0) := (blk_cell BK108.out 2).trans rfl; have hcz5_3 : w2.cell? ⟨gb108, 3, none⟩ = some (.int .u64 0) := (blk_cell BK108.out 3).trans rfl; have hcz5_4 : w2.cell? ⟨gb108, 4, none⟩ = some (.int .u64 0) := (blk_cell BK108.out 4).trans rfl; have hcz5_5 : w2.cell? ⟨gb108, 5, none⟩ = some (.int .u64 0) := (blk_cell BK108.out 5).trans rfl; have hcz5_6 : w2.cell? ⟨gb108, 6, none⟩ = some (.int .u64 0) := (blk_cell BK108.out 6).trans rfl; have hcz5_7 : w2.cell? ⟨gb108, 7, none⟩ = some (.int .u64 0) := (blk_cell BK108.out 7).trans rfl; have hcz5_8 : w2.cell? ⟨gb108, 8, none⟩ = some (.bool false) := (blk_cell BK108.out 8).trans rfl; have hfz5_0 := blk_frozen BK108.out 0; have hfz5_1 := blk_frozen BK108.out 1; have hfz5_2 := blk_frozen BK108.out 2; have hfz5_3 := blk_frozen BK108.out 3; have hfz5_4 := blk_frozen BK108.out 4; have hfz5_5 := blk_frozen BK108.out 5; have hfz5_6 := blk_frozen BK108.out 6; have hfz5_7 := blk_frozen BK108.out 7; have hfz5_8 := blk_frozen BK108.out 8))
  refine bodyPost_ret (results_cell_row rfl _ _ gb108 26 #[.int .u64 s0_0, .int .u64 s0_1, .int .u64 s0_2, .int .u64 s0_3, .int .u64 s0_8, .int .u64 s0_9, .int .u64 s0_10, .int .u64 s0_11, .bool s0_12] (0, 0) _ rfl (by (with_reducible repeat (first | refine blk_drewN ?_ _ | refine blk_drew ?_ | refine blk_alloc ?_ _)); refine blk_put (cs := #[.int .u64 s0_0, .int .u64 s0_1, .int .u64 s0_2, .int .u64 s0_3, .int .u64 s0_8, .int .u64 s0_9, .int .u64 s0_10, .int .u64 s0_11, .bool false]) ?_ 8 _ rfl; (with_reducible repeat (first | refine blk_drewN ?_ _ | refine blk_drew ?_ | refine blk_alloc ?_ _)); refine blk_put (cs := #[.int .u64 s0_0, .int .u64 s0_1, .int .u64 s0_2, .int .u64 s0_3, .int .u64 s0_8, .int .u64 s0_9, .int .u64 s0_10, .int .u64 0, .bool false]) ?_ 7 _ rfl; (with_reducible repeat (first | refine blk_drewN ?_ _ | refine blk_drew ?_ | refine blk_alloc ?_ _)); refine blk_put (cs := #[.int .u64 s0_0, .int .u64 s0_1, .int .u64 s0_2, .int .u64 s0_3, .int .u64 s0_8, .int .u64 s0_9, .int .u64 0, .int .u64 0, .bool false]) ?_ 6 _ rfl; (with_reducible repeat (first | refine blk_drewN ?_ _ | refine blk_drew ?_ | refine blk_alloc ?_ _)); refine blk_put (cs := #[.int .u64 s0_0, .int .u64 s0_1, .int .u64 s0_2, .int .u64 s0_3, .int .u64 s0_8, .int .u64 0, .int .u64 0, .int .u64 0, .bool false]) ?_ 5 _ rfl; (with_reducible repeat (first | refine blk_drewN ?_ _ | refine blk_drew ?_ | refine blk_alloc ?_ _)); refine blk_put (cs := #[.int .u64 s0_0, .int .u64 s0_1, .int .u64 s0_2, .int .u64 s0_3, .int .u64 0, .int .u64 0, .int .u64 0, .int .u64 0, .bool false]) ?_ 4 _ rfl; (with_reducible repeat (first | refine blk_drewN ?_ _ | refine blk_drew ?_ | refine blk_alloc ?_ _)); refine blk_put (cs := #[.int .u64 s0_0, .int .u64 s0_1, .int .u64 s0_2, .int .u64 0, .int .u64 0, .int .u64 0, .int .u64 0, .int .u64 0, .bool false]) ?_ 3 _ rfl; (with_reducible repeat (first | refine blk_drewN ?_ _ | refine blk_drew ?_ | refine blk_alloc ?_ _)); refine blk_put (cs := #[.int .u64 s0_0, .int .u64 s0_1, .int .u64 0, .int .u64 0, .int .u64 0, .int .u64 0, .int .u64 0, .int .u64 0, .bool false]) ?_ 2 _ rfl; (with_reducible repeat (first | refine blk_drewN ?_ _ | refine blk_drew ?_ | refine blk_alloc ?_ _)); refine blk_put (cs := #[.int .u64 s0_0, .int .u64 0, .int .u64 0, .int .u64 0, .int .u64 0, .int .u64 0, .int .u64 0, .int .u64 0, .bool false]) ?_ 1 _ rfl; (with_reducible repeat (first | refine blk_drewN ?_ _ | refine blk_drew ?_ | refine blk_alloc ?_ _)); refine blk_put (cs := #[.int .u64 0, .int .u64 0, .int .u64 0, .int .u64 0, .int .u64 0, .int .u64 0, .int .u64 0, .int .u64 0, .bool false]) ?_ 0 _ rfl; (with_reducible repeat (first | refine blk_drewN ?_ _ | refine blk_drew ?_ | refine blk_alloc ?_ _)); refine blk_far ?_ NB108_0.out _; (with_reducible repeat (first | refine blk_drewN ?_ _ | refine blk_drew ?_ | refine blk_alloc ?_ _)); refine blk_far ?_ NB108_0.out _; (with_reducible repeat (first | refine blk_drewN ?_ _ | refine blk_drew ?_ | refine blk_alloc ?_ _)); refine blk_far ?_ NB108_0.out _; (with_reducible repeat (first | refine blk_drewN ?_ _ | refine blk_drew ?_ | refine blk_alloc ?_ _)); refine blk_far ?_ NB108_0.out _; (with_reducible repeat (first | refine blk_drewN ?_ _ | refine blk_drew ?_ | refine blk_alloc ?_ _)); exact BK108.out) Try.underlying26 rfl (by kernel_rfl)) rfl ?_
  exact ⟨by first | rfl | (simp [errW_none, errW_some] <;> rfl) | (simp [*, errW_none, errW_some] <;> rfl), by repeat (first | (with_reducible first | exact HI0.out | apply IsS51.alloc | apply IsS51.drewN | apply IsS51.drew | apply IsS51.set_0 | apply IsS51.set_1 | apply IsS51.set_2 | apply IsS51.set_3 | apply IsS51.set_4 | apply IsS51.set_5 | apply IsS51.set_6 | apply IsS51.set_7 | apply IsS51.set_8 | apply IsS51.set_9 | apply IsS51.set_10 | apply IsS51.set_11 | apply IsS51.set_12 | refine IsS51.far ?_ NB0_108.out _) | exact HI0.out), by repeat (first | (with_reducible first | exact HB.out | apply below_alloc | apply pw_below_drewN | apply below_drew1 | refine below_set ?_ (IsS51.ge HI0.out) | refine below_set ?_ GE108.out) | exact HB.out), by repeat (first | (with_reducible first | exact HK.out | apply KeepBut.set_ | apply keep_drewN | apply keep_drew | apply keep_alloc | refine keep_far ?_ GW108.out _) | exact HK.out)⟩

end Go.Proofs.Ytaaieijkmhmecaa.PPrC
