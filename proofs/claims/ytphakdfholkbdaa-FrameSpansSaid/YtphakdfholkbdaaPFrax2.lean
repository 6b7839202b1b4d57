-- Written by a program of this session (wip/tools/xprint.py) for this claim.
import Derived.Test.YtphakdfholkbdaaPFrax0
namespace Go.Proofs.Ytphakdfholkbdaa.PFra
open Go.RowKit Go.Proofs.YtphakdfholkbdaaW.PrintWords Go.Proofs.YtphakdfholkbdaaW.PrintLast Go.Proofs.YtphakdfholkbdaaW.PrintMore
set_option linter.unusedVariables false
set_option linter.unusedSimpArgs false

-- given
/-! ### varint_Get: function 51 -/
set_option maxRecDepth 100000
set_option maxHeartbeats 4000000
def bytesOk (l : List Int) : Bool := l.all fun x => decide (0 ≤ x) && decide (x < 256)
/-- A number's bytes: the first one's two highest bits tell how many they are. -/
def uGetN (l : List Int) : Nat := 2 ^ (rd l 0 / 64).toNat
def uGetV (l : List Int) : Int := ((l.take (uGetN l)).drop 1).foldl (fun v x => v * 256 + x) (rd l 0 % 64)
def uGet (l : List Int) : Int × Int × Int := if l.length = 0 then (0, 0, 30) else if l.length < uGetN l then (0, 0, 30) else (uGetV l, (uGetN l : Int), 0)
theorem or_step (v x : Int) (h0 : 0 ≤ v) (h1 : v < 72057594037927936) (h2 : 0 ≤ x) (h3 : x < 256) : Go.bits .or .u64 (IntKind.u64.wrap (v * 256)) (IntKind.u64.wrap x) = v * 256 + x := by
  rw [w64 ⟨by omega, by omega⟩, w64 ⟨by omega, by omega⟩, u64_or _ _ (by omega) (by omega) (by omega) (by omega), nat_join 8 _ _ (by omega) (by omega)]
  omega
theorem or_step1 (v x : Int) (h0 : 0 ≤ v) (h1 : v < 72057594037927936) (h2 : 0 ≤ x) (h3 : x < 256) : Go.bits .or .u64 (IntKind.u64.wrap (v * 256)) x = v * 256 + x := by
  have h := or_step v x h0 h1 h2 h3
  rwa [w64 (x := x) ⟨by omega, by omega⟩] at h
theorem or_step0 (v x : Int) (h0 : 0 ≤ v) (h1 : v < 72057594037927936) (h2 : 0 ≤ x) (h3 : x < 256) : Go.bits .or .u64 (v * 256) x = v * 256 + x := by
  have h := or_step1 v x h0 h1 h2 h3
  rwa [w64 (x := v * 256) ⟨by omega, by omega⟩] at h
theorem add_step (v x : Int) (h0 : 0 ≤ v) (h1 : v < 72057594037927936) (h2 : 0 ≤ x) (h3 : x < 256) : IntKind.u64.wrap (IntKind.u64.wrap (v * 256) + IntKind.u64.wrap x) = v * 256 + x := by
  rw [w64 (x := v * 256) ⟨by omega, by omega⟩, w64 (x := x) ⟨by omega, by omega⟩, w64 ⟨by omega, by omega⟩]
theorem and_63 (x : Int) (h2 : 0 ≤ x) (h3 : x < 256) : IntKind.u64.wrap (Go.bits .and .u8 x 63) = x % 64 := by
  rw [u8_and _ _ h2 h3 (by omega) (by omega), show (63 : Int).toNat = 63 from rfl, nat_mask6, w64 ⟨by omega, by omega⟩]; omega
theorem varint_Get.way1 (x0 : Int) (t : List Int) (A : Option Addr) (c : Nat) (w : World) (a0 : 0 ≤ x0) (b0 : x0 < 256) (hq : x0 / 64 = 0) (hr : Kd.C (Kd.int .u8) w A (x0 :: t).length (x0 :: t)) (hc : (x0 :: t).length ≤ c) :
    Calls Try.prog 51 #[.slice A (x0 :: t).length c] w fun e w' => e = .returned (.tuple #[.int .u64 (x0 % 64), .int .i64 1, .int .i64 0]) ∧ Drawn0 w w' := by
  obtain ⟨L, hL⟩ : ∃ L, L = (x0 :: t) := ⟨_, rfl⟩
  rw [← hL] at hr hc ⊢
  have hn : 1 ≤ L.length := by rw [hL]; simp
  have r0 : rd L 0 = x0 := by rw [hL]; rfl
  obtain ⟨ad, e0, c0⟩ := Kd.at_int hr 0 (by omega) (by omega)
  cases e0
  rw [show ((0 : Int)).toNat = 0 from rfl, Addr.add_zero', r0] at c0
  obtain ⟨i0, hi0, _, hsz0, _⟩ := info_parts info5
  obtain ⟨A', hcut, hA, _⟩ := print_mid_of (P := Try.prog) (Value.int .u8) 0 24 5 .i64 .i64 Try.underlying24 hi0 hsz0 (some ad) c L 1 1 (by omega) (by omega) (by omega) hc
  have hR := (Kd.C_of_reads (h1 := fun _ => rfl) (hA _ (Kd.reads_of_C hr)) : Kd.C (Kd.int .u8) w A' _ _)
  have hm : ((L.take (1 : Int).toNat).drop (1 : Int).toNat).length = 0 := by rw [show (1 : Int).toNat = 1 from rfl, List.length_drop, List.length_take]; omega
  rw [show (L.take (1 : Int).toNat).drop (1 : Int).toNat = [] from by rw [hL]; rfl] at hR hcut hm
  rw [hm] at hcut
  clear hA hi0 hsz0 hm
  clear hR
  have p1 : ((L.length : Int) == 0) = false := beq_eq_false_iff_ne.mpr (by omega)
  have p1' : ((L.length : Int) != 0) = true := bne_iff_ne.mpr (by omega)
  have p2 : decide ((L.length : Int) < 1) = false := decide_eq_false (by omega)
  have p4 : (0 < L.length) = True := eq_true (by omega)
  clear hL hn hr hc
  go_enter Try.func51, Try.ntmps51
  go_wp2
  go_rounds 1
  go_ret3
  refine ⟨?_, by repeat (first | exact Drawn0.refl _ | apply Drawn0.step)⟩
  show Ending.returned (.tuple #[.int .u64 (x0 % 64), .int .i64 1, .int .i64 0]) = _
  rfl
theorem varint_Get.way2 (x0 x1 : Int) (t : List Int) (A : Option Addr) (c : Nat) (w : World) (a0 : 0 ≤ x0) (b0 : x0 < 256) (a1 : 0 ≤ x1) (b1 : x1 < 256) (hq : x0 / 64 = 1) (hr : Kd.C (Kd.int .u8) w A (x0 :: x1 :: t).length (x0 :: x1 :: t)) (hc : (x0 :: x1 :: t).length ≤ c) :
    Calls Try.prog 51 #[.slice A (x0 :: x1 :: t).length c] w fun e w' => e = .returned (.tuple #[.int .u64 ((x0 % 64) * 256 + x1), .int .i64 2, .int .i64 0]) ∧ Drawn0 w w' := by
  obtain ⟨L, hL⟩ : ∃ L, L = (x0 :: x1 :: t) := ⟨_, rfl⟩
  rw [← hL] at hr hc ⊢
  have hn : 2 ≤ L.length := by rw [hL]; simp
  have r0 : rd L 0 = x0 := by rw [hL]; rfl
  have r1 : rd L 1 = x1 := by rw [hL]; rfl
  obtain ⟨ad, e0, c0⟩ := Kd.at_int hr 0 (by omega) (by omega)
  cases e0
  rw [show ((0 : Int)).toNat = 0 from rfl, Addr.add_zero', r0] at c0
  obtain ⟨i0, hi0, _, hsz0, _⟩ := info_parts info5
  obtain ⟨A', hcut, hA, _⟩ := print_mid_of (P := Try.prog) (Value.int .u8) 0 24 5 .i64 .i64 Try.underlying24 hi0 hsz0 (some ad) c L 1 2 (by omega) (by omega) (by omega) hc
  have hR := (Kd.C_of_reads (h1 := fun _ => rfl) (hA _ (Kd.reads_of_C hr)) : Kd.C (Kd.int .u8) w A' _ _)
  have hm : ((L.take (2 : Int).toNat).drop (1 : Int).toNat).length = 1 := by rw [show (2 : Int).toNat = 2 from rfl, show (1 : Int).toNat = 1 from rfl, List.length_drop, List.length_take]; omega
  rw [show (L.take (2 : Int).toNat).drop (1 : Int).toNat = [x1] from by rw [hL]; rfl] at hR hcut hm
  rw [hm] at hcut
  clear hA hi0 hsz0 hm
  obtain ⟨ad1, e1, c1⟩ := Kd.at_int hR 0 (by omega) (by simp)
  cases e1
  rw [show ((0 : Int)).toNat = 0 from rfl, Addr.add_zero'] at c1
  replace c1 : w.cell? ad1 = some (.int .u8 x1) := c1
  clear hR
  have p1 : ((L.length : Int) == 0) = false := beq_eq_false_iff_ne.mpr (by omega)
  have p1' : ((L.length : Int) != 0) = true := bne_iff_ne.mpr (by omega)
  have p2 : decide ((L.length : Int) < 2) = false := decide_eq_false (by omega)
  have p4 : (0 < L.length) = True := eq_true (by omega)
  clear hL hn hr hc
  go_enter Try.func51, Try.ntmps51
  go_wp2
  go_rounds 2
  go_ret3
  refine ⟨?_, by repeat (first | exact Drawn0.refl _ | apply Drawn0.step)⟩
  show Ending.returned (.tuple #[.int .u64 (bits .or .u64 ((x0 % 64) * 256) x1), .int .i64 2, .int .i64 0]) = _
  rw [or_step0 (x0 % 64) x1 (by omega) (by omega) a1 b1]
theorem varint_Get.way4 (x0 x1 x2 x3 : Int) (t : List Int) (A : Option Addr) (c : Nat) (w : World) (a0 : 0 ≤ x0) (b0 : x0 < 256) (a1 : 0 ≤ x1) (b1 : x1 < 256) (a2 : 0 ≤ x2) (b2 : x2 < 256) (a3 : 0 ≤ x3) (b3 : x3 < 256) (hq : x0 / 64 = 2) (hr : Kd.C (Kd.int .u8) w A (x0 :: x1 :: x2 :: x3 :: t).length (x0 :: x1 :: x2 :: x3 :: t)) (hc : (x0 :: x1 :: x2 :: x3 :: t).length ≤ c) :
    Calls Try.prog 51 #[.slice A (x0 :: x1 :: x2 :: x3 :: t).length c] w fun e w' => e = .returned (.tuple #[.int .u64 ((((x0 % 64) * 256 + x1) * 256 + x2) * 256 + x3), .int .i64 4, .int .i64 0]) ∧ Drawn0 w w' := by
  obtain ⟨L, hL⟩ : ∃ L, L = (x0 :: x1 :: x2 :: x3 :: t) := ⟨_, rfl⟩
  rw [← hL] at hr hc ⊢
  have hn : 4 ≤ L.length := by rw [hL]; simp
  have r0 : rd L 0 = x0 := by rw [hL]; rfl
  have r1 : rd L 1 = x1 := by rw [hL]; rfl
  have r2 : rd L 2 = x2 := by rw [hL]; rfl
  have r3 : rd L 3 = x3 := by rw [hL]; rfl
  obtain ⟨ad, e0, c0⟩ := Kd.at_int hr 0 (by omega) (by omega)
  cases e0
  rw [show ((0 : Int)).toNat = 0 from rfl, Addr.add_zero', r0] at c0
  obtain ⟨i0, hi0, _, hsz0, _⟩ := info_parts info5
  obtain ⟨A', hcut, hA, _⟩ := print_mid_of (P := Try.prog) (Value.int .u8) 0 24 5 .i64 .i64 Try.underlying24 hi0 hsz0 (some ad) c L 1 4 (by omega) (by omega) (by omega) hc
  have hR := (Kd.C_of_reads (h1 := fun _ => rfl) (hA _ (Kd.reads_of_C hr)) : Kd.C (Kd.int .u8) w A' _ _)
  have hm : ((L.take (4 : Int).toNat).drop (1 : Int).toNat).length = 3 := by rw [show (4 : Int).toNat = 4 from rfl, show (1 : Int).toNat = 1 from rfl, List.length_drop, List.length_take]; omega
  rw [show (L.take (4 : Int).toNat).drop (1 : Int).toNat = [x1, x2, x3] from by rw [hL]; rfl] at hR hcut hm
  rw [hm] at hcut
  clear hA hi0 hsz0 hm
  obtain ⟨ad1, e1, c1⟩ := Kd.at_int hR 0 (by omega) (by simp)
  cases e1
  rw [show ((0 : Int)).toNat = 0 from rfl, Addr.add_zero'] at c1
  replace c1 : w.cell? ad1 = some (.int .u8 x1) := c1
  obtain ⟨ad2, e2, c2⟩ := Kd.at_int hR 1 (by omega) (by simp)
  obtain rfl : ad1 = ad2 := (by injection e2)
  clear e2
  replace c2 : w.cell? ⟨ad1.block, ad1.off + 1, none⟩ = some (.int .u8 x2) := c2
  obtain ⟨ad3, e3, c3⟩ := Kd.at_int hR 2 (by omega) (by simp)
  obtain rfl : ad1 = ad3 := (by injection e3)
  clear e3
  replace c3 : w.cell? ⟨ad1.block, ad1.off + 2, none⟩ = some (.int .u8 x3) := c3
  clear hR
  have p1 : ((L.length : Int) == 0) = false := beq_eq_false_iff_ne.mpr (by omega)
  have p1' : ((L.length : Int) != 0) = true := bne_iff_ne.mpr (by omega)
  have p2 : decide ((L.length : Int) < 4) = false := decide_eq_false (by omega)
  have p4 : (0 < L.length) = True := eq_true (by omega)
  clear hL hn hr hc
  go_enter Try.func51, Try.ntmps51
  go_wp2
  go_rounds 4
  go_ret3
  refine ⟨?_, by repeat (first | exact Drawn0.refl _ | apply Drawn0.step)⟩
  show Ending.returned (.tuple #[.int .u64 (bits .or .u64 (IntKind.u64.wrap ((bits .or .u64 (IntKind.u64.wrap ((bits .or .u64 ((x0 % 64) * 256) x1) * 256)) x2) * 256)) x3), .int .i64 4, .int .i64 0]) = _
  rw [or_step0 (x0 % 64) x1 (by omega) (by omega) a1 b1]
  rw [or_step1 ((x0 % 64) * 256 + x1) x2 (by omega) (by omega) a2 b2]
  rw [or_step1 (((x0 % 64) * 256 + x1) * 256 + x2) x3 (by omega) (by omega) a3 b3]
theorem varint_Get.way8 (x0 x1 x2 x3 x4 x5 x6 x7 : Int) (t : List Int) (A : Option Addr) (c : Nat) (w : World) (a0 : 0 ≤ x0) (b0 : x0 < 256) (a1 : 0 ≤ x1) (b1 : x1 < 256) (a2 : 0 ≤ x2) (b2 : x2 < 256) (a3 : 0 ≤ x3) (b3 : x3 < 256) (a4 : 0 ≤ x4) (b4 : x4 < 256) (a5 : 0 ≤ x5) (b5 : x5 < 256) (a6 : 0 ≤ x6) (b6 : x6 < 256) (a7 : 0 ≤ x7) (b7 : x7 < 256) (hq : x0 / 64 = 3) (hr : Kd.C (Kd.int .u8) w A (x0 :: x1 :: x2 :: x3 :: x4 :: x5 :: x6 :: x7 :: t).length (x0 :: x1 :: x2 :: x3 :: x4 :: x5 :: x6 :: x7 :: t)) (hc : (x0 :: x1 :: x2 :: x3 :: x4 :: x5 :: x6 :: x7 :: t).length ≤ c) :
    Calls Try.prog 51 #[.slice A (x0 :: x1 :: x2 :: x3 :: x4 :: x5 :: x6 :: x7 :: t).length c] w fun e w' => e = .returned (.tuple #[.int .u64 ((((((((x0 % 64) * 256 + x1) * 256 + x2) * 256 + x3) * 256 + x4) * 256 + x5) * 256 + x6) * 256 + x7), .int .i64 8, .int .i64 0]) ∧ Drawn0 w w' := by
  obtain ⟨L, hL⟩ : ∃ L, L = (x0 :: x1 :: x2 :: x3 :: x4 :: x5 :: x6 :: x7 :: t) := ⟨_, rfl⟩
  rw [← hL] at hr hc ⊢
  have hn : 8 ≤ L.length := by rw [hL]; simp
  have r0 : rd L 0 = x0 := by rw [hL]; rfl
  have r1 : rd L 1 = x1 := by rw [hL]; rfl
  have r2 : rd L 2 = x2 := by rw [hL]; rfl
  have r3 : rd L 3 = x3 := by rw [hL]; rfl
  have r4 : rd L 4 = x4 := by rw [hL]; rfl
  have r5 : rd L 5 = x5 := by rw [hL]; rfl
  have r6 : rd L 6 = x6 := by rw [hL]; rfl
  have r7 : rd L 7 = x7 := by rw [hL]; rfl
  obtain ⟨ad, e0, c0⟩ := Kd.at_int hr 0 (by omega) (by omega)
  cases e0
  rw [show ((0 : Int)).toNat = 0 from rfl, Addr.add_zero', r0] at c0
  obtain ⟨i0, hi0, _, hsz0, _⟩ := info_parts info5
  obtain ⟨A', hcut, hA, _⟩ := print_mid_of (P := Try.prog) (Value.int .u8) 0 24 5 .i64 .i64 Try.underlying24 hi0 hsz0 (some ad) c L 1 8 (by omega) (by omega) (by omega) hc
  have hR := (Kd.C_of_reads (h1 := fun _ => rfl) (hA _ (Kd.reads_of_C hr)) : Kd.C (Kd.int .u8) w A' _ _)
  have hm : ((L.take (8 : Int).toNat).drop (1 : Int).toNat).length = 7 := by rw [show (8 : Int).toNat = 8 from rfl, show (1 : Int).toNat = 1 from rfl, List.length_drop, List.length_take]; omega
  rw [show (L.take (8 : Int).toNat).drop (1 : Int).toNat = [x1, x2, x3, x4, x5, x6, x7] from by rw [hL]; rfl] at hR hcut hm
  rw [hm] at hcut
  clear hA hi0 hsz0 hm
  obtain ⟨ad1, e1, c1⟩ := Kd.at_int hR 0 (by omega) (by simp)
  cases e1
  rw [show ((0 : Int)).toNat = 0 from rfl, Addr.add_zero'] at c1
  replace c1 : w.cell? ad1 = some (.int .u8 x1) := c1
  obtain ⟨ad2, e2, c2⟩ := Kd.at_int hR 1 (by omega) (by simp)
  obtain rfl : ad1 = ad2 := (by injection e2)
  clear e2
  replace c2 : w.cell? ⟨ad1.block, ad1.off + 1, none⟩ = some (.int .u8 x2) := c2
  obtain ⟨ad3, e3, c3⟩ := Kd.at_int hR 2 (by omega) (by simp)
  obtain rfl : ad1 = ad3 := (by injection e3)
  clear e3
  replace c3 : w.cell? ⟨ad1.block, ad1.off + 2, none⟩ = some (.int .u8 x3) := c3
  obtain ⟨ad4, e4, c4⟩ := Kd.at_int hR 3 (by omega) (by simp)
  obtain rfl : ad1 = ad4 := (by injection e4)
  clear e4
  replace c4 : w.cell? ⟨ad1.block, ad1.off + 3, none⟩ = some (.int .u8 x4) := c4
  obtain ⟨ad5, e5, c5⟩ := Kd.at_int hR 4 (by omega) (by simp)
  obtain rfl : ad1 = ad5 := (by injection e5)
  clear e5
  replace c5 : w.cell? ⟨ad1.block, ad1.off + 4, none⟩ = some (.int .u8 x5) := c5
  obtain ⟨ad6, e6, c6⟩ := Kd.at_int hR 5 (by omega) (by simp)
  obtain rfl : ad1 = ad6 := (by injection e6)
  clear e6
  replace c6 : w.cell? ⟨ad1.block, ad1.off + 5, none⟩ = some (.int .u8 x6) := c6
  obtain ⟨ad7, e7, c7⟩ := Kd.at_int hR 6 (by omega) (by simp)
  obtain rfl : ad1 = ad7 := (by injection e7)
  clear e7
  replace c7 : w.cell? ⟨ad1.block, ad1.off + 6, none⟩ = some (.int .u8 x7) := c7
  clear hR
  have p1 : ((L.length : Int) == 0) = false := beq_eq_false_iff_ne.mpr (by omega)
  have p1' : ((L.length : Int) != 0) = true := bne_iff_ne.mpr (by omega)
  have p2 : decide ((L.length : Int) < 8) = false := decide_eq_false (by omega)
  have p4 : (0 < L.length) = True := eq_true (by omega)
  clear hL hn hr hc
  go_enter Try.func51, Try.ntmps51
  go_wp2
  go_rounds 8
  go_ret3
  refine ⟨?_, by repeat (first | exact Drawn0.refl _ | apply Drawn0.step)⟩
  show Ending.returned (.tuple #[.int .u64 (bits .or .u64 (IntKind.u64.wrap ((bits .or .u64 (IntKind.u64.wrap ((bits .or .u64 (IntKind.u64.wrap ((bits .or .u64 (IntKind.u64.wrap ((bits .or .u64 (IntKind.u64.wrap ((bits .or .u64 (IntKind.u64.wrap ((bits .or .u64 ((x0 % 64) * 256) x1) * 256)) x2) * 256)) x3) * 256)) x4) * 256)) x5) * 256)) x6) * 256)) x7), .int .i64 8, .int .i64 0]) = _
  rw [or_step0 (x0 % 64) x1 (by omega) (by omega) a1 b1]
  rw [or_step1 ((x0 % 64) * 256 + x1) x2 (by omega) (by omega) a2 b2]
  rw [or_step1 (((x0 % 64) * 256 + x1) * 256 + x2) x3 (by omega) (by omega) a3 b3]
  rw [or_step1 ((((x0 % 64) * 256 + x1) * 256 + x2) * 256 + x3) x4 (by omega) (by omega) a4 b4]
  rw [or_step1 (((((x0 % 64) * 256 + x1) * 256 + x2) * 256 + x3) * 256 + x4) x5 (by omega) (by omega) a5 b5]
  rw [or_step1 ((((((x0 % 64) * 256 + x1) * 256 + x2) * 256 + x3) * 256 + x4) * 256 + x5) x6 (by omega) (by omega) a6 b6]
  rw [or_step1 (((((((x0 % 64) * 256 + x1) * 256 + x2) * 256 + x3) * 256 + x4) * 256 + x5) * 256 + x6) x7 (by omega) (by omega) a7 b7]
theorem varint_Get.short2 (L : List Int) (x0 : Int) (h0 : rd L 0 = x0) (a0 : 0 ≤ x0) (b0 : x0 < 256) (hq : x0 / 64 = 1) (A : Option Addr) (c : Nat) (w : World) (hn : 0 < L.length) (hs : L.length < 2) (hr : Kd.C (Kd.int .u8) w A L.length L) :
    Calls Try.prog 51 #[.slice A L.length c] w fun e w' => e = .returned (.tuple #[.int .u64 0, .int .i64 0, .int .i64 30]) ∧ Drawn0 w w' := by
  obtain ⟨ad, e0, c0⟩ := Kd.at_int hr 0 (by omega) (by omega)
  cases e0
  rw [show ((0 : Int)).toNat = 0 from rfl, Addr.add_zero', h0] at c0
  have p1 : ((L.length : Int) == 0) = false := beq_eq_false_iff_ne.mpr (by omega)
  have p1' : ((L.length : Int) != 0) = true := bne_iff_ne.mpr (by omega)
  have p2 : decide ((L.length : Int) < 2) = true := decide_eq_true (by omega)
  have p4 : (0 < L.length) = True := eq_true (by omega)
  have p5 : L ≠ [] := fun h => by simp [h] at hn
  clear hn hr h0 hs
  go_enter Try.func51, Try.ntmps51
  go_wp2
  go_ret3
  exact ⟨rfl, by repeat (first | exact Drawn0.refl _ | apply Drawn0.step)⟩
theorem varint_Get.short4 (L : List Int) (x0 : Int) (h0 : rd L 0 = x0) (a0 : 0 ≤ x0) (b0 : x0 < 256) (hq : x0 / 64 = 2) (A : Option Addr) (c : Nat) (w : World) (hn : 0 < L.length) (hs : L.length < 4) (hr : Kd.C (Kd.int .u8) w A L.length L) :
    Calls Try.prog 51 #[.slice A L.length c] w fun e w' => e = .returned (.tuple #[.int .u64 0, .int .i64 0, .int .i64 30]) ∧ Drawn0 w w' := by
  obtain ⟨ad, e0, c0⟩ := Kd.at_int hr 0 (by omega) (by omega)
  cases e0
  rw [show ((0 : Int)).toNat = 0 from rfl, Addr.add_zero', h0] at c0
  have p1 : ((L.length : Int) == 0) = false := beq_eq_false_iff_ne.mpr (by omega)
  have p1' : ((L.length : Int) != 0) = true := bne_iff_ne.mpr (by omega)
  have p2 : decide ((L.length : Int) < 4) = true := decide_eq_true (by omega)
  have p4 : (0 < L.length) = True := eq_true (by omega)
  have p5 : L ≠ [] := fun h => by simp [h] at hn
  clear hn hr h0 hs
  go_enter Try.func51, Try.ntmps51
  go_wp2
  go_ret3
  exact ⟨rfl, by repeat (first | exact Drawn0.refl _ | apply Drawn0.step)⟩
theorem varint_Get.short8 (L : List Int) (x0 : Int) (h0 : rd L 0 = x0) (a0 : 0 ≤ x0) (b0 : x0 < 256) (hq : x0 / 64 = 3) (A : Option Addr) (c : Nat) (w : World) (hn : 0 < L.length) (hs : L.length < 8) (hr : Kd.C (Kd.int .u8) w A L.length L) :
    Calls Try.prog 51 #[.slice A L.length c] w fun e w' => e = .returned (.tuple #[.int .u64 0, .int .i64 0, .int .i64 30]) ∧ Drawn0 w w' := by
  obtain ⟨ad, e0, c0⟩ := Kd.at_int hr 0 (by omega) (by omega)
  cases e0
  rw [show ((0 : Int)).toNat = 0 from rfl, Addr.add_zero', h0] at c0
  have p1 : ((L.length : Int) == 0) = false := beq_eq_false_iff_ne.mpr (by omega)
  have p1' : ((L.length : Int) != 0) = true := bne_iff_ne.mpr (by omega)
  have p2 : decide ((L.length : Int) < 8) = true := decide_eq_true (by omega)
  have p4 : (0 < L.length) = True := eq_true (by omega)
  have p5 : L ≠ [] := fun h => by simp [h] at hn
  clear hn hr h0 hs
  go_enter Try.func51, Try.ntmps51
  go_wp2
  go_ret3
  exact ⟨rfl, by repeat (first | exact Drawn0.refl _ | apply Drawn0.step)⟩
theorem varint_Get.nil0 (A : Option Addr) (c : Nat) (w : World) : Calls Try.prog 51 #[.slice A 0 c] w fun e w' => e = .returned (.tuple #[.int .u64 0, .int .i64 0, .int .i64 30]) ∧ Drawn0 w w' := by
  go_enter Try.func51, Try.ntmps51
  go_wp2
  go_ret3
  exact ⟨rfl, by repeat (first | exact Drawn0.refl _ | apply Drawn0.step)⟩
def varint_Get.f (l0 : List Int) : Option (Int × Int × Int) := if bytesOk l0 = true then some (uGet l0) else none
theorem varint_Get.calls (A0 : Option Addr) (c0 : Nat) (l0 : List Int) (r1 : Int) (r2 : Int) (r3 : Int) (w : World) (hr0 : Kd.C (Kd.int .u8) w A0 l0.length l0) (hc0 : l0.length ≤ c0) (h : varint_Get.f l0 = some (r1, r2, r3)) :
    Calls Try.prog 51 #[.slice A0 l0.length c0] w fun e w' => e = .returned (.tuple #[.int .u64 r1, .int .i64 r2, .int .i64 r3]) ∧ Drawn0 w w' := by
  unfold varint_Get.f at h
  by_cases hb : bytesOk l0 = true
  · rw [if_pos hb] at h
    have h := Option.some.inj h
    have hB : ∀ x ∈ l0, 0 ≤ x ∧ x < 256 := fun x hx => by have := List.all_eq_true.1 hb x hx; simpa using this
    unfold uGet at h
    cases hl : l0 with
    | nil => subst hl; simp at h; obtain ⟨rfl, rfl, rfl⟩ := h; exact varint_Get.nil0 A0 c0 w
    | cons x0 t =>
      have h0 := hB x0 (by rw [hl]; simp)
      rw [← hl]
      have hp : 0 < l0.length := by rw [hl]; simp
      have r0 : rd l0 0 = x0 := by rw [hl]; rfl
      rw [if_neg (by omega)] at h
      have hN : uGetN l0 = 2 ^ (x0 / 64).toNat := by unfold uGetN; rw [r0]
      rcases (by omega : x0 / 64 = 0 ∨ x0 / 64 = 1 ∨ x0 / 64 = 2 ∨ x0 / 64 = 3) with hq | hq | hq | hq
      · replace hN : uGetN l0 = 1 := by rw [hN, hq]; rfl
        rw [hN] at h
        · rw [if_neg (by omega)] at h; simp only [Prod.mk.injEq] at h; obtain ⟨rfl, rfl, rfl⟩ := h
          have hv : uGetV l0 = x0 % 64 := by unfold uGetV; rw [hN, r0, hl]; rfl
          rw [hv]; subst hl
          exact varint_Get.way1 x0 t A0 c0 w h0.1 h0.2 hq hr0 hc0
      · replace hN : uGetN l0 = 2 := by rw [hN, hq]; rfl
        rw [hN] at h
        by_cases hs : l0.length < 2
        · rw [if_pos hs] at h; simp only [Prod.mk.injEq] at h; obtain ⟨rfl, rfl, rfl⟩ := h; exact varint_Get.short2 l0 x0 r0 h0.1 h0.2 hq A0 c0 w hp hs hr0
        · rw [if_neg hs] at h; simp only [Prod.mk.injEq] at h; obtain ⟨rfl, rfl, rfl⟩ := h
          cases h1_ : t with
          | nil => exact absurd hs (by rw [hl, h1_]; simp)
          | cons x1 t2 =>
            have h1 := hB x1 (by rw [hl, h1_]; simp)
            rw [h1_] at hl
            have hv : uGetV l0 = (x0 % 64) * 256 + x1 := by unfold uGetV; rw [hN, r0, hl]; rfl
            rw [hv]; subst hl
            exact varint_Get.way2 x0 x1 t2 A0 c0 w h0.1 h0.2 h1.1 h1.2 hq hr0 hc0
      · replace hN : uGetN l0 = 4 := by rw [hN, hq]; rfl
        rw [hN] at h
        by_cases hs : l0.length < 4
        · rw [if_pos hs] at h; simp only [Prod.mk.injEq] at h; obtain ⟨rfl, rfl, rfl⟩ := h; exact varint_Get.short4 l0 x0 r0 h0.1 h0.2 hq A0 c0 w hp hs hr0
        · rw [if_neg hs] at h; simp only [Prod.mk.injEq] at h; obtain ⟨rfl, rfl, rfl⟩ := h
          cases h1_ : t with
          | nil => exact absurd hs (by rw [hl, h1_]; simp)
          | cons x1 t2 =>
            have h1 := hB x1 (by rw [hl, h1_]; simp)
            cases h2_ : t2 with
            | nil => exact absurd hs (by rw [hl, h1_, h2_]; simp)
            | cons x2 t3 =>
              have h2 := hB x2 (by rw [hl, h1_, h2_]; simp)
              cases h3_ : t3 with
              | nil => exact absurd hs (by rw [hl, h1_, h2_, h3_]; simp)
              | cons x3 t4 =>
                have h3 := hB x3 (by rw [hl, h1_, h2_, h3_]; simp)
                rw [h1_, h2_, h3_] at hl
                have hv : uGetV l0 = (((x0 % 64) * 256 + x1) * 256 + x2) * 256 + x3 := by unfold uGetV; rw [hN, r0, hl]; rfl
                rw [hv]; subst hl
                exact varint_Get.way4 x0 x1 x2 x3 t4 A0 c0 w h0.1 h0.2 h1.1 h1.2 h2.1 h2.2 h3.1 h3.2 hq hr0 hc0
      · replace hN : uGetN l0 = 8 := by rw [hN, hq]; rfl
        rw [hN] at h
        by_cases hs : l0.length < 8
        · rw [if_pos hs] at h; simp only [Prod.mk.injEq] at h; obtain ⟨rfl, rfl, rfl⟩ := h; exact varint_Get.short8 l0 x0 r0 h0.1 h0.2 hq A0 c0 w hp hs hr0
        · rw [if_neg hs] at h; simp only [Prod.mk.injEq] at h; obtain ⟨rfl, rfl, rfl⟩ := h
          cases h1_ : t with
          | nil => exact absurd hs (by rw [hl, h1_]; simp)
          | cons x1 t2 =>
            have h1 := hB x1 (by rw [hl, h1_]; simp)
            cases h2_ : t2 with
            | nil => exact absurd hs (by rw [hl, h1_, h2_]; simp)
            | cons x2 t3 =>
              have h2 := hB x2 (by rw [hl, h1_, h2_]; simp)
              cases h3_ : t3 with
              | nil => exact absurd hs (by rw [hl, h1_, h2_, h3_]; simp)
              | cons x3 t4 =>
                have h3 := hB x3 (by rw [hl, h1_, h2_, h3_]; simp)
                cases h4_ : t4 with
                | nil => exact absurd hs (by rw [hl, h1_, h2_, h3_, h4_]; simp)
                | cons x4 t5 =>
                  have h4 := hB x4 (by rw [hl, h1_, h2_, h3_, h4_]; simp)
                  cases h5_ : t5 with
                  | nil => exact absurd hs (by rw [hl, h1_, h2_, h3_, h4_, h5_]; simp)
                  | cons x5 t6 =>
                    have h5 := hB x5 (by rw [hl, h1_, h2_, h3_, h4_, h5_]; simp)
                    cases h6_ : t6 with
                    | nil => exact absurd hs (by rw [hl, h1_, h2_, h3_, h4_, h5_, h6_]; simp)
                    | cons x6 t7 =>
                      have h6 := hB x6 (by rw [hl, h1_, h2_, h3_, h4_, h5_, h6_]; simp)
                      cases h7_ : t7 with
                      | nil => exact absurd hs (by rw [hl, h1_, h2_, h3_, h4_, h5_, h6_, h7_]; simp)
                      | cons x7 t8 =>
                        have h7 := hB x7 (by rw [hl, h1_, h2_, h3_, h4_, h5_, h6_, h7_]; simp)
                        rw [h1_, h2_, h3_, h4_, h5_, h6_, h7_] at hl
                        have hv : uGetV l0 = (((((((x0 % 64) * 256 + x1) * 256 + x2) * 256 + x3) * 256 + x4) * 256 + x5) * 256 + x6) * 256 + x7 := by unfold uGetV; rw [hN, r0, hl]; rfl
                        rw [hv]; subst hl
                        exact varint_Get.way8 x0 x1 x2 x3 x4 x5 x6 x7 t8 A0 c0 w h0.1 h0.2 h1.1 h1.2 h2.1 h2.2 h3.1 h3.2 h4.1 h4.2 h5.1 h5.2 h6.1 h6.2 h7.1 h7.2 hq hr0 hc0
  · rw [if_neg hb] at h; simp at h


end Go.Proofs.Ytphakdfholkbdaa.PFra
