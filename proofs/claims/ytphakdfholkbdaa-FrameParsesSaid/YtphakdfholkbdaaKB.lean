/- Several texts of this claim in one: PFrax2 FraB PFrax4 PFrax5 PFrax6 PFrax7 PFrax8 PFrax1 -/
import Derived.Test.YtphakdfholkbdaaKA
import Derived.RangeFuncBox
import Derived.RangeFuncLeaves
import Derived.Shelf.Abstract
import Derived.WalkKit
import Derived.OwnWalkIn
import Derived.TacticsInMore
import Derived.LoopNIn
import Derived.LoopIn
import Derived.DataElems
import Derived.Test.YtphakdfholkbdaaKW
import Derived.Outline
section
namespace Go.Proofs.Ytphakdfholkbdaa.PFra
open Go.RowKit Go.Proofs.YtphakdfholkbdaaW.PrintWords Go.Proofs.YtphakdfholkbdaaW.PrintLast Go.Proofs.YtphakdfholkbdaaW.PrintMore
set_option linter.unusedVariables false
set_option linter.unusedSimpArgs false
set_option maxRecDepth 100000
set_option maxHeartbeats 4000000
def bytesOk (l : List Int) : Bool := l.all fun x => decide (0 ≤ x) && decide (x < 256)
def uGetN (l : List Int) : Nat := 2 ^ (rd l 0 / 64).toNat
def uGetV (l : List Int) : Int := ((l.take (uGetN l)).drop 1).foldl (fun v x => v * 256 + x) (rd l 0 % 64)
def uGet (l : List Int) : Int × Int × Int := if l.length = 0 then (0, 0, 30) else if l.length < uGetN l then (0, 0, 30) else (uGetV l, (uGetN l : Int), 0)
theorem or_step (v x : Int) (h0 : 0 ≤ v) (h1 : v < 72057594037927936) (h2 : 0 ≤ x) (h3 : x < 256) : Go.bits .or .u64 (IntKind.u64.wrap (v * 256)) (IntKind.u64.wrap x) = v * 256 + x := by
  rw [w64 ⟨by omega, by omega⟩, w64 ⟨by omega, by omega⟩, u64_or _ _ (by omega) (by omega) (by omega) (by omega), nat_join 8 _ _ (by omega) (by omega)]
  omega
theorem or_step1 (v x : Int) (h0 : 0 ≤ v) (h1 : v < 72057594037927936) (h2 : 0 ≤ x) (h3 : x < 256) : Go.bits .or .u64 (IntKind.u64.wrap (v * 256)) x = v * 256 + x := by
  have h := or_step v x h0 h1 h2 h3
  rwa [w64 (x := x) ⟨by omega, by omega⟩] at h
theorem or_step0 (v x : Int) (h0 : 0 ≤ v) (h1 : v < 72057594037927936) (h2 : 0 ≤ x) (h3 : x < 256) : Go.bits .or .u64 (v * 256) x = v * 256 + x := by
  have h := or_step1 v x h0 h1 h2 h3
  rwa [w64 (x := v * 256) ⟨by omega, by omega⟩] at h
theorem varint_Get.way1 (x0 : Int) (t : List Int) (A : Option Addr) (c : Nat) (w : World) (a0 : 0 ≤ x0) (b0 : x0 < 256) (hq : x0 / 64 = 0) (hr : Kd.C (Kd.int .u8) w A (x0 :: t).length (x0 :: t)) (hc : (x0 :: t).length ≤ c) :
    Calls Try.prog 51 #[.slice A (x0 :: t).length c] w fun e w' => e = .returned (.tuple #[.int .u64 (x0 % 64), .int .i64 1, .int .i64 0]) ∧ Drawn0 w w' := by
  obtain ⟨L, hL⟩ : ∃ L, L = (x0 :: t) := ⟨_, rfl⟩
  rw [← hL] at hr hc ⊢
  have hn : 1 ≤ L.length := by rw [hL]; simp
  have r0 : rd L 0 = x0 := by rw [hL]; rfl
  obtain ⟨ad, e0, c0⟩ := Kd.at_int hr 0 (by omega) (by omega)
  cases e0
  rw [show ((0 : Int)).toNat = 0 from rfl, Addr.add_zero', r0] at c0
  obtain ⟨i0, hi0, _, hsz0, _⟩ := info_parts info5
  obtain ⟨A', hcut, hA, _⟩ := print_mid_of (P := Try.prog) (Value.int .u8) 0 24 5 .i64 .i64 Try.underlying24 hi0 hsz0 (some ad) c L 1 1 (by omega) (by omega) (by omega) hc
  have hR := (Kd.C_of_reads (h1 := fun _ => rfl) (hA _ (Kd.reads_of_C hr)) : Kd.C (Kd.int .u8) w A' _ _)
  have hm : ((L.take (1 : Int).toNat).drop (1 : Int).toNat).length = 0 := by rw [show (1 : Int).toNat = 1 from rfl, List.length_drop, List.length_take]; omega
  rw [show (L.take (1 : Int).toNat).drop (1 : Int).toNat = [] from by rw [hL]; rfl] at hR hcut hm
  rw [hm] at hcut
  clear hA hi0 hsz0 hm
  clear hR
  have p1 : ((L.length : Int) == 0) = false := beq_eq_false_iff_ne.mpr (by omega)
  have p1' : ((L.length : Int) != 0) = true := bne_iff_ne.mpr (by omega)
  have p2 : decide ((L.length : Int) < 1) = false := decide_eq_false (by omega)
  have p4 : (0 < L.length) = True := eq_true (by omega)
  clear hL hn hr hc
  go_enter Try.func51, Try.ntmps51
  go_wp2
  go_rounds 1
  go_ret3
  refine ⟨?_, by repeat (first | exact Drawn0.refl _ | apply Drawn0.step)⟩
  show Ending.returned (.tuple #[.int .u64 (x0 % 64), .int .i64 1, .int .i64 0]) = _
  rfl
theorem varint_Get.way2 (x0 x1 : Int) (t : List Int) (A : Option Addr) (c : Nat) (w : World) (a0 : 0 ≤ x0) (b0 : x0 < 256) (a1 : 0 ≤ x1) (b1 : x1 < 256) (hq : x0 / 64 = 1) (hr : Kd.C (Kd.int .u8) w A (x0 :: x1 :: t).length (x0 :: x1 :: t)) (hc : (x0 :: x1 :: t).length ≤ c) :
    Calls Try.prog 51 #[.slice A (x0 :: x1 :: t).length c] w fun e w' => e = .returned (.tuple #[.int .u64 ((x0 % 64) * 256 + x1), .int .i64 2, .int .i64 0]) ∧ Drawn0 w w' := by
  obtain ⟨L, hL⟩ : ∃ L, L = (x0 :: x1 :: t) := ⟨_, rfl⟩
  rw [← hL] at hr hc ⊢
  have hn : 2 ≤ L.length := by rw [hL]; simp
  have r0 : rd L 0 = x0 := by rw [hL]; rfl
  have r1 : rd L 1 = x1 := by rw [hL]; rfl
  obtain ⟨ad, e0, c0⟩ := Kd.at_int hr 0 (by omega) (by omega)
  cases e0
  rw [show ((0 : Int)).toNat = 0 from rfl, Addr.add_zero', r0] at c0
  obtain ⟨i0, hi0, _, hsz0, _⟩ := info_parts info5
  obtain ⟨A', hcut, hA, _⟩ := print_mid_of (P := Try.prog) (Value.int .u8) 0 24 5 .i64 .i64 Try.underlying24 hi0 hsz0 (some ad) c L 1 2 (by omega) (by omega) (by omega) hc
  have hR := (Kd.C_of_reads (h1 := fun _ => rfl) (hA _ (Kd.reads_of_C hr)) : Kd.C (Kd.int .u8) w A' _ _)
  have hm : ((L.take (2 : Int).toNat).drop (1 : Int).toNat).length = 1 := by rw [show (2 : Int).toNat = 2 from rfl, show (1 : Int).toNat = 1 from rfl, List.length_drop, List.length_take]; omega
  rw [show (L.take (2 : Int).toNat).drop (1 : Int).toNat = [x1] from by rw [hL]; rfl] at hR hcut hm
  rw [hm] at hcut
  clear hA hi0 hsz0 hm
  obtain ⟨ad1, e1, c1⟩ := Kd.at_int hR 0 (by omega) (by simp)
  cases e1
  rw [show ((0 : Int)).toNat = 0 from rfl, Addr.add_zero'] at c1
  replace c1 : w.cell? ad1 = some (.int .u8 x1) := c1
  clear hR
  have p1 : ((L.length : Int) == 0) = false := beq_eq_false_iff_ne.mpr (by omega)
  have p1' : ((L.length : Int) != 0) = true := bne_iff_ne.mpr (by omega)
  have p2 : decide ((L.length : Int) < 2) = false := decide_eq_false (by omega)
  have p4 : (0 < L.length) = True := eq_true (by omega)
  clear hL hn hr hc
  go_enter Try.func51, Try.ntmps51
  go_wp2
  go_rounds 2
  go_ret3
  refine ⟨?_, by repeat (first | exact Drawn0.refl _ | apply Drawn0.step)⟩
  show Ending.returned (.tuple #[.int .u64 (bits .or .u64 ((x0 % 64) * 256) x1), .int .i64 2, .int .i64 0]) = _
  rw [or_step0 (x0 % 64) x1 (by omega) (by omega) a1 b1]
theorem varint_Get.way4 (x0 x1 x2 x3 : Int) (t : List Int) (A : Option Addr) (c : Nat) (w : World) (a0 : 0 ≤ x0) (b0 : x0 < 256) (a1 : 0 ≤ x1) (b1 : x1 < 256) (a2 : 0 ≤ x2) (b2 : x2 < 256) (a3 : 0 ≤ x3) (b3 : x3 < 256) (hq : x0 / 64 = 2) (hr : Kd.C (Kd.int .u8) w A (x0 :: x1 :: x2 :: x3 :: t).length (x0 :: x1 :: x2 :: x3 :: t)) (hc : (x0 :: x1 :: x2 :: x3 :: t).length ≤ c) :
    Calls Try.prog 51 #[.slice A (x0 :: x1 :: x2 :: x3 :: t).length c] w fun e w' => e = .returned (.tuple #[.int .u64 ((((x0 % 64) * 256 + x1) * 256 + x2) * 256 + x3), .int .i64 4, .int .i64 0]) ∧ Drawn0 w w' := by
  obtain ⟨L, hL⟩ : ∃ L, L = (x0 :: x1 :: x2 :: x3 :: t) := ⟨_, rfl⟩
  rw [← hL] at hr hc ⊢
  have hn : 4 ≤ L.length := by rw [hL]; simp
  have r0 : rd L 0 = x0 := by rw [hL]; rfl
  have r1 : rd L 1 = x1 := by rw [hL]; rfl
  have r2 : rd L 2 = x2 := by rw [hL]; rfl
  have r3 : rd L 3 = x3 := by rw [hL]; rfl
  obtain ⟨ad, e0, c0⟩ := Kd.at_int hr 0 (by omega) (by omega)
  cases e0
  rw [show ((0 : Int)).toNat = 0 from rfl, Addr.add_zero', r0] at c0
  obtain ⟨i0, hi0, _, hsz0, _⟩ := info_parts info5
  obtain ⟨A', hcut, hA, _⟩ := print_mid_of (P := Try.prog) (Value.int .u8) 0 24 5 .i64 .i64 Try.underlying24 hi0 hsz0 (some ad) c L 1 4 (by omega) (by omega) (by omega) hc
  have hR := (Kd.C_of_reads (h1 := fun _ => rfl) (hA _ (Kd.reads_of_C hr)) : Kd.C (Kd.int .u8) w A' _ _)
  have hm : ((L.take (4 : Int).toNat).drop (1 : Int).toNat).length = 3 := by rw [show (4 : Int).toNat = 4 from rfl, show (1 : Int).toNat = 1 from rfl, List.length_drop, List.length_take]; omega
  rw [show (L.take (4 : Int).toNat).drop (1 : Int).toNat = [x1, x2, x3] from by rw [hL]; rfl] at hR hcut hm
  rw [hm] at hcut
  clear hA hi0 hsz0 hm
  obtain ⟨ad1, e1, c1⟩ := Kd.at_int hR 0 (by omega) (by simp)
  cases e1
  rw [show ((0 : Int)).toNat = 0 from rfl, Addr.add_zero'] at c1
  replace c1 : w.cell? ad1 = some (.int .u8 x1) := c1
  obtain ⟨ad2, e2, c2⟩ := Kd.at_int hR 1 (by omega) (by simp)
  obtain rfl : ad1 = ad2 := (by injection e2)
  clear e2
  replace c2 : w.cell? ⟨ad1.block, ad1.off + 1, none⟩ = some (.int .u8 x2) := c2
  obtain ⟨ad3, e3, c3⟩ := Kd.at_int hR 2 (by omega) (by simp)
  obtain rfl : ad1 = ad3 := (by injection e3)
  clear e3
  replace c3 : w.cell? ⟨ad1.block, ad1.off + 2, none⟩ = some (.int .u8 x3) := c3
  clear hR
  have p1 : ((L.length : Int) == 0) = false := beq_eq_false_iff_ne.mpr (by omega)
  have p1' : ((L.length : Int) != 0) = true := bne_iff_ne.mpr (by omega)
  have p2 : decide ((L.length : Int) < 4) = false := decide_eq_false (by omega)
  have p4 : (0 < L.length) = True := eq_true (by omega)
  clear hL hn hr hc
  go_enter Try.func51, Try.ntmps51
  go_wp2
  go_rounds 4
  go_ret3
  refine ⟨?_, by repeat (first | exact Drawn0.refl _ | apply Drawn0.step)⟩
  show Ending.returned (.tuple #[.int .u64 (bits .or .u64 (IntKind.u64.wrap ((bits .or .u64 (IntKind.u64.wrap ((bits .or .u64 ((x0 % 64) * 256) x1) * 256)) x2) * 256)) x3), .int .i64 4, .int .i64 0]) = _
  rw [or_step0 (x0 % 64) x1 (by omega) (by omega) a1 b1]
  rw [or_step1 ((x0 % 64) * 256 + x1) x2 (by omega) (by omega) a2 b2]
  rw [or_step1 (((x0 % 64) * 256 + x1) * 256 + x2) x3 (by omega) (by omega) a3 b3]
theorem varint_Get.way8 (x0 x1 x2 x3 x4 x5 x6 x7 : Int) (t : List Int) (A : Option Addr) (c : Nat) (w : World) (a0 : 0 ≤ x0) (b0 : x0 < 256) (a1 : 0 ≤ x1) (b1 : x1 < 256) (a2 : 0 ≤ x2) (b2 : x2 < 256) (a3 : 0 ≤ x3) (b3 : x3 < 256) (a4 : 0 ≤ x4) (b4 : x4 < 256) (a5 : 0 ≤ x5) (b5 : x5 < 256) (a6 : 0 ≤ x6) (b6 : x6 < 256) (a7 : 0 ≤ x7) (b7 : x7 < 256) (hq : x0 / 64 = 3) (hr : Kd.C (Kd.int .u8) w A (x0 :: x1 :: x2 :: x3 :: x4 :: x5 :: x6 :: x7 :: t).length (x0 :: x1 :: x2 :: x3 :: x4 :: x5 :: x6 :: x7 :: t)) (hc : (x0 :: x1 :: x2 :: x3 :: x4 :: x5 :: x6 :: x7 :: t).length ≤ c) :
    Calls Try.prog 51 #[.slice A (x0 :: x1 :: x2 :: x3 :: x4 :: x5 :: x6 :: x7 :: t).length c] w fun e w' => e = .returned (.tuple #[.int .u64 ((((((((x0 % 64) * 256 + x1) * 256 + x2) * 256 + x3) * 256 + x4) * 256 + x5) * 256 + x6) * 256 + x7), .int .i64 8, .int .i64 0]) ∧ Drawn0 w w' := by
  obtain ⟨L, hL⟩ : ∃ L, L = (x0 :: x1 :: x2 :: x3 :: x4 :: x5 :: x6 :: x7 :: t) := ⟨_, rfl⟩
  rw [← hL] at hr hc ⊢
  have hn : 8 ≤ L.length := by rw [hL]; simp
  have r0 : rd L 0 = x0 := by rw [hL]; rfl
  have r1 : rd L 1 = x1 := by rw [hL]; rfl
  have r2 : rd L 2 = x2 := by rw [hL]; rfl
  have r3 : rd L 3 = x3 := by rw [hL]; rfl
  have r4 : rd L 4 = x4 := by rw [hL]; rfl
  have r5 : rd L 5 = x5 := by rw [hL]; rfl
  have r6 : rd L 6 = x6 := by rw [hL]; rfl
  have r7 : rd L 7 = x7 := by rw [hL]; rfl
  obtain ⟨ad, e0, c0⟩ := Kd.at_int hr 0 (by omega) (by omega)
  cases e0
  rw [show ((0 : Int)).toNat = 0 from rfl, Addr.add_zero', r0] at c0
  obtain ⟨i0, hi0, _, hsz0, _⟩ := info_parts info5
  obtain ⟨A', hcut, hA, _⟩ := print_mid_of (P := Try.prog) (Value.int .u8) 0 24 5 .i64 .i64 Try.underlying24 hi0 hsz0 (some ad) c L 1 8 (by omega) (by omega) (by omega) hc
  have hR := (Kd.C_of_reads (h1 := fun _ => rfl) (hA _ (Kd.reads_of_C hr)) : Kd.C (Kd.int .u8) w A' _ _)
  have hm : ((L.take (8 : Int).toNat).drop (1 : Int).toNat).length = 7 := by rw [show (8 : Int).toNat = 8 from rfl, show (1 : Int).toNat = 1 from rfl, List.length_drop, List.length_take]; omega
  rw [show (L.take (8 : Int).toNat).drop (1 : Int).toNat = [x1, x2, x3, x4, x5, x6, x7] from by rw [hL]; rfl] at hR hcut hm
  rw [hm] at hcut
  clear hA hi0 hsz0 hm
  obtain ⟨ad1, e1, c1⟩ := Kd.at_int hR 0 (by omega) (by simp)
  cases e1
  rw [show ((0 : Int)).toNat = 0 from rfl, Addr.add_zero'] at c1
  replace c1 : w.cell? ad1 = some (.int .u8 x1) := c1
  obtain ⟨ad2, e2, c2⟩ := Kd.at_int hR 1 (by omega) (by simp)
  obtain rfl : ad1 = ad2 := (by injection e2)
  clear e2
  replace c2 : w.cell? ⟨ad1.block, ad1.off + 1, none⟩ = some (.int .u8 x2) := c2
  obtain ⟨ad3, e3, c3⟩ := Kd.at_int hR 2 (by omega) (by simp)
  obtain rfl : ad1 = ad3 := (by injection e3)
  clear e3
  replace c3 : w.cell? ⟨ad1.block, ad1.off + 2, none⟩ = some (.int .u8 x3) := c3
  obtain ⟨ad4, e4, c4⟩ := Kd.at_int hR 3 (by omega) (by simp)
  obtain rfl : ad1 = ad4 := (by injection e4)
  clear e4
  replace c4 : w.cell? ⟨ad1.block, ad1.off + 3, none⟩ = some (.int .u8 x4) := c4
  obtain ⟨ad5, e5, c5⟩ := Kd.at_int hR 4 (by omega) (by simp)
  obtain rfl : ad1 = ad5 := (by injection e5)
  clear e5
  replace c5 : w.cell? ⟨ad1.block, ad1.off + 4, none⟩ = some (.int .u8 x5) := c5
  obtain ⟨ad6, e6, c6⟩ := Kd.at_int hR 5 (by omega) (by simp)
  obtain rfl : ad1 = ad6 := (by injection e6)
  clear e6
  replace c6 : w.cell? ⟨ad1.block, ad1.off + 5, none⟩ = some (.int .u8 x6) := c6
  obtain ⟨ad7, e7, c7⟩ := Kd.at_int hR 6 (by omega) (by simp)
  obtain rfl : ad1 = ad7 := (by injection e7)
  clear e7
  replace c7 : w.cell? ⟨ad1.block, ad1.off + 6, none⟩ = some (.int .u8 x7) := c7
  clear hR
  have p1 : ((L.length : Int) == 0) = false := beq_eq_false_iff_ne.mpr (by omega)
  have p1' : ((L.length : Int) != 0) = true := bne_iff_ne.mpr (by omega)
  have p2 : decide ((L.length : Int) < 8) = false := decide_eq_false (by omega)
  have p4 : (0 < L.length) = True := eq_true (by omega)
  clear hL hn hr hc
  go_enter Try.func51, Try.ntmps51
  go_wp2
  go_rounds 8
  go_ret3
  refine ⟨?_, by repeat (first | exact Drawn0.refl _ | apply Drawn0.step)⟩
  show Ending.returned (.tuple #[.int .u64 (bits .or .u64 (IntKind.u64.wrap ((bits .or .u64 (IntKind.u64.wrap ((bits .or .u64 (IntKind.u64.wrap ((bits .or .u64 (IntKind.u64.wrap ((bits .or .u64 (IntKind.u64.wrap ((bits .or .u64 (IntKind.u64.wrap ((bits .or .u64 ((x0 % 64) * 256) x1) * 256)) x2) * 256)) x3) * 256)) x4) * 256)) x5) * 256)) x6) * 256)) x7), .int .i64 8, .int .i64 0]) = _
  rw [or_step0 (x0 % 64) x1 (by omega) (by omega) a1 b1]
  rw [or_step1 ((x0 % 64) * 256 + x1) x2 (by omega) (by omega) a2 b2]
  rw [or_step1 (((x0 % 64) * 256 + x1) * 256 + x2) x3 (by omega) (by omega) a3 b3]
  rw [or_step1 ((((x0 % 64) * 256 + x1) * 256 + x2) * 256 + x3) x4 (by omega) (by omega) a4 b4]
  rw [or_step1 (((((x0 % 64) * 256 + x1) * 256 + x2) * 256 + x3) * 256 + x4) x5 (by omega) (by omega) a5 b5]
  rw [or_step1 ((((((x0 % 64) * 256 + x1) * 256 + x2) * 256 + x3) * 256 + x4) * 256 + x5) x6 (by omega) (by omega) a6 b6]
  rw [or_step1 (((((((x0 % 64) * 256 + x1) * 256 + x2) * 256 + x3) * 256 + x4) * 256 + x5) * 256 + x6) x7 (by omega) (by omega) a7 b7]
theorem varint_Get.short2 (L : List Int) (x0 : Int) (h0 : rd L 0 = x0) (a0 : 0 ≤ x0) (b0 : x0 < 256) (hq : x0 / 64 = 1) (A : Option Addr) (c : Nat) (w : World) (hn : 0 < L.length) (hs : L.length < 2) (hr : Kd.C (Kd.int .u8) w A L.length L) :
    Calls Try.prog 51 #[.slice A L.length c] w fun e w' => e = .returned (.tuple #[.int .u64 0, .int .i64 0, .int .i64 30]) ∧ Drawn0 w w' := by
  obtain ⟨ad, e0, c0⟩ := Kd.at_int hr 0 (by omega) (by omega)
  cases e0
  rw [show ((0 : Int)).toNat = 0 from rfl, Addr.add_zero', h0] at c0
  have p1 : ((L.length : Int) == 0) = false := beq_eq_false_iff_ne.mpr (by omega)
  have p1' : ((L.length : Int) != 0) = true := bne_iff_ne.mpr (by omega)
  have p2 : decide ((L.length : Int) < 2) = true := decide_eq_true (by omega)
  have p4 : (0 < L.length) = True := eq_true (by omega)
  have p5 : L ≠ [] := fun h => by simp [h] at hn
  clear hn hr h0 hs
  go_enter Try.func51, Try.ntmps51
  go_wp2
  go_ret3
  exact ⟨rfl, by repeat (first | exact Drawn0.refl _ | apply Drawn0.step)⟩
theorem varint_Get.short4 (L : List Int) (x0 : Int) (h0 : rd L 0 = x0) (a0 : 0 ≤ x0) (b0 : x0 < 256) (hq : x0 / 64 = 2) (A : Option Addr) (c : Nat) (w : World) (hn : 0 < L.length) (hs : L.length < 4) (hr : Kd.C (Kd.int .u8) w A L.length L) :
    Calls Try.prog 51 #[.slice A L.length c] w fun e w' => e = .returned (.tuple #[.int .u64 0, .int .i64 0, .int .i64 30]) ∧ Drawn0 w w' := by
  obtain ⟨ad, e0, c0⟩ := Kd.at_int hr 0 (by omega) (by omega)
  cases e0
  rw [show ((0 : Int)).toNat = 0 from rfl, Addr.add_zero', h0] at c0
  have p1 : ((L.length : Int) == 0) = false := beq_eq_false_iff_ne.mpr (by omega)
  have p1' : ((L.length : Int) != 0) = true := bne_iff_ne.mpr (by omega)
  have p2 : decide ((L.length : Int) < 4) = true := decide_eq_true (by omega)
  have p4 : (0 < L.length) = True := eq_true (by omega)
  have p5 : L ≠ [] := fun h => by simp [h] at hn
  clear hn hr h0 hs
  go_enter Try.func51, Try.ntmps51
  go_wp2
  go_ret3
  exact ⟨rfl, by repeat (first | exact Drawn0.refl _ | apply Drawn0.step)⟩
theorem varint_Get.short8 (L : List Int) (x0 : Int) (h0 : rd L 0 = x0) (a0 : 0 ≤ x0) (b0 : x0 < 256) (hq : x0 / 64 = 3) (A : Option Addr) (c : Nat) (w : World) (hn : 0 < L.length) (hs : L.length < 8) (hr : Kd.C (Kd.int .u8) w A L.length L) :
    Calls Try.prog 51 #[.slice A L.length c] w fun e w' => e = .returned (.tuple #[.int .u64 0, .int .i64 0, .int .i64 30]) ∧ Drawn0 w w' := by
  obtain ⟨ad, e0, c0⟩ := Kd.at_int hr 0 (by omega) (by omega)
  cases e0
  rw [show ((0 : Int)).toNat = 0 from rfl, Addr.add_zero', h0] at c0
  have p1 : ((L.length : Int) == 0) = false := beq_eq_false_iff_ne.mpr (by omega)
  have p1' : ((L.length : Int) != 0) = true := bne_iff_ne.mpr (by omega)
  have p2 : decide ((L.length : Int) < 8) = true := decide_eq_true (by omega)
  have p4 : (0 < L.length) = True := eq_true (by omega)
  have p5 : L ≠ [] := fun h => by simp [h] at hn
  clear hn hr h0 hs
  go_enter Try.func51, Try.ntmps51
  go_wp2
  go_ret3
  exact ⟨rfl, by repeat (first | exact Drawn0.refl _ | apply Drawn0.step)⟩
theorem varint_Get.nil0 (A : Option Addr) (c : Nat) (w : World) : Calls Try.prog 51 #[.slice A 0 c] w fun e w' => e = .returned (.tuple #[.int .u64 0, .int .i64 0, .int .i64 30]) ∧ Drawn0 w w' := by
  go_enter Try.func51, Try.ntmps51
  go_wp2
  go_ret3
  exact ⟨rfl, by repeat (first | exact Drawn0.refl _ | apply Drawn0.step)⟩
def varint_Get.f (l0 : List Int) : Option (Int × Int × Int) := if bytesOk l0 = true then some (uGet l0) else none
theorem varint_Get.calls (A0 : Option Addr) (c0 : Nat) (l0 : List Int) (r1 : Int) (r2 : Int) (r3 : Int) (w : World) (hr0 : Kd.C (Kd.int .u8) w A0 l0.length l0) (hc0 : l0.length ≤ c0) (h : varint_Get.f l0 = some (r1, r2, r3)) :
    Calls Try.prog 51 #[.slice A0 l0.length c0] w fun e w' => e = .returned (.tuple #[.int .u64 r1, .int .i64 r2, .int .i64 r3]) ∧ Drawn0 w w' := by
  unfold varint_Get.f at h
  by_cases hb : bytesOk l0 = true
  · rw [if_pos hb] at h
    have h := Option.some.inj h
    have hB : ∀ x ∈ l0, 0 ≤ x ∧ x < 256 := fun x hx => by have := List.all_eq_true.1 hb x hx; simpa using this
    unfold uGet at h
    cases hl : l0 with
    | nil => subst hl; simp at h; obtain ⟨rfl, rfl, rfl⟩ := h; exact varint_Get.nil0 A0 c0 w
    | cons x0 t =>
      have h0 := hB x0 (by rw [hl]; simp)
      rw [← hl]
      have hp : 0 < l0.length := by rw [hl]; simp
      have r0 : rd l0 0 = x0 := by rw [hl]; rfl
      rw [if_neg (by omega)] at h
      have hN : uGetN l0 = 2 ^ (x0 / 64).toNat := by unfold uGetN; rw [r0]
      rcases (by omega : x0 / 64 = 0 ∨ x0 / 64 = 1 ∨ x0 / 64 = 2 ∨ x0 / 64 = 3) with hq | hq | hq | hq
      · replace hN : uGetN l0 = 1 := by rw [hN, hq]; rfl
        rw [hN] at h
        · rw [if_neg (by omega)] at h; simp only [Prod.mk.injEq] at h; obtain ⟨rfl, rfl, rfl⟩ := h
          have hv : uGetV l0 = x0 % 64 := by unfold uGetV; rw [hN, r0, hl]; rfl
          rw [hv]; subst hl
          exact varint_Get.way1 x0 t A0 c0 w h0.1 h0.2 hq hr0 hc0
      · replace hN : uGetN l0 = 2 := by rw [hN, hq]; rfl
        rw [hN] at h
        by_cases hs : l0.length < 2
        · rw [if_pos hs] at h; simp only [Prod.mk.injEq] at h; obtain ⟨rfl, rfl, rfl⟩ := h; exact varint_Get.short2 l0 x0 r0 h0.1 h0.2 hq A0 c0 w hp hs hr0
        · rw [if_neg hs] at h; simp only [Prod.mk.injEq] at h; obtain ⟨rfl, rfl, rfl⟩ := h
          cases h1_ : t with
          | nil => exact absurd hs (by rw [hl, h1_]; simp)
          | cons x1 t2 =>
            have h1 := hB x1 (by rw [hl, h1_]; simp)
            rw [h1_] at hl
            have hv : uGetV l0 = (x0 % 64) * 256 + x1 := by unfold uGetV; rw [hN, r0, hl]; rfl
            rw [hv]; subst hl
            exact varint_Get.way2 x0 x1 t2 A0 c0 w h0.1 h0.2 h1.1 h1.2 hq hr0 hc0
      · replace hN : uGetN l0 = 4 := by rw [hN, hq]; rfl
        rw [hN] at h
        by_cases hs : l0.length < 4
        · rw [if_pos hs] at h; simp only [Prod.mk.injEq] at h; obtain ⟨rfl, rfl, rfl⟩ := h; exact varint_Get.short4 l0 x0 r0 h0.1 h0.2 hq A0 c0 w hp hs hr0
        · rw [if_neg hs] at h; simp only [Prod.mk.injEq] at h; obtain ⟨rfl, rfl, rfl⟩ := h
          cases h1_ : t with
          | nil => exact absurd hs (by rw [hl, h1_]; simp)
          | cons x1 t2 =>
            have h1 := hB x1 (by rw [hl, h1_]; simp)
            cases h2_ : t2 with
            | nil => exact absurd hs (by rw [hl, h1_, h2_]; simp)
            | cons x2 t3 =>
              have h2 := hB x2 (by rw [hl, h1_, h2_]; simp)
              cases h3_ : t3 with
              | nil => exact absurd hs (by rw [hl, h1_, h2_, h3_]; simp)
              | cons x3 t4 =>
                have h3 := hB x3 (by rw [hl, h1_, h2_, h3_]; simp)
                rw [h1_, h2_, h3_] at hl
                have hv : uGetV l0 = (((x0 % 64) * 256 + x1) * 256 + x2) * 256 + x3 := by unfold uGetV; rw [hN, r0, hl]; rfl
                rw [hv]; subst hl
                exact varint_Get.way4 x0 x1 x2 x3 t4 A0 c0 w h0.1 h0.2 h1.1 h1.2 h2.1 h2.2 h3.1 h3.2 hq hr0 hc0
      · replace hN : uGetN l0 = 8 := by rw [hN, hq]; rfl
        rw [hN] at h
        by_cases hs : l0.length < 8
        · rw [if_pos hs] at h; simp only [Prod.mk.injEq] at h; obtain ⟨rfl, rfl, rfl⟩ := h; exact varint_Get.short8 l0 x0 r0 h0.1 h0.2 hq A0 c0 w hp hs hr0
        · rw [if_neg hs] at h; simp only [Prod.mk.injEq] at h; obtain ⟨rfl, rfl, rfl⟩ := h
          cases h1_ : t with
          | nil => exact absurd hs (by rw [hl, h1_]; simp)
          | cons x1 t2 =>
            have h1 := hB x1 (by rw [hl, h1_]; simp)
            cases h2_ : t2 with
            | nil => exact absurd hs (by rw [hl, h1_, h2_]; simp)
            | cons x2 t3 =>
              have h2 := hB x2 (by rw [hl, h1_, h2_]; simp)
              cases h3_ : t3 with
              | nil => exact absurd hs (by rw [hl, h1_, h2_, h3_]; simp)
              | cons x3 t4 =>
                have h3 := hB x3 (by rw [hl, h1_, h2_, h3_]; simp)
                cases h4_ : t4 with
                | nil => exact absurd hs (by rw [hl, h1_, h2_, h3_, h4_]; simp)
                | cons x4 t5 =>
                  have h4 := hB x4 (by rw [hl, h1_, h2_, h3_, h4_]; simp)
                  cases h5_ : t5 with
                  | nil => exact absurd hs (by rw [hl, h1_, h2_, h3_, h4_, h5_]; simp)
                  | cons x5 t6 =>
                    have h5 := hB x5 (by rw [hl, h1_, h2_, h3_, h4_, h5_]; simp)
                    cases h6_ : t6 with
                    | nil => exact absurd hs (by rw [hl, h1_, h2_, h3_, h4_, h5_, h6_]; simp)
                    | cons x6 t7 =>
                      have h6 := hB x6 (by rw [hl, h1_, h2_, h3_, h4_, h5_, h6_]; simp)
                      cases h7_ : t7 with
                      | nil => exact absurd hs (by rw [hl, h1_, h2_, h3_, h4_, h5_, h6_, h7_]; simp)
                      | cons x7 t8 =>
                        have h7 := hB x7 (by rw [hl, h1_, h2_, h3_, h4_, h5_, h6_, h7_]; simp)
                        rw [h1_, h2_, h3_, h4_, h5_, h6_, h7_] at hl
                        have hv : uGetV l0 = (((((((x0 % 64) * 256 + x1) * 256 + x2) * 256 + x3) * 256 + x4) * 256 + x5) * 256 + x6) * 256 + x7 := by unfold uGetV; rw [hN, r0, hl]; rfl
                        rw [hv]; subst hl
                        exact varint_Get.way8 x0 x1 x2 x3 x4 x5 x6 x7 t8 A0 c0 w h0.1 h0.2 h1.1 h1.2 h2.1 h2.2 h3.1 h3.2 h4.1 h4.2 h5.1 h5.2 h6.1 h6.2 h7.1 h7.2 hq hr0 hc0
  · rw [if_neg hb] at h; simp at h
end Go.Proofs.Ytphakdfholkbdaa.PFra
end
section
namespace Go.Proofs.Ytphakdfholkbdaa
open Go.Proofs.Ytphakdfholkbdaa.PFra Go.RowKit Go.Proofs.YtphakdfholkbdaaW.PrintWords Go.Proofs.YtphakdfholkbdaaW.PrintLast Go.Proofs.YtphakdfholkbdaaW.PrintMore
set_option maxRecDepth 100000
set_option maxHeartbeats 4000000
set_option linter.unusedVariables false
set_option linter.unusedSimpArgs false
structure OW (w0 w : World) (v : Value) (l : List Int) : Prop where mk :: (out : Kd.R (Kd.int .u8) 5 w w0.heap.size (fun _ => True) v l)
theorem OW.below {w0 w w1 : World} {v : Value} {l : List Int} (h : OW w0 w v l) (hb : Below w.heap.size w w1) : OW w0 w1 v l := ⟨Kd.R_below h.out hb⟩
theorem OW.set {w0 w : World} {v : Value} {l : List Int} {g t : Nat} {cs : List Value} (h : OW w0 w v l) (hB : Blk w g t cs) (ht : t ≠ 5) (j : Nat) (u : Value) : OW w0 (w.setCell ⟨g, j, none⟩ u) v l := ⟨Kd.R_set h.out hB.out (fun q hq e => by simp [Kd.int, Kd.scalar] at hq; exact ht (e ▸ hq)) j u⟩
theorem OW.grown {w0 w w1 : World} {v : Value} {l : List Int} {g t : Nat} {cs : List Value} (h : OW w0 w v l) (hB : Blk w g t cs) (ht : t ≠ 5) (hg : w.grownBy w1 (some g)) : OW w0 w1 v l := ⟨Kd.R_mono (Kd.R_grown (Kd.R_types h.out hB.out (fun q hq e => by simp [Kd.int, Kd.scalar] at hq; exact ht (e ▸ hq))) hg (fun k hk e => hk.2 (by injection e))) (fun _ hk => hk.1)⟩
structure KO (g : Option Nat) (W W' : World) : Prop where
  size : W.heap.size ≤ W'.heap.size
  same : ∀ r o, W.heap[r]? = some o → (∀ cs, o ≠ .cells cs 5 (0, 0)) → some r ≠ g → W'.heap[r]? = some o
theorem KO.trans {g : Option Nat} {A B C : World} (h : KO g A B) (k : KO g B C) : KO g A C := ⟨Nat.le_trans h.size k.size, fun r o a b c => k.same r o (h.same r o a b c) b c⟩
theorem KO.below {W W' : World} (h : Below W.heap.size W W') : KO none W W' := ⟨h.size, fun r o a _ _ => by
  have hr : r < W.heap.size := (Array.getElem?_eq_some_iff.1 a).1
  rw [h.block r hr]; exact a⟩
theorem KO.own {w0 W W' : World} {v : Value} {l : List Int} (h : OW w0 W v l) (hg : W.grownBy W' v.ownBlock) : KO none W W' := ⟨hg.size, fun r o a b _ => by
  have hr : r < W.heap.size := (Array.getElem?_eq_some_iff.1 a).1
  rw [hg.block r hr (fun e => by
    obtain ⟨cs, hc⟩ := Kd.R_typed h.out r e.symm
    rw [hc] at a; exact b cs (Option.some.inj a).symm)]; exact a⟩
theorem KO.grown {W W' : World} {g : Nat} (hg : W.grownBy W' (some g)) : KO (some g) W W' := ⟨hg.size, fun r o a _ c => by
  have hr : r < W.heap.size := (Array.getElem?_eq_some_iff.1 a).1
  rw [hg.block r hr c]; exact a⟩
theorem KO.blk {g : Option Nat} {W W' : World} {g' t : Nat} {cs : List Value} (h : KO g W W') (hB : Blk W g' t cs) (ht : t ≠ 5) (hg : some g' ≠ g) : Blk W' g' t cs := ⟨h.same _ _ hB.out (fun c e => by simp only [Obj.cells.injEq] at e; exact ht e.2.1) hg⟩
theorem chain3_ {ops : Array Oper} {Q : Exit → Act → World → Prop} {md : Region.Mode} {S : World → Prop} {ds : List Nat} {i1 i2 i3 fuel : Nat} {o1 o2 o3 : Oper} {N1 N2 N3 : Tmp} {l0 : Array Bool} {a : Act} {W w0 : World}
    (l1 l2 l3 : Array Bool) (h1 : ops[i1]? = some o1) (h2 : ops[i2]? = some o2) (h3 : ops[i3]? = some o3)
    (n1 : o1.dst = some N1) (n2 : o2.dst = some N2) (n3 : o3.dst = some N3)
    (g1 : o1.guard = none) (g2 : o2.guard = none) (g3 : o3.guard = none)
    (c1 : readyB md ops l0 l1 i1 = true) (c2 : readyB md ops l1 l2 i2 = true) (c3 : readyB md ops l2 l3 i3 = true)
    (d1 : i1 ∉ ds) (d2 : i2 ∉ ds) (d3 : i3 ∉ ds)
    (xs bs l : List Int) (v : Value) (s : Operand) (fn : Nat) {f24 : Func} (hf : Try.prog.funcs[fn]? = some f24) (hfn : (f24.name == "runtime.NumGoroutine") = false) (hfb : f24.body.isSome = true)
    (r1 : (execOp a.eval o1).run Try.prog W = .ok (.value (.slice (some ⟨W.heap.size, 0, none⟩) xs.length xs.length)) (W.alloc (.cells (xs.map (Value.int .u64)).toArray 23)))
    (r2 : o2.op = .call { callee := .value (.func fn), args := #[.tmp N1], argTypes := #[62] })
    (r3 : o3.op = .call { callee := .builtin .append, args := #[s, .tmp N2], argTypes := #[24, 24] })
    (e1 : ∀ x, (a.put (some N1) x).eval (.tmp N1) = x) (e2 : ∀ x y, ((a.put (some N1) x).put (some N2) y).eval (.tmp N2) = y) (e3 : ∀ x y, ((a.put (some N1) x).put (some N2) y).eval s = v)
    (hx : xs.length ≤ 1000) (hlen : l.length + bs.length ≤ 140737488355328)
    (hC : ∀ (A : Option Addr) (c : Nat) (W : World), Kd.C (Kd.int .u64) W A xs.length xs → xs.length ≤ c → Calls Try.prog fn #[.slice A xs.length c] W fun e w' => ∃ v2, e = .returned v2 ∧ Kd.R (Kd.int .u8) 5 w' W.heap.size (fun _ => True) v2 bs ∧ Below W.heap.size W w')
    (HO : OW w0 W v l) (HS : Since w0 W)
    (hS : ∀ w', KO none W w' → S w')
    (h : ∀ x y v3 w3, OW w0 w3 v3 (l ++ bs) → KO none W w3 → Since w0 w3 → S w3 → wpAnyLast Try.prog md ops Q S ds fuel l3 (((a.put (some N1) x).put (some N2) y).put (some N3) v3) w3) :
    wpAnyLast Try.prog md ops Q S ds (fuel + 3) l0 a W := by
  obtain ⟨_, p1, t1, z1, f1, _⟩ := o1
  obtain ⟨_, p2, t2, z2, f2, _⟩ := o2
  obtain ⟨_, p3, t3, z3, f3, _⟩ := o3
  simp only at n1 n2 n3 g1 g2 g3 r2 r3
  subst n1; subst n2; subst n3; subst g1; subst g2; subst g3; subst r2; subst r3
  refine one_ l1 h1 rfl c1 d1 (fun K1 hK1 => ?_)
  refine Kd.R_lit_step (Kd.int .u64) (w0 := W) W.heap.size 23 rfl rfl (xs := xs) (inner := xs.map (Value.int .u64)) (ok := fun _ => True) (okp := fun _ => True) r1 (Kd.reps_scalar xs) (fun _ hk => hk) trivial (Below.refl _ _) (Nat.le_refl _) (by omega) ?_
  intro v1 w1 hR1 hb1 hgr1 _
  obtain ⟨A1, cc1, rfl⟩ := Kd.R_slice hR1
  obtain ⟨_, hcc1, hC1⟩ := Kd.R_reads' hR1
  refine hK1.out _ _ (hS _ (KO.below hb1)) (fun _ => ?_)
  clear hK1 K1
  have HO1 := HO.below hb1
  have HS1 := HS.below hb1
  refine one_ l2 h2 rfl c2 d2 (fun K2 hK2 => ?_)
  refine goes_ hf hfn hfb #[.slice A1 xs.length cc1] rfl rfl rfl (by simp only [List.map_toArray, List.map_cons, List.map_nil, e1]) ?_
  refine (hC A1 cc1 w1 hC1 hcc1).mono ?_
  rintro e w2 ⟨v2, rfl, hR2, hb2⟩
  refine ⟨_, rfl, ?_⟩
  obtain ⟨A2, cc2, rfl⟩ := Kd.R_slice hR2
  obtain ⟨_, hcc2, hC2⟩ := Kd.R_reads' hR2
  have HO2 := HO1.below hb2
  have HS2 := HS1.below hb2
  refine hK2.out _ _ (hS _ ((KO.below hb1).trans (KO.below hb2))) (fun _ => ?_)
  clear hK2 K2
  refine one_ l3 h3 rfl c3 d3 (fun K3 hK3 => ?_)
  refine Kd.R_append_rows_step (Kd.int .u8) (w0 := w0) w0.heap.size rfl s (.tmp N2) 24 5 (.int .u8 0) 1 rfl Try.underlying24 info5 rfl (by decide) (by omega) v l bs _ _ _ (fun _ => True) (fun _ => False) (e3 _ _) (e2 _ _) HO2.out hC2 (fun _ _ hh => hh) (fun _ hh => hh.elim) (fun _ _ => trivial) HS2.out HS2.le (by omega) ?_
  intro v3 w3 hR3 hb3 hgr3 _
  have hk3 : KO none W w3 := ((KO.below hb1).trans (KO.below hb2)).trans (KO.own HO2 hgr3)
  exact hK3.out _ _ (hS _ hk3) (fun hs => h _ _ v3 w3 ⟨hR3⟩ hk3 ⟨hb3⟩ hs)
theorem store_ {ops : Array Oper} {Q : Exit → Act → World → Prop} {md : Region.Mode} {S : World → Prop} {ds : List Nat} {i4 fuel : Nat} {o4 : Oper} {l0 : Array Bool} {a : Act} {W w0 : World} (l4 : Array Bool) (h4 : ops[i4]? = some o4) (n4 : o4.dst = none) (g4 : o4.guard = none) (c4 : readyB md ops l0 l4 i4 = true) (d4 : i4 ∈ ds)
    (p y : Operand) (g : Nat) (u v : Value) (l : List Int) (r4 : o4.op = .store 24 p y) (hp : a.eval p = .pointer (some ⟨g, 0, none⟩)) (hy : a.eval y = v) (HO : OW w0 W v l) (HS : Since w0 W) (HB : Blk W g 24 [u]) (hge : w0.heap.size ≤ g)
    (h : ∀ w4, OW w0 w4 v l → Blk w4 g 24 [v] → KO (some g) W w4 → Since w0 w4 → wpAnyLast Try.prog md ops Q S ds fuel l4 a w4) : wpAnyLast Try.prog md ops Q S ds (fuel + 1) l0 a W := by
  obtain ⟨_, p4, t4, z4, f4, _⟩ := o4
  simp only at n4 g4 r4
  subst n4; subst g4; subst r4
  refine last_ l4 h4 rfl c4 d4 (fun K4 hK4 => ?_)
  obtain ⟨A3, cc3, rfl⟩ := Kd.R_slice HO.out
  refine skip_seg rfl rfl 24 p y rfl g 0 [.slice A3 l.length cc3] [.slice A3 l.length cc3] (.slice A3 l.length cc3) hp hy rfl HB (by kernel_rfl) (by simp) rfl rfl ?_
  intro w4 hB4 hgr4
  exact hK4.out _ _ (h w4 (HO.grown HB (by decide) hgr4) hB4 (KO.grown hgr4) (Since.grown HS hgr4 hge))
theorem appD_ {ops : Array Oper} {Q : Exit → Act → World → Prop} {md : Region.Mode} {S : World → Prop} {ds : List Nat} {i3 fuel : Nat} {o3 : Oper} {N3 : Tmp} {l0 : Array Bool} {a : Act} {W w0 : World} (l3 : Array Bool) (h3 : ops[i3]? = some o3) (n3 : o3.dst = some N3) (g3 : o3.guard = none) (c3 : readyB md ops l0 l3 i3 = true) (d3 : i3 ∉ ds)
    (s x : Operand) (v : Value) (l bs : List Int) (A : Option Addr) (c : Nat) (r3 : o3.op = .call { callee := .builtin .append, args := #[s, x], argTypes := #[24, 24] }) (e1 : a.eval s = v) (e2 : a.eval x = .slice A bs.length c) (hlen : l.length + bs.length ≤ 140737488355328)
    (HO : OW w0 W v l) (HS : Since w0 W) (hC : Kd.C (Kd.int .u8) W A bs.length bs) (hS : ∀ w', KO none W w' → S w')
    (h : ∀ v3 w3, OW w0 w3 v3 (l ++ bs) → KO none W w3 → Since w0 w3 → S w3 → wpAnyLast Try.prog md ops Q S ds fuel l3 (a.put (some N3) v3) w3) : wpAnyLast Try.prog md ops Q S ds (fuel + 1) l0 a W := by
  obtain ⟨_, p3, t3, z3, f3, _⟩ := o3
  simp only at n3 g3 r3
  subst n3; subst g3; subst r3
  refine one_ l3 h3 rfl c3 d3 (fun K3 hK3 => ?_)
  refine Kd.R_append_rows_step (Kd.int .u8) (w0 := w0) w0.heap.size rfl s x 24 5 (.int .u8 0) 1 rfl Try.underlying24 info5 rfl (by decide) (by omega) v l bs _ _ _ (fun _ => True) (fun _ => False) e1 e2 HO.out hC (fun _ _ hh => hh) (fun _ hh => hh.elim) (fun _ _ => trivial) HS.out HS.le (by omega) ?_
  intro v3 w3 hR3 hb3 hgr3 _
  exact hK3.out _ _ (hS _ (KO.own HO hgr3)) (fun hs => h v3 w3 ⟨hR3⟩ (KO.own HO hgr3) ⟨hb3⟩ hs)
attribute [local go_sem] Oper.semAt_some
theorem run_two {P : Program} {ty : TypeId} {ad : Addr} {u0 u1 : Value} {w : World} {d : TypeDesc} (h0 : w.cell? ad = some u0) (h1 : w.cell? (ad.add 1) = some u1) (hu : P.underlying ty = some d) (hd : (match d with | .struct _ | .array _ _ => true | _ => false) = true) (hi : (P.info? ty).map (·.size) = some 2) :
    (loadVar ty ad).run P w = .ok (.agg #[u0, u1]) w := by
  have hl := run_loadCells_list (P := P) (w := w) ad [u0, u1] (fun j v hv => by
    rcases j with _ | _ | j
    · simp at hv; subst hv; simpa [Addr.add] using h0
    · simp at hv; subst hv; exact h1
    · simp at hv)
  obtain ⟨i, hi, hs⟩ := Option.map_eq_some_iff.1 hi
  have hagg : (isAgg ty).run P w = .ok true w := by
    unfold isAgg
    rw [Sem.run_bind, run_underlying hu w]
    cases d <;> simp_all
  have hl' : Sem.run P (loadCells ad 2) w = Result.ok #[u0, u1] w := hl
  simp [loadVar, Sem.run_bind, hagg, sizeOf, typeInfo, hi, hs, hl']
theorem load_in {P : Program} {l0 n : Nat} {F : Fence} (hF : F = Fence.wide ∨ F = Fence.wide.inRound l0) {ops : Array Oper} {rest : List Oper} {o : Oper} {a : Act} {Q : Exit → Act → World → Prop} {W : World} (hgd : o.guard = none) (ty : TypeId) (x : Operand) (ho : o.op = .load ty x) (ad : Addr) (v : Value) (hx : a.eval x = .pointer (some ad)) (hrun : (loadVar ty ad).run P W = .ok v W)
    (h : wpListIn F n P ops Q rest (a.put o.dst v) W) : wpListIn F n P ops Q (o :: rest) a W := by
  refine wpListIn_plain hgd fun K hK => ?_
  refine ⟨fun f _ => by rcases hF with rfl | rfl <;> trivial, ?_⟩
  rw [Oper.semAt_eq _ _ _ (by intro c hc; rw [ho] at hc; cases hc)]
  unfold execOp
  simp only [ho, hx, Instr.loadAt, Instr.sureAddr, Sem.run_bind, Sem.run_pure, Result.andThen_ok, hrun]
  exact hK _ _ h
def uptoR (n k : Nat) : List Nat := (List.range k).map fun j => n - 1 - j
theorem uptoR_succ (n k : Nat) : uptoR n (k + 1) = uptoR n k ++ [n - 1 - k] := by simp [uptoR, List.range_succ]
theorem uptoR_len (n k : Nat) : (uptoR n k).length = k := by simp [uptoR]
def spV (l : List S47) (i : Nat) : Value := .agg #[.int .u64 (l.getD i z47).f0, .int .u64 (l.getD i z47).f1]
theorem add_block (ad : Addr) (k : Nat) : (ad.add k).block = ad.block := by unfold Addr.add; split <;> rfl
def BKeep (n₀ Bs : Nat) (W W' : World) : Prop := Below n₀ W W' ∧ ∀ u, W.cell? ⟨Bs, 0, none⟩ = some u → W'.cell? ⟨Bs, 0, none⟩ = some u
theorem BKeep.trans {n₀ Bs : Nat} {A B C : World} (h : BKeep n₀ Bs A B) (k : BKeep n₀ Bs B C) : BKeep n₀ Bs A C := ⟨h.1.trans k.1, fun u hu => k.2 u (h.2 u hu)⟩
theorem BKeep.turn {n₀ Bs : Nat} {w : World} (hn : n₀ ≤ w.heap.size) (W : World) (l : Nat) (o o' : Obj) (hl : w.heap.size ≤ l) (h : W.heap[l]? = some o) (hc : o.isCells = false) (hw : o.isWalk = false) : BKeep n₀ Bs W (W.putObj l o') :=
  ⟨belowK_b hn W l o o' hl h hc hw, fun u hu => cell_kept hu (grownBy_putObj' W l o') (fun r e => by cases e; exact ⟨o, h, hc⟩)⟩
theorem backward_in (n l Bs n₀ cap : Nat) (ad : Addr) (xs : List S47) (hreach : xs.length < 1000000) (hb : ad.block < n₀) (J Jx : List (Fin xs.length) → World → Prop)
    (hY : ∀ pre x W, J pre W → pre.length < xs.length → YieldAt Fence.wide (n - 1) Try.prog l #[.int .i64 (x.val : Nat), spV xs x.val] W fun e W' =>
      (e = .returned (.bool true) ∧ J (pre ++ [x]) W' ∧ BKeep n₀ Bs W W') ∨ (e = .returned (.bool false) ∧ Jx (pre ++ [x]) W'))
    (W : World) (hBs : W.cell? ⟨Bs, 0, none⟩ = some (.slice (some ad) xs.length cap))
    (hc0 : ∀ j, j < xs.length → W.cell? (ad.add (j * 2)) = some (.int .u64 (xs.getD j z47).f0)) (hc1 : ∀ j, j < xs.length → W.cell? ((ad.add (j * 2)).add 1) = some (.int .u64 (xs.getD j z47).f1)) (h0 : J [] W) :
    CallsIn Fence.wide n Try.prog 38 #[.func (.yield l) #[] #[], .pointer (some ⟨Bs, 0, none⟩)] W fun e W' => (∃ v, e = .returned v) ∧
      ((∃ ys : List (Fin xs.length), ys.map Fin.val = uptoR xs.length xs.length ∧ J ys W') ∨ (∃ pre : List (Fin xs.length), (∃ k, k ≤ xs.length ∧ pre.map Fin.val = uptoR xs.length k) ∧ Jx pre W')) := by
  have hu := Try.underlying47
  refine callsIn_of_wp Try.func38 rfl trivial ?_ rfl
  simp only [Try.ntmps38, List.size_toArray, List.length_cons, List.length_nil, Nat.reduceAdd, Nat.reduceSub, Array.replicate_succ, Array.replicate_zero, List.push_toArray, List.append_toArray, List.nil_append, List.cons_append]
  gi_wp2
  gi_loopw [3] (fun i wr => ∃ (k : Nat) (pre : List (Fin xs.length)), k ≤ xs.length ∧ pre.map Fin.val = uptoR xs.length k ∧ i = .int .i64 ((xs.length : Int) - 1 - k) ∧ J pre wr ∧ BKeep n₀ Bs W wr)
    (fun i _ => (intOf i + 1).toNat)
  case atStart => exact ⟨0, [], Nat.zero_le _, rfl, by simp, h0, Below.refl _ _, fun _ hu => hu⟩
  case round =>
    obtain ⟨k, pre, hk, hpre, rfl, hJs, hnx⟩ := hrel
    have hpl : pre.length = k := by have := congrArg List.length hpre; rw [List.length_map, uptoR_len] at this; exact this
    by_cases hlt : k < xs.length
    · obtain ⟨q, hq⟩ : ∃ q : Nat, (xs.length : Int) - 1 - k = q := ⟨xs.length - 1 - k, by omega⟩
      have hq' : xs.length - 1 - k = q := by omega
      have hql : q < xs.length := by omega
      have kB := hnx.2 _ hBs
      have k0 := (hnx.1.cell (p := ad.add (q * 2)) (by rw [add_block]; exact hb)).trans (hc0 q hql)
      have k1 := (hnx.1.cell (p := (ad.add (q * 2)).add 1) (by rw [add_block, add_block]; exact hb)).trans (hc1 q hql)
      obtain ⟨fn, tmps, assign, body, hy, hR⟩ := hY pre ⟨q, hql⟩ wr hJs (by rw [hpl]; exact hlt)
      unfold spV at hy
      dsimp only at hy
      rw [hq]
      have HJ := Aside0.mk hJs
      have HN := Aside0.mk hnx
      have HP := Aside0.mk hpre
      have hup : uptoR xs.length (k + 1) = (pre ++ [(⟨q, hql⟩ : Fin xs.length)]).map Fin.val := by rw [uptoR_succ, List.map_append, hpre, hq']; rfl
      have HU := Aside0.mk hup
      clear hq hJs hnx hpre hup hpl
      have hrun := run_two (P := Try.prog) (ty := 47) (ad := ad.add (q * 2)) k0 k1 hu rfl (by kernel_rfl)
      generalize (xs.getD q z47).f0 = f0 at hy hrun k0
      generalize (xs.getD q z47).f1 = f1 at hy hrun k1
      gi_wp2_with (refine load_in (l0 := 0) (.inl rfl) rfl 47 (.tmp 15) rfl _ _ rfl hrun ?_)
      refine ⟨fun hd => by simp [Fence.wide] at hd, hR.mono ?_⟩
      rintro e W3 (⟨rfl, hJ3, hk3⟩ | ⟨rfl, hJx3⟩)
      · gi_wp2
        go_roundw
        case rel => exact ⟨k + 1, pre ++ [⟨q, hql⟩], by omega, HU.out.symm, by simp <;> omega, hJ3, HN.out.trans hk3⟩
        case measure => (simp [intOf]; try omega)
      · gi_wp2
        refine bodyPost_ret (results_none rfl ..) rfl ?_
        exact ⟨⟨_, rfl⟩, .inr ⟨_, ⟨k + 1, by omega, HU.out.symm⟩, hJx3⟩⟩
    · obtain rfl : k = xs.length := by omega
      have hm : (xs.length : Int) - 1 - xs.length = -1 := by omega
      rw [hm]
      have HP := Aside0.mk hpre
      have HJ := Aside0.mk hJs
      clear hm hpre hpl hJs
      gi_wp2
      go_end0
      exact ⟨⟨_, rfl⟩, .inl ⟨_, HP.out, HJ.out⟩⟩
theorem backward_stops (n Bs n₀ cap : Nat) (ad : Addr) (xs : List S47) (hreach : xs.length < 1000000) (w : World) (hn : n₀ ≤ w.heap.size) (hb : ad.block < n₀) (hBn : Bs < w.heap.size)
    (hBs : w.cell? ⟨Bs, 0, none⟩ = some (.slice (some ad) xs.length cap))
    (hc0 : ∀ j, j < xs.length → w.cell? (ad.add (j * 2)) = some (.int .u64 (xs.getD j z47).f0)) (hc1 : ∀ j, j < xs.length → w.cell? ((ad.add (j * 2)).add 1) = some (.int .u64 (xs.getD j z47).f1)) :
    SeqStopsK Fence.wide n Try.prog 38 #[.pointer (some ⟨Bs, 0, none⟩)] (fun x : Fin xs.length => #[.int .i64 (x.val : Nat), spV xs x.val]) (BKeep n₀ Bs) (fun ys => ys.map Fin.val = uptoR xs.length xs.length) (fun pre => ∃ k, k ≤ xs.length ∧ pre.map Fin.val = uptoR xs.length k) xs.length w := by
  intro l J Jx W hW hJ hJx hY h0
  have hlt := fun {x : Nat} (h : x < n₀) => Nat.lt_of_lt_of_le h hn
  refine (backward_in n l Bs n₀ cap ad xs hreach hb J Jx hY W ((hW.cell (p := ⟨Bs, 0, none⟩) hBn).trans hBs) (fun j hj => (hW.cell (p := ad.add (j * 2)) (by rw [add_block]; exact hlt hb)).trans (hc0 j hj)) (fun j hj => (hW.cell (p := (ad.add (j * 2)).add 1) (by rw [add_block, add_block]; exact hlt hb)).trans (hc1 j hj)) h0).mono ?_
  rintro e W' ⟨hv, h⟩
  exact ⟨hv, h⟩
theorem backwardC (A : Option Addr) (n c : Nat) (w : World) : Calls Try.prog 25 #[.slice A n c] w fun e w' => ∃ g, e = .returned (.func (.func 38) #[] #[.pointer (some ⟨g, 0, none⟩)]) ∧ Blk w' g 25 [.slice A n c] ∧ w.heap.size ≤ g ∧ Below w.heap.size w w' := by
  have hmf : ∀ (fn : Fn) (first cap : Array Value) (w : World), (Instr.makeFunc fn first cap).run Try.prog w = .ok (.func fn first cap) w := fun _ _ _ _ => rfl
  go_enter Try.func25, Try.ntmps25
  go_wp2
  go_ret
  exact ⟨_, rfl, ⟨blk_new w (.cells #[.slice A n c] 25)⟩, Nat.le_refl _, below_alloc (Below.refl _ _) _⟩
theorem named_frame {P : Program} {c : Code} {Q : Exit → Act → World → Prop} {w : World} {T : Array Value} {D : List Deferred} (h : ∀ T', T' = T → c.wp P Q ⟨T', D⟩ w) : c.wp P Q ⟨T, D⟩ w := h T rfl
def postM (P : Program) (fn : Func) (R : Ending → World → Prop) : Exit → Act → World → Prop
  | .normal, a, w | .ret, a, w => LeavesInM Fence.wide 9 P fn a.tmps R a.defers .returning w
  | _, _, _ => False
theorem calls_of_wp_marks {P : Program} {f : FuncId} {fn : Func} {c : Code} {args : Array Value} {w : World} {R : Ending → World → Prop} (hf : P.funcs[f]? = some fn) (hb : fn.body = some c)
    (h : c.wp P (postM P fn R) { tmps := args ++ Array.replicate (fn.ntmps - args.size) undef, defers := [] } w) : Calls P f args w R :=
  callsIn_wide.1 (callsIn_of_wp_marks hf hb trivial (wpIn_wide.2 (wp_mono h (fun e a w q => by cases e <;> first | exact q | exact q.elim))) rfl)
structure DF (w : World) (D : Nat) : Prop where mk :: (out : w.heap[D]? = some (.deferred (some [])))
theorem DF.ko0 {W W' : World} {D : Nat} (h : DF W D) (k : KO none W W') : DF W' D := ⟨k.same _ _ h.out (fun _ e => by cases e) (by simp)⟩
theorem DF.ne {W : World} {D g t : Nat} {cs : List Value} (h : DF W D) (hB : Blk W g t cs) : D ≠ g := by
  rintro rfl
  have := h.out.symm.trans hB.out
  cases this
theorem DF.ko {W W' : World} {D g t : Nat} {cs : List Value} (h : DF W D) (hB : Blk W g t cs) (k : KO (some g) W W') : DF W' D := ⟨k.same _ _ h.out (fun _ e => by cases e) (fun e => h.ne hB (by injection e))⟩
theorem DF.below {W W' : World} {D : Nat} (h : DF W D) (hb : Below W.heap.size W W') : DF W' D := h.ko0 (KO.below hb)
theorem OW.put {w0 W : World} {v : Value} {l : List Int} {D : Nat} (h : OW w0 W v l) (hD : DF W D) : OW w0 (W.putObj D (.deferred none)) v l :=
  ⟨Kd.R_mono (Kd.R_move (Kd.R_bound h.out) (fun k hk => (grownBy_putObj' W D (.deferred none)).block k hk.2.2.1 (fun e => by
    obtain ⟨q, _, cells, hc⟩ := hk.2.2.2
    have e' : D = k := by injection e with e; exact e.symm
    subst e'
    have := hD.out.symm.trans hc
    cases this))) (fun _ hk => hk.1)⟩
theorem leave_mark {P : Program} {fn : Func} {R : Ending → World → Prop} {T : Array Value} {D : Nat} {W : World} {v : Value} (hD : DF W D) (hres : (results fn T).run P (W.putObj D (.deferred none)) = .ok v (W.putObj D (.deferred none))) (hR : R (.returned v) (W.putObj D (.deferred none))) :
    postM P fn R .ret ⟨T, [{ target := .collected D, args := #[] }]⟩ W := ⟨by simp, .inl ⟨D, _, rfl, run_takeDeferred hD.out, ⟨v, hres, hR⟩⟩⟩
theorem Since.put {w0 W : World} {D : Nat} (h : Since w0 W) (hD : w0.heap.size ≤ D) : Since w0 (W.putObj D (.deferred none)) := Since.grown h (grownBy_putObj' W D (.deferred none)) hD
theorem spans_at {w : World} {A : Option Addr} {l : List S47} (h : Kd.C k47 w A l.length l) (hn : 0 < l.length) : ∃ ad, A = some ad ∧ ∀ i, i < l.length → w.cell? (ad.add (i * 2)) = some (.int .u64 (l.getD i z47).f0) ∧ w.cell? ((ad.add (i * 2)).add 1) = some (.int .u64 (l.getD i z47).f1) := by
  obtain ⟨ad, _, rfl, _⟩ := Kd.C_get h z47 0 (by omega) (by omega)
  refine ⟨ad, rfl, fun i hi => ?_⟩
  obtain ⟨ad', c, e, _, hK, hc⟩ := Kd.C_get h z47 (i : Int) (by omega) (by omega)
  obtain rfl := Option.some.inj e
  obtain rfl := k47_open hK
  have h0 := hc 0 _ rfl
  have h1 := hc 1 _ rfl
  simp only [Int.toNat_natCast] at h0 h1
  exact ⟨h0, by rw [Addr.add_add]; exact h1⟩
structure KC (W W' : World) : Prop where
  size : W.heap.size ≤ W'.heap.size
  same : ∀ (r : Nat) (o : Obj), W.heap[r]? = some o → o.isCells = false → W'.heap[r]? = some o
theorem KC.refl (W : World) : KC W W := ⟨Nat.le_refl _, fun _ _ h _ => h⟩
theorem KC.trans {A B C : World} (h : KC A B) (k : KC B C) : KC A C := ⟨Nat.le_trans h.size k.size, fun r o a b => k.same r o (h.same r o a b) b⟩
theorem KC.below {W W' : World} (h : Below W.heap.size W W') : KC W W' := ⟨h.size, fun r o a _ => by
  have hr : r < W.heap.size := (Array.getElem?_eq_some_iff.1 a).1
  rw [h.block r hr]; exact a⟩
theorem KC.grown {W W' : World} {g t : Nat} {cs : List Value} (hB : Blk W g t cs) (hg : W.grownBy W' (some g)) : KC W W' := ⟨hg.size, fun r o a b => by
  have hr : r < W.heap.size := (Array.getElem?_eq_some_iff.1 a).1
  rw [hg.block r hr (fun e => by injection e with e; subst e; rw [hB.out] at a; cases a; cases b)]; exact a⟩
theorem KC.ko {W W' : World} {g t : Nat} {cs : List Value} (hB : Blk W g t cs) (h : KO (some g) W W') : KC W W' := ⟨h.size, fun r o a b => h.same r o a (fun c e => by subst e; cases b) (fun e => by injection e with e; subst e; rw [hB.out] at a; cases a; cases b)⟩
theorem KC.ko0 {W W' : World} (h : KO none W W') : KC W W' := ⟨h.size, fun r o a b => h.same r o a (fun c e => by subst e; cases b) (by simp)⟩
theorem KC.from {W W' : World} (h : KC W W') (B : Nat) : KeepsFrom B W W' := ⟨h.size, fun k o _ a b => h.same k o a b⟩
theorem below_of {w W W' : World} (h : Since w W) (h' : Since w W') (hs : W.heap.size ≤ W'.heap.size) : Below w.heap.size W W' :=
  ⟨h'.out.os.trans h.out.os.symm, h'.out.tape.trans h.out.tape.symm, h'.out.output.trans h.out.output.symm, hs, fun k hk => (h'.out.block k hk).trans (h.out.block k hk).symm⟩
def Turn (B : Nat) (W W' : World) (row : Option Nat) : Prop := W.grownBy W' row ∧ ∀ r, row = some r → B ≤ r ∧ ∃ o : Obj, W.heap[r]? = some o ∧ o.isCells = false
theorem Blk.turn {B : Nat} {W W' : World} {row : Option Nat} {g t : Nat} {cs : List Value} (h : Blk W g t cs) (k : Turn B W W' row) : Blk W' g t cs := ⟨(k.1.block g (blk_lt h.out) (fun e => by
  obtain ⟨_, o, ho, hc⟩ := k.2 g e.symm
  rw [h.out] at ho; cases ho; cases hc)).trans h.out⟩
theorem OW.turn {B : Nat} {w0 W W' : World} {row : Option Nat} {v : Value} {l : List Int} (h : OW w0 W v l) (k : Turn B W W' row) : OW w0 W' v l :=
  ⟨Kd.R_mono (Kd.R_move (Kd.R_bound h.out) (fun r hk => k.1.block r hk.2.2.1 (fun e => by
    obtain ⟨q, _, cells, hc⟩ := hk.2.2.2
    obtain ⟨_, o, ho, hcc⟩ := k.2 r e.symm
    rw [hc] at ho; cases ho; cases hcc))) (fun _ hk => hk.1)⟩
theorem Since.turn {w0 W W' : World} {B : Nat} {row : Option Nat} (h : Since w0 W) (k : Turn B W W' row) (hB : w0.heap.size ≤ B) : Since w0 W' := ⟨h.out.grown k.1 h.out.size (fun r e => Nat.le_trans hB (k.2 r e).1)⟩
end Go.Proofs.Ytphakdfholkbdaa
end
section
namespace Go.Proofs.Ytphakdfholkbdaa.PFra
open Go.RowKit Go.Proofs.YtphakdfholkbdaaW.PrintWords Go.Proofs.YtphakdfholkbdaaW.PrintLast Go.Proofs.YtphakdfholkbdaaW.PrintMore
attribute [local go_sem] max2_int min2_int max_two min_two max_three min_three max_four min_four   -- for this text's walks alone
set_option linter.unusedVariables false
set_option linter.unusedSimpArgs false
def frame_spans.l0 : Nat → List (S47) → List (S47) → Int → Int → Option (Bool)
  | 0, _, _, _, _ => none
  | k + 1, x0, x5, x6, x7 => if x7 < x6 then (if 0 ≤ x7 then (if x7 < (x5.length : Int) then (if ((rd_T47 x5 x7).f0) ≥ ((rd_T47 x5 x7).f1) then (some false) else (if ((rd_T47 x5 x7).f1) > 4611686018427387904 then (some false) else (if x7 > 0 then (if 0 ≤ (wrap64 (x7 - 1)) then (if (wrap64 (x7 - 1)) < (x0.length : Int) then (if ((rd_T47 x5 x7).f0) ≤ ((rd_T47 x0 (wrap64 (x7 - 1))).f1) then (some false) else (frame_spans.l0 k x0 x5 x6 (wrap64 (x7 + 1)))) else (none)) else (none)) else (frame_spans.l0 k x0 x5 x6 (wrap64 (x7 + 1)))))) else (none)) else (none)) else (if (x0.length : Int) ≥ 1 then (some (decide ((x0.length : Int) ≤ 32))) else (some false))
def frame_spans.f (k : Nat) (l0 : List (S47)) : Option (Bool) := frame_spans.l0 k l0 l0 (l0.length : Int) 0
theorem frame_spans.mono_l : ∀ k, (∀ y0 y1 y2 y3, LeO (frame_spans.l0 k y0 y1 y2 y3) (frame_spans.l0 (k + 1) y0 y1 y2 y3))
  | 0 => fun _ _ _ _ r h => by simp [frame_spans.l0] at h
  | k + 1 => by
    have ih0 := frame_spans.mono_l k
    · intro y0 y1 y2 y3
      unfold frame_spans.l0
      repeat' first
      | (with_reducible exact ih0 ..)
      | (with_reducible exact LeO.refl _)
      | (with_reducible exact LeO.none _)
      | (with_reducible refine LeO.ite ?_ ?_)
      | (with_reducible refine LeO.bind ?_ (fun _ => ?_))
      | exact ih0 ..
      | exact LeO.none _
      | refine LeO.ite ?_ ?_
      | refine LeO.bind ?_ (fun _ => ?_)
theorem frame_spans.mono : ∀ a0 k, LeO (frame_spans.f k a0) (frame_spans.f (k + 1) a0) := by
  intro a0 k
  have ih0 := frame_spans.mono_l k
  unfold frame_spans.f
  repeat' first
      | (with_reducible exact ih0 ..)
      | (with_reducible exact LeO.refl _)
      | (with_reducible exact LeO.none _)
      | (with_reducible refine LeO.ite ?_ ?_)
      | (with_reducible refine LeO.bind ?_ (fun _ => ?_))
      | exact ih0 ..
      | exact LeO.none _
      | refine LeO.ite ?_ ?_
      | refine LeO.bind ?_ (fun _ => ?_)
set_option maxHeartbeats 8000000 in
set_option maxRecDepth 100000 in
theorem frame_spans.calls (k : Nat) (A0 : Option Addr) (c0 : Nat) (l0 : List (S47)) (r : Bool) (w : World) (hr0 : Kd.C k47 w A0 l0.length l0) (hc0 : l0.length ≤ c0) (h : frame_spans.f k l0 = some r) :
    Calls Try.prog 29 #[.slice A0 l0.length c0] w fun e w' => e = .returned (.bool r) ∧ Below w.heap.size w w' := by
  have hu47 := Try.underlying47
  have HR0 := Aside0.mk hr0
  have HC0 := Aside0.mk hc0
  clear hr0 hc0
  have HB := Aside0.mk (Below.refl w.heap.size w)
  have H : (frame_spans.l0 k l0 l0 (l0.length : Int) 0) = some r := h
  clear h
  have H' := Aside0.mk H
  clear H
  go_enter Try.func29, Try.ntmps29
  go_wp2
  repeat (go_quiet (fail); try go_wp2)
  go_loopg [7] k (fun kq v7 w' => ∃ (x7_1 : Int), v7 = .int .i64 x7_1 ∧ Aside0 (frame_spans.l0 kq l0 l0 (l0.length : Int) x7_1 = some r) ∧ Aside0 (kq ≤ k) ∧ Aside0 (Below w.heap.size w w'))
  case atStart => exact ⟨(0), (by first | rfl | (simp; done) | (simp [*]; done)), H', ⟨Nat.le_refl _⟩, ⟨by repeat (first | (with_reducible first | exact HB.out | apply below_alloc | apply pw_below_drewN | apply below_drew1) | exact HB.out)⟩⟩
  case round =>
    clear H'
    obtain ⟨x7_1, rfl, HA, HK1, HB⟩ := hrel
    cases gk with
    | zero => exact absurd HA.out (by simp [frame_spans.l0])
    | succ k1 =>
      have H := HA.out
      clear HA
      simp only [frame_spans.l0] at H
      by_cases c2 : x7_1 < (l0.length : Int)
      · rw [if_pos c2] at H
        have c2b0 : decide (x7_1 < (l0.length : Int)) = true := decide_eq_true c2
        clear c2
        by_cases c3 : 0 ≤ x7_1
        · rw [if_pos c3] at H
          have c3b0 : decide (0 ≤ x7_1) = true := decide_eq_true c3
          clear c3
          by_cases c4 : x7_1 < (l0.length : Int)
          · rw [if_pos c4] at H
            have c4b0 : decide (x7_1 < (l0.length : Int)) = true := decide_eq_true c4
            clear c4
            by_cases c5 : ((rd_T47 l0 x7_1).f0) ≥ ((rd_T47 l0 x7_1).f1)
            · rw [if_pos c5] at H
              have c5b0 : decide (((rd_T47 l0 x7_1).f1) ≤ ((rd_T47 l0 x7_1).f0)) = true := decide_eq_true c5
              clear c5
              obtain rfl := Option.some.inj H
              have p101 : 0 ≤ (x7_1 : Int) := of_decide_eq_true (by first | (with_reducible assumption) | assumption)
              have q101 : x7_1 < (l0.length : Int) := of_decide_eq_true (by first | (with_reducible assumption) | assumption)
              obtain ⟨ad101, e101, hx101_0, hx101_1⟩ := at_T47 HR0.out x7_1 p101 q101
              cases e101
              replace hx101_0 := (HB.out.cell (World.block_lt_of_cell? w _ hx101_0)).trans hx101_0
              replace hx101_1 := (HB.out.cell (World.block_lt_of_cell? w _ hx101_1)).trans hx101_1
              replace p101 := eq_true p101
              replace q101 := eq_true q101
              go_wp2_with (first | ((with_reducible refine gate_dst (N := 4) rfl ?_); (try (refine gate_guard (by rfl) ?_; dsimp only)); refine box_event ?hg (N := 4) ?hd (cs := #[.int .u64 0, .int .u64 0]) (t := 47) ?hr ?_; (case hd => rfl); (case hg => rfl); (case hr => first | (go_simp; done) | (go_simp; rfl)); intro gb102 hg w6 hbox hb; have n0_ := Aside0.mk (below_step (by repeat (first | (with_reducible first | exact HB.out | apply below_alloc | apply pw_below_drewN | apply below_drew1) | exact HB.out)) hb); have n1_ := Aside0.mk (hbox); have n2_ := Aside0.mk ((by rw [hg]; exact (below_size (by repeat (first | (with_reducible first | exact HB.out | apply below_alloc | apply pw_below_drewN | apply below_drew1) | exact HB.out))) : w.heap.size ≤ gb102)); have n3_ := Aside0.mk ((by rw [hg]; exact (below_size (by repeat (first | (with_reducible first | exact HB.out | apply below_alloc | apply pw_below_drewN | apply below_drew1) | exact HB.out))) : w.heap.size ≤ gb102)); clear HB; have HB := n0_; have BK102 := n1_; have GW102 := n2_; have GE102 := n3_; clear n0_ n1_ n2_ n3_; clear hb hbox hg; have hcz7_0 : w6.cell? ⟨gb102, 0, none⟩ = some (.int .u64 0) := (blk_cell BK102.out 0).trans rfl; have hcz7_1 : w6.cell? ⟨gb102, 1, none⟩ = some (.int .u64 0) := (blk_cell BK102.out 1).trans rfl; have hfz7_0 := blk_frozen BK102.out 0; have hfz7_1 := blk_frozen BK102.out 1))
              repeat (go_quiet (first | ((with_reducible refine gate_dst (N := 4) rfl ?_); (try (refine gate_guard (by rfl) ?_; dsimp only)); refine box_event ?hg (N := 4) ?hd (cs := #[.int .u64 0, .int .u64 0]) (t := 47) ?hr ?_; (case hd => rfl); (case hg => rfl); (case hr => first | (go_simp; done) | (go_simp; rfl)); intro gb102 hg w6 hbox hb; have n0_ := Aside0.mk (below_step (by repeat (first | (with_reducible first | exact HB.out | apply below_alloc | apply pw_below_drewN | apply below_drew1) | exact HB.out)) hb); have n1_ := Aside0.mk (hbox); have n2_ := Aside0.mk ((by rw [hg]; exact (below_size (by repeat (first | (with_reducible first | exact HB.out | apply below_alloc | apply pw_below_drewN | apply below_drew1) | exact HB.out))) : w.heap.size ≤ gb102)); have n3_ := Aside0.mk ((by rw [hg]; exact (below_size (by repeat (first | (with_reducible first | exact HB.out | apply below_alloc | apply pw_below_drewN | apply below_drew1) | exact HB.out))) : w.heap.size ≤ gb102)); clear HB; have HB := n0_; have BK102 := n1_; have GW102 := n2_; have GE102 := n3_; clear n0_ n1_ n2_ n3_; clear hb hbox hg; have hcz7_0 : w6.cell? ⟨gb102, 0, none⟩ = some (.int .u64 0) := (blk_cell BK102.out 0).trans rfl; have hcz7_1 : w6.cell? ⟨gb102, 1, none⟩ = some (.int .u64 0) := (blk_cell BK102.out 1).trans rfl; have hfz7_0 := blk_frozen BK102.out 0; have hfz7_1 := blk_frozen BK102.out 1)); try go_wp2_with (first | ((with_reducible refine gate_dst (N := 4) rfl ?_); (try (refine gate_guard (by rfl) ?_; dsimp only)); refine box_event ?hg (N := 4) ?hd (cs := #[.int .u64 0, .int .u64 0]) (t := 47) ?hr ?_; (case hd => rfl); (case hg => rfl); (case hr => first | (go_simp; done) | (go_simp; rfl)); intro gb102 hg w6 hbox hb; have n0_ := Aside0.mk (below_step (by repeat (first | (with_reducible first | exact HB.out | apply below_alloc | apply pw_below_drewN | apply below_drew1) | exact HB.out)) hb); have n1_ := Aside0.mk (hbox); have n2_ := Aside0.mk ((by rw [hg]; exact (below_size (by repeat (first | (with_reducible first | exact HB.out | apply below_alloc | apply pw_below_drewN | apply below_drew1) | exact HB.out))) : w.heap.size ≤ gb102)); have n3_ := Aside0.mk ((by rw [hg]; exact (below_size (by repeat (first | (with_reducible first | exact HB.out | apply below_alloc | apply pw_below_drewN | apply below_drew1) | exact HB.out))) : w.heap.size ≤ gb102)); clear HB; have HB := n0_; have BK102 := n1_; have GW102 := n2_; have GE102 := n3_; clear n0_ n1_ n2_ n3_; clear hb hbox hg; have hcz7_0 : w6.cell? ⟨gb102, 0, none⟩ = some (.int .u64 0) := (blk_cell BK102.out 0).trans rfl; have hcz7_1 : w6.cell? ⟨gb102, 1, none⟩ = some (.int .u64 0) := (blk_cell BK102.out 1).trans rfl; have hfz7_0 := blk_frozen BK102.out 0; have hfz7_1 := blk_frozen BK102.out 1)))
              go_ret
              exact ⟨by first | rfl | (simp [errW_none, errW_some] <;> rfl) | (simp [*, errW_none, errW_some] <;> rfl), by repeat (first | (with_reducible first | exact HB.out | apply below_alloc | apply pw_below_drewN | apply below_drew1 | refine below_set ?_ GE102.out) | exact HB.out)⟩
            · rw [if_neg c5] at H
              have c5b0 : decide (((rd_T47 l0 x7_1).f1) ≤ ((rd_T47 l0 x7_1).f0)) = false := decide_eq_false c5
              clear c5
              by_cases c8 : ((rd_T47 l0 x7_1).f1) > 4611686018427387904
              · rw [if_pos c8] at H
                have c8b0 : decide (4611686018427387904 < ((rd_T47 l0 x7_1).f1)) = true := decide_eq_true c8
                clear c8
                obtain rfl := Option.some.inj H
                have p101 : 0 ≤ (x7_1 : Int) := of_decide_eq_true (by first | (with_reducible assumption) | assumption)
                have q101 : x7_1 < (l0.length : Int) := of_decide_eq_true (by first | (with_reducible assumption) | assumption)
                obtain ⟨ad101, e101, hx101_0, hx101_1⟩ := at_T47 HR0.out x7_1 p101 q101
                cases e101
                replace hx101_0 := (HB.out.cell (World.block_lt_of_cell? w _ hx101_0)).trans hx101_0
                replace hx101_1 := (HB.out.cell (World.block_lt_of_cell? w _ hx101_1)).trans hx101_1
                replace p101 := eq_true p101
                replace q101 := eq_true q101
                go_wp2_with (first | ((with_reducible refine gate_dst (N := 4) rfl ?_); (try (refine gate_guard (by rfl) ?_; dsimp only)); refine box_event ?hg (N := 4) ?hd (cs := #[.int .u64 0, .int .u64 0]) (t := 47) ?hr ?_; (case hd => rfl); (case hg => rfl); (case hr => first | (go_simp; done) | (go_simp; rfl)); intro gb102 hg w9 hbox hb; have n0_ := Aside0.mk (below_step (by repeat (first | (with_reducible first | exact HB.out | apply below_alloc | apply pw_below_drewN | apply below_drew1) | exact HB.out)) hb); have n1_ := Aside0.mk (hbox); have n2_ := Aside0.mk ((by rw [hg]; exact (below_size (by repeat (first | (with_reducible first | exact HB.out | apply below_alloc | apply pw_below_drewN | apply below_drew1) | exact HB.out))) : w.heap.size ≤ gb102)); have n3_ := Aside0.mk ((by rw [hg]; exact (below_size (by repeat (first | (with_reducible first | exact HB.out | apply below_alloc | apply pw_below_drewN | apply below_drew1) | exact HB.out))) : w.heap.size ≤ gb102)); clear HB; have HB := n0_; have BK102 := n1_; have GW102 := n2_; have GE102 := n3_; clear n0_ n1_ n2_ n3_; clear hb hbox hg; have hcz10_0 : w9.cell? ⟨gb102, 0, none⟩ = some (.int .u64 0) := (blk_cell BK102.out 0).trans rfl; have hcz10_1 : w9.cell? ⟨gb102, 1, none⟩ = some (.int .u64 0) := (blk_cell BK102.out 1).trans rfl; have hfz10_0 := blk_frozen BK102.out 0; have hfz10_1 := blk_frozen BK102.out 1))
                repeat (go_quiet (first | ((with_reducible refine gate_dst (N := 4) rfl ?_); (try (refine gate_guard (by rfl) ?_; dsimp only)); refine box_event ?hg (N := 4) ?hd (cs := #[.int .u64 0, .int .u64 0]) (t := 47) ?hr ?_; (case hd => rfl); (case hg => rfl); (case hr => first | (go_simp; done) | (go_simp; rfl)); intro gb102 hg w9 hbox hb; have n0_ := Aside0.mk (below_step (by repeat (first | (with_reducible first | exact HB.out | apply below_alloc | apply pw_below_drewN | apply below_drew1) | exact HB.out)) hb); have n1_ := Aside0.mk (hbox); have n2_ := Aside0.mk ((by rw [hg]; exact (below_size (by repeat (first | (with_reducible first | exact HB.out | apply below_alloc | apply pw_below_drewN | apply below_drew1) | exact HB.out))) : w.heap.size ≤ gb102)); have n3_ := Aside0.mk ((by rw [hg]; exact (below_size (by repeat (first | (with_reducible first | exact HB.out | apply below_alloc | apply pw_below_drewN | apply below_drew1) | exact HB.out))) : w.heap.size ≤ gb102)); clear HB; have HB := n0_; have BK102 := n1_; have GW102 := n2_; have GE102 := n3_; clear n0_ n1_ n2_ n3_; clear hb hbox hg; have hcz10_0 : w9.cell? ⟨gb102, 0, none⟩ = some (.int .u64 0) := (blk_cell BK102.out 0).trans rfl; have hcz10_1 : w9.cell? ⟨gb102, 1, none⟩ = some (.int .u64 0) := (blk_cell BK102.out 1).trans rfl; have hfz10_0 := blk_frozen BK102.out 0; have hfz10_1 := blk_frozen BK102.out 1)); try go_wp2_with (first | ((with_reducible refine gate_dst (N := 4) rfl ?_); (try (refine gate_guard (by rfl) ?_; dsimp only)); refine box_event ?hg (N := 4) ?hd (cs := #[.int .u64 0, .int .u64 0]) (t := 47) ?hr ?_; (case hd => rfl); (case hg => rfl); (case hr => first | (go_simp; done) | (go_simp; rfl)); intro gb102 hg w9 hbox hb; have n0_ := Aside0.mk (below_step (by repeat (first | (with_reducible first | exact HB.out | apply below_alloc | apply pw_below_drewN | apply below_drew1) | exact HB.out)) hb); have n1_ := Aside0.mk (hbox); have n2_ := Aside0.mk ((by rw [hg]; exact (below_size (by repeat (first | (with_reducible first | exact HB.out | apply below_alloc | apply pw_below_drewN | apply below_drew1) | exact HB.out))) : w.heap.size ≤ gb102)); have n3_ := Aside0.mk ((by rw [hg]; exact (below_size (by repeat (first | (with_reducible first | exact HB.out | apply below_alloc | apply pw_below_drewN | apply below_drew1) | exact HB.out))) : w.heap.size ≤ gb102)); clear HB; have HB := n0_; have BK102 := n1_; have GW102 := n2_; have GE102 := n3_; clear n0_ n1_ n2_ n3_; clear hb hbox hg; have hcz10_0 : w9.cell? ⟨gb102, 0, none⟩ = some (.int .u64 0) := (blk_cell BK102.out 0).trans rfl; have hcz10_1 : w9.cell? ⟨gb102, 1, none⟩ = some (.int .u64 0) := (blk_cell BK102.out 1).trans rfl; have hfz10_0 := blk_frozen BK102.out 0; have hfz10_1 := blk_frozen BK102.out 1)))
                go_ret
                exact ⟨by first | rfl | (simp [errW_none, errW_some] <;> rfl) | (simp [*, errW_none, errW_some] <;> rfl), by repeat (first | (with_reducible first | exact HB.out | apply below_alloc | apply pw_below_drewN | apply below_drew1 | refine below_set ?_ GE102.out) | exact HB.out)⟩
              · rw [if_neg c8] at H
                have c8b0 : decide (4611686018427387904 < ((rd_T47 l0 x7_1).f1)) = false := decide_eq_false c8
                clear c8
                by_cases c11 : x7_1 > 0
                · rw [if_pos c11] at H
                  have c11b0 : decide (0 < x7_1) = true := decide_eq_true c11
                  clear c11
                  obtain ⟨ji12, hji12⟩ : ∃ j_ : Int, (wrap64 (x7_1 - 1)) = j_ := ⟨_, rfl⟩
                  replace H : (if 0 ≤ (ji12) then (if (ji12) < (l0.length : Int) then (if ((rd_T47 l0 x7_1).f0) ≤ ((rd_T47 l0 (ji12)).f1) then (some false) else (frame_spans.l0 k1 l0 l0 (l0.length : Int) (wrap64 (x7_1 + 1)))) else (none)) else (none)) = some r := by first | (rw [hji12] at H; exact H) | (simp only [hji12] at H ⊢; exact H)
                  have hji12w : (IntKind.i64.wrap (x7_1 - 1)) = ji12 := (i64_w _).trans hji12
                  by_cases c13 : 0 ≤ (ji12)
                  · rw [if_pos c13] at H
                    have c13b0 : decide (0 ≤ (ji12)) = true := decide_eq_true c13
                    clear c13
                    by_cases c14 : (ji12) < (l0.length : Int)
                    · rw [if_pos c14] at H
                      have c14b0 : decide ((ji12) < (l0.length : Int)) = true := decide_eq_true c14
                      clear c14
                      by_cases c15 : ((rd_T47 l0 x7_1).f0) ≤ ((rd_T47 l0 (ji12)).f1)
                      · rw [if_pos c15] at H
                        have c15b0 : decide (((rd_T47 l0 x7_1).f0) ≤ ((rd_T47 l0 (ji12)).f1)) = true := decide_eq_true c15
                        clear c15
                        obtain rfl := Option.some.inj H
                        have p101 : 0 ≤ (x7_1 : Int) := of_decide_eq_true (by first | (with_reducible assumption) | assumption)
                        have q101 : x7_1 < (l0.length : Int) := of_decide_eq_true (by first | (with_reducible assumption) | assumption)
                        obtain ⟨ad101, e101, hx101_0, hx101_1⟩ := at_T47 HR0.out x7_1 p101 q101
                        cases e101
                        replace hx101_0 := (HB.out.cell (World.block_lt_of_cell? w _ hx101_0)).trans hx101_0
                        replace hx101_1 := (HB.out.cell (World.block_lt_of_cell? w _ hx101_1)).trans hx101_1
                        replace p101 := eq_true p101
                        replace q101 := eq_true q101
                        go_wp2_with (first | ((with_reducible refine gate_dst (N := 4) rfl ?_); (try (refine gate_guard (by rfl) ?_; dsimp only)); refine box_event ?hg (N := 4) ?hd (cs := #[.int .u64 0, .int .u64 0]) (t := 47) ?hr ?_; (case hd => rfl); (case hg => rfl); (case hr => first | (go_simp; done) | (go_simp; rfl)); intro gb102 hg w16 hbox hb; have n0_ := Aside0.mk (below_step (by repeat (first | (with_reducible first | exact HB.out | apply below_alloc | apply pw_below_drewN | apply below_drew1) | exact HB.out)) hb); have n1_ := Aside0.mk (hbox); have n2_ := Aside0.mk ((by rw [hg]; exact (below_size (by repeat (first | (with_reducible first | exact HB.out | apply below_alloc | apply pw_below_drewN | apply below_drew1) | exact HB.out))) : w.heap.size ≤ gb102)); have n3_ := Aside0.mk ((by rw [hg]; exact (below_size (by repeat (first | (with_reducible first | exact HB.out | apply below_alloc | apply pw_below_drewN | apply below_drew1) | exact HB.out))) : w.heap.size ≤ gb102)); clear HB; have HB := n0_; have BK102 := n1_; have GW102 := n2_; have GE102 := n3_; clear n0_ n1_ n2_ n3_; clear hb hbox hg; have hcz17_0 : w16.cell? ⟨gb102, 0, none⟩ = some (.int .u64 0) := (blk_cell BK102.out 0).trans rfl; have hcz17_1 : w16.cell? ⟨gb102, 1, none⟩ = some (.int .u64 0) := (blk_cell BK102.out 1).trans rfl; have hfz17_0 := blk_frozen BK102.out 0; have hfz17_1 := blk_frozen BK102.out 1; have p103 : 0 ≤ ((ji12) : Int) := of_decide_eq_true (by first | (with_reducible assumption) | assumption); have q103 : (ji12) < (l0.length : Int) := of_decide_eq_true (by first | (with_reducible assumption) | assumption); obtain ⟨ad103, e103, hx103_0, hx103_1⟩ := at_T47 HR0.out (ji12) p103 q103; obtain rfl : ad101 = ad103 := (by injection e103); have hn103_0 : ad101.block ≠ gb102 := Nat.ne_of_lt (Nat.lt_of_lt_of_le (by have := World.block_lt_of_cell? _ _ hx103_0; first | rwa [add_block] at this | exact this) GW102.out); have hn103_1 : ad101.block ≠ gb102 := Nat.ne_of_lt (Nat.lt_of_lt_of_le (by have := World.block_lt_of_cell? _ _ hx103_0; first | rwa [add_block] at this | exact this) GW102.out); replace hx103_0 := (HB.out.cell (World.block_lt_of_cell? w _ hx103_0)).trans hx103_0; replace hx103_1 := (HB.out.cell (World.block_lt_of_cell? w _ hx103_1)).trans hx103_1; replace hx103_0 := (cell_far (p := ⟨gb102, 0, none⟩) (by first | (rw [add_block]; exact hn103_0) | (show (Addr.add _ _).block ≠ _; rw [add_block]; exact hn103_0) | exact hn103_0) (.int .u64 ((rd_T47 l0 x7_1).f0))).trans hx103_0; replace hx103_1 := (cell_far (p := ⟨gb102, 0, none⟩) (by first | (rw [add_block]; exact hn103_0) | (show (Addr.add _ _).block ≠ _; rw [add_block]; exact hn103_0) | exact hn103_0) (.int .u64 ((rd_T47 l0 x7_1).f0))).trans hx103_1; replace hx103_0 := (cell_far (p := ⟨gb102, 1, none⟩) (by first | (rw [add_block]; exact hn103_1) | (show (Addr.add _ _).block ≠ _; rw [add_block]; exact hn103_1) | exact hn103_1) (.int .u64 ((rd_T47 l0 x7_1).f1))).trans hx103_0; replace hx103_1 := (cell_far (p := ⟨gb102, 1, none⟩) (by first | (rw [add_block]; exact hn103_1) | (show (Addr.add _ _).block ≠ _; rw [add_block]; exact hn103_1) | exact hn103_1) (.int .u64 ((rd_T47 l0 x7_1).f1))).trans hx103_1; (try have hy103_0 := fun (n_ : Nat) => (show ((((w16.drewN n_).setCell ⟨gb102, 0, none⟩ (.int .u64 ((rd_T47 l0 x7_1).f0))).setCell ⟨gb102, 1, none⟩ (.int .u64 ((rd_T47 l0 x7_1).f1)))).cell? _ = some _ from hx103_0)); (try have hy103_1 := fun (n_ : Nat) => (show ((((w16.drewN n_).setCell ⟨gb102, 0, none⟩ (.int .u64 ((rd_T47 l0 x7_1).f0))).setCell ⟨gb102, 1, none⟩ (.int .u64 ((rd_T47 l0 x7_1).f1)))).cell? _ = some _ from hx103_1)); clear hn103_0; clear hn103_1; replace p103 := eq_true p103; replace q103 := eq_true q103))
                        repeat (go_quiet (first | ((with_reducible refine gate_dst (N := 4) rfl ?_); (try (refine gate_guard (by rfl) ?_; dsimp only)); refine box_event ?hg (N := 4) ?hd (cs := #[.int .u64 0, .int .u64 0]) (t := 47) ?hr ?_; (case hd => rfl); (case hg => rfl); (case hr => first | (go_simp; done) | (go_simp; rfl)); intro gb102 hg w16 hbox hb; have n0_ := Aside0.mk (below_step (by repeat (first | (with_reducible first | exact HB.out | apply below_alloc | apply pw_below_drewN | apply below_drew1) | exact HB.out)) hb); have n1_ := Aside0.mk (hbox); have n2_ := Aside0.mk ((by rw [hg]; exact (below_size (by repeat (first | (with_reducible first | exact HB.out | apply below_alloc | apply pw_below_drewN | apply below_drew1) | exact HB.out))) : w.heap.size ≤ gb102)); have n3_ := Aside0.mk ((by rw [hg]; exact (below_size (by repeat (first | (with_reducible first | exact HB.out | apply below_alloc | apply pw_below_drewN | apply below_drew1) | exact HB.out))) : w.heap.size ≤ gb102)); clear HB; have HB := n0_; have BK102 := n1_; have GW102 := n2_; have GE102 := n3_; clear n0_ n1_ n2_ n3_; clear hb hbox hg; have hcz17_0 : w16.cell? ⟨gb102, 0, none⟩ = some (.int .u64 0) := (blk_cell BK102.out 0).trans rfl; have hcz17_1 : w16.cell? ⟨gb102, 1, none⟩ = some (.int .u64 0) := (blk_cell BK102.out 1).trans rfl; have hfz17_0 := blk_frozen BK102.out 0; have hfz17_1 := blk_frozen BK102.out 1; have p103 : 0 ≤ ((ji12) : Int) := of_decide_eq_true (by first | (with_reducible assumption) | assumption); have q103 : (ji12) < (l0.length : Int) := of_decide_eq_true (by first | (with_reducible assumption) | assumption); obtain ⟨ad103, e103, hx103_0, hx103_1⟩ := at_T47 HR0.out (ji12) p103 q103; obtain rfl : ad101 = ad103 := (by injection e103); have hn103_0 : ad101.block ≠ gb102 := Nat.ne_of_lt (Nat.lt_of_lt_of_le (by have := World.block_lt_of_cell? _ _ hx103_0; first | rwa [add_block] at this | exact this) GW102.out); have hn103_1 : ad101.block ≠ gb102 := Nat.ne_of_lt (Nat.lt_of_lt_of_le (by have := World.block_lt_of_cell? _ _ hx103_0; first | rwa [add_block] at this | exact this) GW102.out); replace hx103_0 := (HB.out.cell (World.block_lt_of_cell? w _ hx103_0)).trans hx103_0; replace hx103_1 := (HB.out.cell (World.block_lt_of_cell? w _ hx103_1)).trans hx103_1; replace hx103_0 := (cell_far (p := ⟨gb102, 0, none⟩) (by first | (rw [add_block]; exact hn103_0) | (show (Addr.add _ _).block ≠ _; rw [add_block]; exact hn103_0) | exact hn103_0) (.int .u64 ((rd_T47 l0 x7_1).f0))).trans hx103_0; replace hx103_1 := (cell_far (p := ⟨gb102, 0, none⟩) (by first | (rw [add_block]; exact hn103_0) | (show (Addr.add _ _).block ≠ _; rw [add_block]; exact hn103_0) | exact hn103_0) (.int .u64 ((rd_T47 l0 x7_1).f0))).trans hx103_1; replace hx103_0 := (cell_far (p := ⟨gb102, 1, none⟩) (by first | (rw [add_block]; exact hn103_1) | (show (Addr.add _ _).block ≠ _; rw [add_block]; exact hn103_1) | exact hn103_1) (.int .u64 ((rd_T47 l0 x7_1).f1))).trans hx103_0; replace hx103_1 := (cell_far (p := ⟨gb102, 1, none⟩) (by first | (rw [add_block]; exact hn103_1) | (show (Addr.add _ _).block ≠ _; rw [add_block]; exact hn103_1) | exact hn103_1) (.int .u64 ((rd_T47 l0 x7_1).f1))).trans hx103_1; (try have hy103_0 := fun (n_ : Nat) => (show ((((w16.drewN n_).setCell ⟨gb102, 0, none⟩ (.int .u64 ((rd_T47 l0 x7_1).f0))).setCell ⟨gb102, 1, none⟩ (.int .u64 ((rd_T47 l0 x7_1).f1)))).cell? _ = some _ from hx103_0)); (try have hy103_1 := fun (n_ : Nat) => (show ((((w16.drewN n_).setCell ⟨gb102, 0, none⟩ (.int .u64 ((rd_T47 l0 x7_1).f0))).setCell ⟨gb102, 1, none⟩ (.int .u64 ((rd_T47 l0 x7_1).f1)))).cell? _ = some _ from hx103_1)); clear hn103_0; clear hn103_1; replace p103 := eq_true p103; replace q103 := eq_true q103)); try go_wp2_with (first | ((with_reducible refine gate_dst (N := 4) rfl ?_); (try (refine gate_guard (by rfl) ?_; dsimp only)); refine box_event ?hg (N := 4) ?hd (cs := #[.int .u64 0, .int .u64 0]) (t := 47) ?hr ?_; (case hd => rfl); (case hg => rfl); (case hr => first | (go_simp; done) | (go_simp; rfl)); intro gb102 hg w16 hbox hb; have n0_ := Aside0.mk (below_step (by repeat (first | (with_reducible first | exact HB.out | apply below_alloc | apply pw_below_drewN | apply below_drew1) | exact HB.out)) hb); have n1_ := Aside0.mk (hbox); have n2_ := Aside0.mk ((by rw [hg]; exact (below_size (by repeat (first | (with_reducible first | exact HB.out | apply below_alloc | apply pw_below_drewN | apply below_drew1) | exact HB.out))) : w.heap.size ≤ gb102)); have n3_ := Aside0.mk ((by rw [hg]; exact (below_size (by repeat (first | (with_reducible first | exact HB.out | apply below_alloc | apply pw_below_drewN | apply below_drew1) | exact HB.out))) : w.heap.size ≤ gb102)); clear HB; have HB := n0_; have BK102 := n1_; have GW102 := n2_; have GE102 := n3_; clear n0_ n1_ n2_ n3_; clear hb hbox hg; have hcz17_0 : w16.cell? ⟨gb102, 0, none⟩ = some (.int .u64 0) := (blk_cell BK102.out 0).trans rfl; have hcz17_1 : w16.cell? ⟨gb102, 1, none⟩ = some (.int .u64 0) := (blk_cell BK102.out 1).trans rfl; have hfz17_0 := blk_frozen BK102.out 0; have hfz17_1 := blk_frozen BK102.out 1; have p103 : 0 ≤ ((ji12) : Int) := of_decide_eq_true (by first | (with_reducible assumption) | assumption); have q103 : (ji12) < (l0.length : Int) := of_decide_eq_true (by first | (with_reducible assumption) | assumption); obtain ⟨ad103, e103, hx103_0, hx103_1⟩ := at_T47 HR0.out (ji12) p103 q103; obtain rfl : ad101 = ad103 := (by injection e103); have hn103_0 : ad101.block ≠ gb102 := Nat.ne_of_lt (Nat.lt_of_lt_of_le (by have := World.block_lt_of_cell? _ _ hx103_0; first | rwa [add_block] at this | exact this) GW102.out); have hn103_1 : ad101.block ≠ gb102 := Nat.ne_of_lt (Nat.lt_of_lt_of_le (by have := World.block_lt_of_cell? _ _ hx103_0; first | rwa [add_block] at this | exact this) GW102.out); replace hx103_0 := (HB.out.cell (World.block_lt_of_cell? w _ hx103_0)).trans hx103_0; replace hx103_1 := (HB.out.cell (World.block_lt_of_cell? w _ hx103_1)).trans hx103_1; replace hx103_0 := (cell_far (p := ⟨gb102, 0, none⟩) (by first | (rw [add_block]; exact hn103_0) | (show (Addr.add _ _).block ≠ _; rw [add_block]; exact hn103_0) | exact hn103_0) (.int .u64 ((rd_T47 l0 x7_1).f0))).trans hx103_0; replace hx103_1 := (cell_far (p := ⟨gb102, 0, none⟩) (by first | (rw [add_block]; exact hn103_0) | (show (Addr.add _ _).block ≠ _; rw [add_block]; exact hn103_0) | exact hn103_0) (.int .u64 ((rd_T47 l0 x7_1).f0))).trans hx103_1; replace hx103_0 := (cell_far (p := ⟨gb102, 1, none⟩) (by first | (rw [add_block]; exact hn103_1) | (show (Addr.add _ _).block ≠ _; rw [add_block]; exact hn103_1) | exact hn103_1) (.int .u64 ((rd_T47 l0 x7_1).f1))).trans hx103_0; replace hx103_1 := (cell_far (p := ⟨gb102, 1, none⟩) (by first | (rw [add_block]; exact hn103_1) | (show (Addr.add _ _).block ≠ _; rw [add_block]; exact hn103_1) | exact hn103_1) (.int .u64 ((rd_T47 l0 x7_1).f1))).trans hx103_1; (try have hy103_0 := fun (n_ : Nat) => (show ((((w16.drewN n_).setCell ⟨gb102, 0, none⟩ (.int .u64 ((rd_T47 l0 x7_1).f0))).setCell ⟨gb102, 1, none⟩ (.int .u64 ((rd_T47 l0 x7_1).f1)))).cell? _ = some _ from hx103_0)); (try have hy103_1 := fun (n_ : Nat) => (show ((((w16.drewN n_).setCell ⟨gb102, 0, none⟩ (.int .u64 ((rd_T47 l0 x7_1).f0))).setCell ⟨gb102, 1, none⟩ (.int .u64 ((rd_T47 l0 x7_1).f1)))).cell? _ = some _ from hx103_1)); clear hn103_0; clear hn103_1; replace p103 := eq_true p103; replace q103 := eq_true q103)))
                        go_ret
                        exact ⟨by first | rfl | (simp [errW_none, errW_some] <;> rfl) | (simp only [← hji12]; first | rfl | (simp [errW_none, errW_some] <;> rfl)) | (simp [*, errW_none, errW_some] <;> rfl), by repeat (first | (with_reducible first | exact HB.out | apply below_alloc | apply pw_below_drewN | apply below_drew1 | refine below_set ?_ GE102.out) | exact HB.out)⟩
                      · rw [if_neg c15] at H
                        have c15b0 : decide (((rd_T47 l0 x7_1).f0) ≤ ((rd_T47 l0 (ji12)).f1)) = false := decide_eq_false c15
                        clear c15
                        have H' := Aside0.mk H
                        clear H
                        have p101 : 0 ≤ (x7_1 : Int) := of_decide_eq_true (by first | (with_reducible assumption) | assumption)
                        have q101 : x7_1 < (l0.length : Int) := of_decide_eq_true (by first | (with_reducible assumption) | assumption)
                        obtain ⟨ad101, e101, hx101_0, hx101_1⟩ := at_T47 HR0.out x7_1 p101 q101
                        cases e101
                        replace hx101_0 := (HB.out.cell (World.block_lt_of_cell? w _ hx101_0)).trans hx101_0
                        replace hx101_1 := (HB.out.cell (World.block_lt_of_cell? w _ hx101_1)).trans hx101_1
                        replace p101 := eq_true p101
                        replace q101 := eq_true q101
                        go_wp2_with (first | ((with_reducible refine gate_dst (N := 4) rfl ?_); (try (refine gate_guard (by rfl) ?_; dsimp only)); refine box_event ?hg (N := 4) ?hd (cs := #[.int .u64 0, .int .u64 0]) (t := 47) ?hr ?_; (case hd => rfl); (case hg => rfl); (case hr => first | (go_simp; done) | (go_simp; rfl)); intro gb102 hg w18 hbox hb; have n0_ := Aside0.mk (below_step (by repeat (first | (with_reducible first | exact HB.out | apply below_alloc | apply pw_below_drewN | apply below_drew1) | exact HB.out)) hb); have n1_ := Aside0.mk (hbox); have n2_ := Aside0.mk ((by rw [hg]; exact (below_size (by repeat (first | (with_reducible first | exact HB.out | apply below_alloc | apply pw_below_drewN | apply below_drew1) | exact HB.out))) : w.heap.size ≤ gb102)); have n3_ := Aside0.mk ((by rw [hg]; exact (below_size (by repeat (first | (with_reducible first | exact HB.out | apply below_alloc | apply pw_below_drewN | apply below_drew1) | exact HB.out))) : w.heap.size ≤ gb102)); clear HB; have HB := n0_; have BK102 := n1_; have GW102 := n2_; have GE102 := n3_; clear n0_ n1_ n2_ n3_; clear hb hbox hg; have hcz19_0 : w18.cell? ⟨gb102, 0, none⟩ = some (.int .u64 0) := (blk_cell BK102.out 0).trans rfl; have hcz19_1 : w18.cell? ⟨gb102, 1, none⟩ = some (.int .u64 0) := (blk_cell BK102.out 1).trans rfl; have hfz19_0 := blk_frozen BK102.out 0; have hfz19_1 := blk_frozen BK102.out 1; have p103 : 0 ≤ ((ji12) : Int) := of_decide_eq_true (by first | (with_reducible assumption) | assumption); have q103 : (ji12) < (l0.length : Int) := of_decide_eq_true (by first | (with_reducible assumption) | assumption); obtain ⟨ad103, e103, hx103_0, hx103_1⟩ := at_T47 HR0.out (ji12) p103 q103; obtain rfl : ad101 = ad103 := (by injection e103); have hn103_0 : ad101.block ≠ gb102 := Nat.ne_of_lt (Nat.lt_of_lt_of_le (by have := World.block_lt_of_cell? _ _ hx103_0; first | rwa [add_block] at this | exact this) GW102.out); have hn103_1 : ad101.block ≠ gb102 := Nat.ne_of_lt (Nat.lt_of_lt_of_le (by have := World.block_lt_of_cell? _ _ hx103_0; first | rwa [add_block] at this | exact this) GW102.out); replace hx103_0 := (HB.out.cell (World.block_lt_of_cell? w _ hx103_0)).trans hx103_0; replace hx103_1 := (HB.out.cell (World.block_lt_of_cell? w _ hx103_1)).trans hx103_1; replace hx103_0 := (cell_far (p := ⟨gb102, 0, none⟩) (by first | (rw [add_block]; exact hn103_0) | (show (Addr.add _ _).block ≠ _; rw [add_block]; exact hn103_0) | exact hn103_0) (.int .u64 ((rd_T47 l0 x7_1).f0))).trans hx103_0; replace hx103_1 := (cell_far (p := ⟨gb102, 0, none⟩) (by first | (rw [add_block]; exact hn103_0) | (show (Addr.add _ _).block ≠ _; rw [add_block]; exact hn103_0) | exact hn103_0) (.int .u64 ((rd_T47 l0 x7_1).f0))).trans hx103_1; replace hx103_0 := (cell_far (p := ⟨gb102, 1, none⟩) (by first | (rw [add_block]; exact hn103_1) | (show (Addr.add _ _).block ≠ _; rw [add_block]; exact hn103_1) | exact hn103_1) (.int .u64 ((rd_T47 l0 x7_1).f1))).trans hx103_0; replace hx103_1 := (cell_far (p := ⟨gb102, 1, none⟩) (by first | (rw [add_block]; exact hn103_1) | (show (Addr.add _ _).block ≠ _; rw [add_block]; exact hn103_1) | exact hn103_1) (.int .u64 ((rd_T47 l0 x7_1).f1))).trans hx103_1; (try have hy103_0 := fun (n_ : Nat) => (show ((((w18.drewN n_).setCell ⟨gb102, 0, none⟩ (.int .u64 ((rd_T47 l0 x7_1).f0))).setCell ⟨gb102, 1, none⟩ (.int .u64 ((rd_T47 l0 x7_1).f1)))).cell? _ = some _ from hx103_0)); (try have hy103_1 := fun (n_ : Nat) => (show ((((w18.drewN n_).setCell ⟨gb102, 0, none⟩ (.int .u64 ((rd_T47 l0 x7_1).f0))).setCell ⟨gb102, 1, none⟩ (.int .u64 ((rd_T47 l0 x7_1).f1)))).cell? _ = some _ from hx103_1)); clear hn103_0; clear hn103_1; replace p103 := eq_true p103; replace q103 := eq_true q103))
                        repeat (go_quiet (first | ((with_reducible refine gate_dst (N := 4) rfl ?_); (try (refine gate_guard (by rfl) ?_; dsimp only)); refine box_event ?hg (N := 4) ?hd (cs := #[.int .u64 0, .int .u64 0]) (t := 47) ?hr ?_; (case hd => rfl); (case hg => rfl); (case hr => first | (go_simp; done) | (go_simp; rfl)); intro gb102 hg w18 hbox hb; have n0_ := Aside0.mk (below_step (by repeat (first | (with_reducible first | exact HB.out | apply below_alloc | apply pw_below_drewN | apply below_drew1) | exact HB.out)) hb); have n1_ := Aside0.mk (hbox); have n2_ := Aside0.mk ((by rw [hg]; exact (below_size (by repeat (first | (with_reducible first | exact HB.out | apply below_alloc | apply pw_below_drewN | apply below_drew1) | exact HB.out))) : w.heap.size ≤ gb102)); have n3_ := Aside0.mk ((by rw [hg]; exact (below_size (by repeat (first | (with_reducible first | exact HB.out | apply below_alloc | apply pw_below_drewN | apply below_drew1) | exact HB.out))) : w.heap.size ≤ gb102)); clear HB; have HB := n0_; have BK102 := n1_; have GW102 := n2_; have GE102 := n3_; clear n0_ n1_ n2_ n3_; clear hb hbox hg; have hcz19_0 : w18.cell? ⟨gb102, 0, none⟩ = some (.int .u64 0) := (blk_cell BK102.out 0).trans rfl; have hcz19_1 : w18.cell? ⟨gb102, 1, none⟩ = some (.int .u64 0) := (blk_cell BK102.out 1).trans rfl; have hfz19_0 := blk_frozen BK102.out 0; have hfz19_1 := blk_frozen BK102.out 1; have p103 : 0 ≤ ((ji12) : Int) := of_decide_eq_true (by first | (with_reducible assumption) | assumption); have q103 : (ji12) < (l0.length : Int) := of_decide_eq_true (by first | (with_reducible assumption) | assumption); obtain ⟨ad103, e103, hx103_0, hx103_1⟩ := at_T47 HR0.out (ji12) p103 q103; obtain rfl : ad101 = ad103 := (by injection e103); have hn103_0 : ad101.block ≠ gb102 := Nat.ne_of_lt (Nat.lt_of_lt_of_le (by have := World.block_lt_of_cell? _ _ hx103_0; first | rwa [add_block] at this | exact this) GW102.out); have hn103_1 : ad101.block ≠ gb102 := Nat.ne_of_lt (Nat.lt_of_lt_of_le (by have := World.block_lt_of_cell? _ _ hx103_0; first | rwa [add_block] at this | exact this) GW102.out); replace hx103_0 := (HB.out.cell (World.block_lt_of_cell? w _ hx103_0)).trans hx103_0; replace hx103_1 := (HB.out.cell (World.block_lt_of_cell? w _ hx103_1)).trans hx103_1; replace hx103_0 := (cell_far (p := ⟨gb102, 0, none⟩) (by first | (rw [add_block]; exact hn103_0) | (show (Addr.add _ _).block ≠ _; rw [add_block]; exact hn103_0) | exact hn103_0) (.int .u64 ((rd_T47 l0 x7_1).f0))).trans hx103_0; replace hx103_1 := (cell_far (p := ⟨gb102, 0, none⟩) (by first | (rw [add_block]; exact hn103_0) | (show (Addr.add _ _).block ≠ _; rw [add_block]; exact hn103_0) | exact hn103_0) (.int .u64 ((rd_T47 l0 x7_1).f0))).trans hx103_1; replace hx103_0 := (cell_far (p := ⟨gb102, 1, none⟩) (by first | (rw [add_block]; exact hn103_1) | (show (Addr.add _ _).block ≠ _; rw [add_block]; exact hn103_1) | exact hn103_1) (.int .u64 ((rd_T47 l0 x7_1).f1))).trans hx103_0; replace hx103_1 := (cell_far (p := ⟨gb102, 1, none⟩) (by first | (rw [add_block]; exact hn103_1) | (show (Addr.add _ _).block ≠ _; rw [add_block]; exact hn103_1) | exact hn103_1) (.int .u64 ((rd_T47 l0 x7_1).f1))).trans hx103_1; (try have hy103_0 := fun (n_ : Nat) => (show ((((w18.drewN n_).setCell ⟨gb102, 0, none⟩ (.int .u64 ((rd_T47 l0 x7_1).f0))).setCell ⟨gb102, 1, none⟩ (.int .u64 ((rd_T47 l0 x7_1).f1)))).cell? _ = some _ from hx103_0)); (try have hy103_1 := fun (n_ : Nat) => (show ((((w18.drewN n_).setCell ⟨gb102, 0, none⟩ (.int .u64 ((rd_T47 l0 x7_1).f0))).setCell ⟨gb102, 1, none⟩ (.int .u64 ((rd_T47 l0 x7_1).f1)))).cell? _ = some _ from hx103_1)); clear hn103_0; clear hn103_1; replace p103 := eq_true p103; replace q103 := eq_true q103)); try go_wp2_with (first | ((with_reducible refine gate_dst (N := 4) rfl ?_); (try (refine gate_guard (by rfl) ?_; dsimp only)); refine box_event ?hg (N := 4) ?hd (cs := #[.int .u64 0, .int .u64 0]) (t := 47) ?hr ?_; (case hd => rfl); (case hg => rfl); (case hr => first | (go_simp; done) | (go_simp; rfl)); intro gb102 hg w18 hbox hb; have n0_ := Aside0.mk (below_step (by repeat (first | (with_reducible first | exact HB.out | apply below_alloc | apply pw_below_drewN | apply below_drew1) | exact HB.out)) hb); have n1_ := Aside0.mk (hbox); have n2_ := Aside0.mk ((by rw [hg]; exact (below_size (by repeat (first | (with_reducible first | exact HB.out | apply below_alloc | apply pw_below_drewN | apply below_drew1) | exact HB.out))) : w.heap.size ≤ gb102)); have n3_ := Aside0.mk ((by rw [hg]; exact (below_size (by repeat (first | (with_reducible first | exact HB.out | apply below_alloc | apply pw_below_drewN | apply below_drew1) | exact HB.out))) : w.heap.size ≤ gb102)); clear HB; have HB := n0_; have BK102 := n1_; have GW102 := n2_; have GE102 := n3_; clear n0_ n1_ n2_ n3_; clear hb hbox hg; have hcz19_0 : w18.cell? ⟨gb102, 0, none⟩ = some (.int .u64 0) := (blk_cell BK102.out 0).trans rfl; have hcz19_1 : w18.cell? ⟨gb102, 1, none⟩ = some (.int .u64 0) := (blk_cell BK102.out 1).trans rfl; have hfz19_0 := blk_frozen BK102.out 0; have hfz19_1 := blk_frozen BK102.out 1; have p103 : 0 ≤ ((ji12) : Int) := of_decide_eq_true (by first | (with_reducible assumption) | assumption); have q103 : (ji12) < (l0.length : Int) := of_decide_eq_true (by first | (with_reducible assumption) | assumption); obtain ⟨ad103, e103, hx103_0, hx103_1⟩ := at_T47 HR0.out (ji12) p103 q103; obtain rfl : ad101 = ad103 := (by injection e103); have hn103_0 : ad101.block ≠ gb102 := Nat.ne_of_lt (Nat.lt_of_lt_of_le (by have := World.block_lt_of_cell? _ _ hx103_0; first | rwa [add_block] at this | exact this) GW102.out); have hn103_1 : ad101.block ≠ gb102 := Nat.ne_of_lt (Nat.lt_of_lt_of_le (by have := World.block_lt_of_cell? _ _ hx103_0; first | rwa [add_block] at this | exact this) GW102.out); replace hx103_0 := (HB.out.cell (World.block_lt_of_cell? w _ hx103_0)).trans hx103_0; replace hx103_1 := (HB.out.cell (World.block_lt_of_cell? w _ hx103_1)).trans hx103_1; replace hx103_0 := (cell_far (p := ⟨gb102, 0, none⟩) (by first | (rw [add_block]; exact hn103_0) | (show (Addr.add _ _).block ≠ _; rw [add_block]; exact hn103_0) | exact hn103_0) (.int .u64 ((rd_T47 l0 x7_1).f0))).trans hx103_0; replace hx103_1 := (cell_far (p := ⟨gb102, 0, none⟩) (by first | (rw [add_block]; exact hn103_0) | (show (Addr.add _ _).block ≠ _; rw [add_block]; exact hn103_0) | exact hn103_0) (.int .u64 ((rd_T47 l0 x7_1).f0))).trans hx103_1; replace hx103_0 := (cell_far (p := ⟨gb102, 1, none⟩) (by first | (rw [add_block]; exact hn103_1) | (show (Addr.add _ _).block ≠ _; rw [add_block]; exact hn103_1) | exact hn103_1) (.int .u64 ((rd_T47 l0 x7_1).f1))).trans hx103_0; replace hx103_1 := (cell_far (p := ⟨gb102, 1, none⟩) (by first | (rw [add_block]; exact hn103_1) | (show (Addr.add _ _).block ≠ _; rw [add_block]; exact hn103_1) | exact hn103_1) (.int .u64 ((rd_T47 l0 x7_1).f1))).trans hx103_1; (try have hy103_0 := fun (n_ : Nat) => (show ((((w18.drewN n_).setCell ⟨gb102, 0, none⟩ (.int .u64 ((rd_T47 l0 x7_1).f0))).setCell ⟨gb102, 1, none⟩ (.int .u64 ((rd_T47 l0 x7_1).f1)))).cell? _ = some _ from hx103_0)); (try have hy103_1 := fun (n_ : Nat) => (show ((((w18.drewN n_).setCell ⟨gb102, 0, none⟩ (.int .u64 ((rd_T47 l0 x7_1).f0))).setCell ⟨gb102, 1, none⟩ (.int .u64 ((rd_T47 l0 x7_1).f1)))).cell? _ = some _ from hx103_1)); clear hn103_0; clear hn103_1; replace p103 := eq_true p103; replace q103 := eq_true q103)))
                        go_roundg k1
                        case measure => have := HK1.out; omega
                        case rel => exact ⟨(wrap64 (x7_1 + 1)), (by first | rfl | (simp; done) | (simp [*]; done)), H', ⟨by have := HK1.out; omega⟩, ⟨by repeat (first | (with_reducible first | exact HB.out | apply below_alloc | apply pw_below_drewN | apply below_drew1 | refine below_set ?_ GE102.out) | exact HB.out)⟩⟩
                    · rw [if_neg c14] at H
                      exact absurd H (by simp)
                  · rw [if_neg c13] at H
                    exact absurd H (by simp)
                · rw [if_neg c11] at H
                  have c11b0 : decide (0 < x7_1) = false := decide_eq_false c11
                  clear c11
                  have H' := Aside0.mk H
                  clear H
                  have p101 : 0 ≤ (x7_1 : Int) := of_decide_eq_true (by first | (with_reducible assumption) | assumption)
                  have q101 : x7_1 < (l0.length : Int) := of_decide_eq_true (by first | (with_reducible assumption) | assumption)
                  obtain ⟨ad101, e101, hx101_0, hx101_1⟩ := at_T47 HR0.out x7_1 p101 q101
                  cases e101
                  replace hx101_0 := (HB.out.cell (World.block_lt_of_cell? w _ hx101_0)).trans hx101_0
                  replace hx101_1 := (HB.out.cell (World.block_lt_of_cell? w _ hx101_1)).trans hx101_1
                  replace p101 := eq_true p101
                  replace q101 := eq_true q101
                  go_wp2_with (first | ((with_reducible refine gate_dst (N := 4) rfl ?_); (try (refine gate_guard (by rfl) ?_; dsimp only)); refine box_event ?hg (N := 4) ?hd (cs := #[.int .u64 0, .int .u64 0]) (t := 47) ?hr ?_; (case hd => rfl); (case hg => rfl); (case hr => first | (go_simp; done) | (go_simp; rfl)); intro gb102 hg w20 hbox hb; have n0_ := Aside0.mk (below_step (by repeat (first | (with_reducible first | exact HB.out | apply below_alloc | apply pw_below_drewN | apply below_drew1) | exact HB.out)) hb); have n1_ := Aside0.mk (hbox); have n2_ := Aside0.mk ((by rw [hg]; exact (below_size (by repeat (first | (with_reducible first | exact HB.out | apply below_alloc | apply pw_below_drewN | apply below_drew1) | exact HB.out))) : w.heap.size ≤ gb102)); have n3_ := Aside0.mk ((by rw [hg]; exact (below_size (by repeat (first | (with_reducible first | exact HB.out | apply below_alloc | apply pw_below_drewN | apply below_drew1) | exact HB.out))) : w.heap.size ≤ gb102)); clear HB; have HB := n0_; have BK102 := n1_; have GW102 := n2_; have GE102 := n3_; clear n0_ n1_ n2_ n3_; clear hb hbox hg; have hcz21_0 : w20.cell? ⟨gb102, 0, none⟩ = some (.int .u64 0) := (blk_cell BK102.out 0).trans rfl; have hcz21_1 : w20.cell? ⟨gb102, 1, none⟩ = some (.int .u64 0) := (blk_cell BK102.out 1).trans rfl; have hfz21_0 := blk_frozen BK102.out 0; have hfz21_1 := blk_frozen BK102.out 1))
                  repeat (go_quiet (first | ((with_reducible refine gate_dst (N := 4) rfl ?_); (try (refine gate_guard (by rfl) ?_; dsimp only)); refine box_event ?hg (N := 4) ?hd (cs := #[.int .u64 0, .int .u64 0]) (t := 47) ?hr ?_; (case hd => rfl); (case hg => rfl); (case hr => first | (go_simp; done) | (go_simp; rfl)); intro gb102 hg w20 hbox hb; have n0_ := Aside0.mk (below_step (by repeat (first | (with_reducible first | exact HB.out | apply below_alloc | apply pw_below_drewN | apply below_drew1) | exact HB.out)) hb); have n1_ := Aside0.mk (hbox); have n2_ := Aside0.mk ((by rw [hg]; exact (below_size (by repeat (first | (with_reducible first | exact HB.out | apply below_alloc | apply pw_below_drewN | apply below_drew1) | exact HB.out))) : w.heap.size ≤ gb102)); have n3_ := Aside0.mk ((by rw [hg]; exact (below_size (by repeat (first | (with_reducible first | exact HB.out | apply below_alloc | apply pw_below_drewN | apply below_drew1) | exact HB.out))) : w.heap.size ≤ gb102)); clear HB; have HB := n0_; have BK102 := n1_; have GW102 := n2_; have GE102 := n3_; clear n0_ n1_ n2_ n3_; clear hb hbox hg; have hcz21_0 : w20.cell? ⟨gb102, 0, none⟩ = some (.int .u64 0) := (blk_cell BK102.out 0).trans rfl; have hcz21_1 : w20.cell? ⟨gb102, 1, none⟩ = some (.int .u64 0) := (blk_cell BK102.out 1).trans rfl; have hfz21_0 := blk_frozen BK102.out 0; have hfz21_1 := blk_frozen BK102.out 1)); try go_wp2_with (first | ((with_reducible refine gate_dst (N := 4) rfl ?_); (try (refine gate_guard (by rfl) ?_; dsimp only)); refine box_event ?hg (N := 4) ?hd (cs := #[.int .u64 0, .int .u64 0]) (t := 47) ?hr ?_; (case hd => rfl); (case hg => rfl); (case hr => first | (go_simp; done) | (go_simp; rfl)); intro gb102 hg w20 hbox hb; have n0_ := Aside0.mk (below_step (by repeat (first | (with_reducible first | exact HB.out | apply below_alloc | apply pw_below_drewN | apply below_drew1) | exact HB.out)) hb); have n1_ := Aside0.mk (hbox); have n2_ := Aside0.mk ((by rw [hg]; exact (below_size (by repeat (first | (with_reducible first | exact HB.out | apply below_alloc | apply pw_below_drewN | apply below_drew1) | exact HB.out))) : w.heap.size ≤ gb102)); have n3_ := Aside0.mk ((by rw [hg]; exact (below_size (by repeat (first | (with_reducible first | exact HB.out | apply below_alloc | apply pw_below_drewN | apply below_drew1) | exact HB.out))) : w.heap.size ≤ gb102)); clear HB; have HB := n0_; have BK102 := n1_; have GW102 := n2_; have GE102 := n3_; clear n0_ n1_ n2_ n3_; clear hb hbox hg; have hcz21_0 : w20.cell? ⟨gb102, 0, none⟩ = some (.int .u64 0) := (blk_cell BK102.out 0).trans rfl; have hcz21_1 : w20.cell? ⟨gb102, 1, none⟩ = some (.int .u64 0) := (blk_cell BK102.out 1).trans rfl; have hfz21_0 := blk_frozen BK102.out 0; have hfz21_1 := blk_frozen BK102.out 1)))
                  go_roundg k1
                  case measure => have := HK1.out; omega
                  case rel => exact ⟨(wrap64 (x7_1 + 1)), (by first | rfl | (simp; done) | (simp [*]; done)), H', ⟨by have := HK1.out; omega⟩, ⟨by repeat (first | (with_reducible first | exact HB.out | apply below_alloc | apply pw_below_drewN | apply below_drew1 | refine below_set ?_ GE102.out) | exact HB.out)⟩⟩
          · rw [if_neg c4] at H
            exact absurd H (by simp)
        · rw [if_neg c3] at H
          exact absurd H (by simp)
      · rw [if_neg c2] at H
        have c2b0 : decide (x7_1 < (l0.length : Int)) = false := decide_eq_false c2
        clear c2
        by_cases c22 : (l0.length : Int) ≥ 1
        · rw [if_pos c22] at H
          have c22b0 : decide (1 ≤ (l0.length : Int)) = true := decide_eq_true c22
          have c22b1 : decide (1 ≤ l0.length) = true := decide_eq_true (by omega)
          clear c22
          obtain rfl := Option.some.inj H
          go_wp2
          repeat (go_quiet (fail); try go_wp2)
          go_ret
          exact ⟨by first | rfl | (simp [errW_none, errW_some] <;> rfl) | (simp [*, errW_none, errW_some] <;> rfl), by repeat (first | (with_reducible first | exact HB.out | apply below_alloc | apply pw_below_drewN | apply below_drew1) | exact HB.out)⟩
        · rw [if_neg c22] at H
          have c22b0 : decide (1 ≤ (l0.length : Int)) = false := decide_eq_false c22
          have c22b1 : decide (1 ≤ l0.length) = false := decide_eq_false (by omega)
          clear c22
          obtain rfl := Option.some.inj H
          go_wp2
          repeat (go_quiet (fail); try go_wp2)
          go_ret
          exact ⟨by first | rfl | (simp [errW_none, errW_some] <;> rfl) | (simp [*, errW_none, errW_some] <;> rfl), by repeat (first | (with_reducible first | exact HB.out | apply below_alloc | apply pw_below_drewN | apply below_drew1) | exact HB.out)⟩
end Go.Proofs.Ytphakdfholkbdaa.PFra
end
section
namespace Go.Proofs.Ytphakdfholkbdaa.PFra
open Go.RowKit Go.Proofs.YtphakdfholkbdaaW.PrintWords Go.Proofs.YtphakdfholkbdaaW.PrintLast Go.Proofs.YtphakdfholkbdaaW.PrintMore
set_option linter.unusedVariables false
set_option linter.unusedSimpArgs false
set_option maxRecDepth 100000
set_option maxHeartbeats 4000000
def fOffs (a0 : Int) : Option (List Nat) := if a0 = 0 ∨ a0 = 1 ∨ a0 = 30 then some [] else if a0 = 2 then some [5] else if a0 = 3 then some [5, 6] else if a0 = 4 then some [1, 4, 3] else if a0 = 5 then some [1, 4] else if a0 = 6 then some [3, 2, 1] else if a0 = 14 then some [1, 2] else if a0 = 16 ∨ a0 = 18 ∨ a0 = 20 then some [3] else if a0 = 17 ∨ a0 = 21 then some [1, 3] else if a0 = 28 then some [4] else none
theorem blkNew (w : World) (l : List Value) (t : TypeId) : Blk (w.alloc (.cells l.toArray t (0, 0))) w.heap.size t l := ⟨blk_new w _⟩
def PR (w : World) (A : Option Addr) (g : Nat) (os : List Nat) : Prop := os ≠ [] → ∃ b, A = some ⟨b, 0, none⟩ ∧ Blk w b 60 (os.map fun o => .pointer (some ⟨g, o, none⟩))
theorem fields1 (s : Value) (w : World) : Calls Try.prog 39 #[s] w fun e w' => e = .returned (.tuple #[s, .bool true]) ∧ w = w' := by
  go_enter Try.func39, Try.ntmps39
  go_wp2
  go_ret2
  exact ⟨rfl, rfl⟩
def FPost (g : Nat) (os : List Nat) (w : World) (e : Ending) (w' : World) : Prop := ∃ A, e = .returned (.tuple #[.slice A os.length os.length, .bool true]) ∧ PR w' A g os ∧ Below w.heap.size w w'
theorem fields_0 (g : Nat) (w : World) (hk : w.cell? ⟨g, 0, none⟩ = some (.int .i64 0)) : Calls Try.prog 26 #[.pointer (some ⟨g, 0, none⟩)] w (FPost g [] w) := by
  have hu := Try.underlying27
  go_enter Try.func26, Try.ntmps26
  go_wp2_with ((go_at_call 39); with_reducible refine (fields1 _ _).mono ?_; rintro e w' ⟨rfl, rfl⟩)
  all_goals go_ret2
  all_goals exact ⟨_, rfl, fun h => absurd rfl h, Below.refl _ _⟩
theorem fields_1 (g : Nat) (w : World) (hk : w.cell? ⟨g, 0, none⟩ = some (.int .i64 1)) : Calls Try.prog 26 #[.pointer (some ⟨g, 0, none⟩)] w (FPost g [] w) := by
  have hu := Try.underlying27
  go_enter Try.func26, Try.ntmps26
  go_wp2_with ((go_at_call 39); with_reducible refine (fields1 _ _).mono ?_; rintro e w' ⟨rfl, rfl⟩)
  all_goals go_ret2
  all_goals exact ⟨_, rfl, fun h => absurd rfl h, Below.refl _ _⟩
theorem fields_30 (g : Nat) (w : World) (hk : w.cell? ⟨g, 0, none⟩ = some (.int .i64 30)) : Calls Try.prog 26 #[.pointer (some ⟨g, 0, none⟩)] w (FPost g [] w) := by
  have hu := Try.underlying27
  go_enter Try.func26, Try.ntmps26
  go_wp2_with ((go_at_call 39); with_reducible refine (fields1 _ _).mono ?_; rintro e w' ⟨rfl, rfl⟩)
  all_goals go_ret2
  all_goals exact ⟨_, rfl, fun h => absurd rfl h, Below.refl _ _⟩
theorem fields_2 (g : Nat) (w : World) (hk : w.cell? ⟨g, 0, none⟩ = some (.int .i64 2)) : Calls Try.prog 26 #[.pointer (some ⟨g, 0, none⟩)] w (FPost g [5] w) := by
  have hu := Try.underlying27
  go_enter Try.func26, Try.ntmps26
  go_wp2_with ((go_at_call 39); with_reducible refine (fields1 _ _).mono ?_; rintro e w' ⟨rfl, rfl⟩)
  all_goals go_ret2
  all_goals exact ⟨_, rfl, fun _ => ⟨_, rfl, by first | exact blkNew _ [.pointer (some ⟨g, 5, none⟩)] 60 | exact (blkNew _ [.pointer (some ⟨g, 5, none⟩)] 60).drew⟩, by first | exact below_alloc (Below.refl _ _) _ | exact below_drew1 (below_alloc (Below.refl _ _) _) | exact below_alloc (below_drew1 (Below.refl _ _)) _⟩
theorem fields_3 (g : Nat) (w : World) (hk : w.cell? ⟨g, 0, none⟩ = some (.int .i64 3)) : Calls Try.prog 26 #[.pointer (some ⟨g, 0, none⟩)] w (FPost g [5, 6] w) := by
  have hu := Try.underlying27
  go_enter Try.func26, Try.ntmps26
  go_wp2_with ((go_at_call 39); with_reducible refine (fields1 _ _).mono ?_; rintro e w' ⟨rfl, rfl⟩)
  go_region_with ((go_at_call 39); with_reducible refine (fields1 _ _).mono ?_; rintro e w' ⟨rfl, rfl⟩)
  all_goals go_wp2
  all_goals go_ret2
  all_goals exact ⟨_, rfl, fun _ => ⟨_, rfl, by first | exact blkNew _ [.pointer (some ⟨g, 5, none⟩), .pointer (some ⟨g, 6, none⟩)] 60 | exact (blkNew _ [.pointer (some ⟨g, 5, none⟩), .pointer (some ⟨g, 6, none⟩)] 60).drew⟩, by first | exact below_alloc (Below.refl _ _) _ | exact below_drew1 (below_alloc (Below.refl _ _) _) | exact below_alloc (below_drew1 (Below.refl _ _)) _⟩
theorem fields_4 (g : Nat) (w : World) (hk : w.cell? ⟨g, 0, none⟩ = some (.int .i64 4)) : Calls Try.prog 26 #[.pointer (some ⟨g, 0, none⟩)] w (FPost g [1, 4, 3] w) := by
  have hu := Try.underlying27
  go_enter Try.func26, Try.ntmps26
  go_wp2_with ((go_at_call 39); with_reducible refine (fields1 _ _).mono ?_; rintro e w' ⟨rfl, rfl⟩)
  go_region_with ((go_at_call 39); with_reducible refine (fields1 _ _).mono ?_; rintro e w' ⟨rfl, rfl⟩)
  all_goals go_wp2
  all_goals go_ret2
  all_goals exact ⟨_, rfl, fun _ => ⟨_, rfl, by first | exact blkNew _ [.pointer (some ⟨g, 1, none⟩), .pointer (some ⟨g, 4, none⟩), .pointer (some ⟨g, 3, none⟩)] 60 | exact (blkNew _ [.pointer (some ⟨g, 1, none⟩), .pointer (some ⟨g, 4, none⟩), .pointer (some ⟨g, 3, none⟩)] 60).drew⟩, by first | exact below_alloc (Below.refl _ _) _ | exact below_drew1 (below_alloc (Below.refl _ _) _) | exact below_alloc (below_drew1 (Below.refl _ _)) _⟩
theorem fields_5 (g : Nat) (w : World) (hk : w.cell? ⟨g, 0, none⟩ = some (.int .i64 5)) : Calls Try.prog 26 #[.pointer (some ⟨g, 0, none⟩)] w (FPost g [1, 4] w) := by
  have hu := Try.underlying27
  go_enter Try.func26, Try.ntmps26
  go_wp2_with ((go_at_call 39); with_reducible refine (fields1 _ _).mono ?_; rintro e w' ⟨rfl, rfl⟩)
  go_region_with ((go_at_call 39); with_reducible refine (fields1 _ _).mono ?_; rintro e w' ⟨rfl, rfl⟩)
  all_goals go_wp2
  all_goals go_ret2
  all_goals exact ⟨_, rfl, fun _ => ⟨_, rfl, by first | exact blkNew _ [.pointer (some ⟨g, 1, none⟩), .pointer (some ⟨g, 4, none⟩)] 60 | exact (blkNew _ [.pointer (some ⟨g, 1, none⟩), .pointer (some ⟨g, 4, none⟩)] 60).drew⟩, by first | exact below_alloc (Below.refl _ _) _ | exact below_drew1 (below_alloc (Below.refl _ _) _) | exact below_alloc (below_drew1 (Below.refl _ _)) _⟩
theorem fields_6 (g : Nat) (w : World) (hk : w.cell? ⟨g, 0, none⟩ = some (.int .i64 6)) : Calls Try.prog 26 #[.pointer (some ⟨g, 0, none⟩)] w (FPost g [3, 2, 1] w) := by
  have hu := Try.underlying27
  go_enter Try.func26, Try.ntmps26
  go_wp2_with ((go_at_call 39); with_reducible refine (fields1 _ _).mono ?_; rintro e w' ⟨rfl, rfl⟩)
  go_region_with ((go_at_call 39); with_reducible refine (fields1 _ _).mono ?_; rintro e w' ⟨rfl, rfl⟩)
  all_goals go_wp2
  all_goals go_ret2
  all_goals exact ⟨_, rfl, fun _ => ⟨_, rfl, by first | exact blkNew _ [.pointer (some ⟨g, 3, none⟩), .pointer (some ⟨g, 2, none⟩), .pointer (some ⟨g, 1, none⟩)] 60 | exact (blkNew _ [.pointer (some ⟨g, 3, none⟩), .pointer (some ⟨g, 2, none⟩), .pointer (some ⟨g, 1, none⟩)] 60).drew⟩, by first | exact below_alloc (Below.refl _ _) _ | exact below_drew1 (below_alloc (Below.refl _ _) _) | exact below_alloc (below_drew1 (Below.refl _ _)) _⟩
theorem fields_14 (g : Nat) (w : World) (hk : w.cell? ⟨g, 0, none⟩ = some (.int .i64 14)) : Calls Try.prog 26 #[.pointer (some ⟨g, 0, none⟩)] w (FPost g [1, 2] w) := by
  have hu := Try.underlying27
  go_enter Try.func26, Try.ntmps26
  go_wp2_with ((go_at_call 39); with_reducible refine (fields1 _ _).mono ?_; rintro e w' ⟨rfl, rfl⟩)
  go_region_with ((go_at_call 39); with_reducible refine (fields1 _ _).mono ?_; rintro e w' ⟨rfl, rfl⟩)
  all_goals go_wp2
  all_goals go_ret2
  all_goals exact ⟨_, rfl, fun _ => ⟨_, rfl, by first | exact blkNew _ [.pointer (some ⟨g, 1, none⟩), .pointer (some ⟨g, 2, none⟩)] 60 | exact (blkNew _ [.pointer (some ⟨g, 1, none⟩), .pointer (some ⟨g, 2, none⟩)] 60).drew⟩, by first | exact below_alloc (Below.refl _ _) _ | exact below_drew1 (below_alloc (Below.refl _ _) _) | exact below_alloc (below_drew1 (Below.refl _ _)) _⟩
theorem fields_16 (g : Nat) (w : World) (hk : w.cell? ⟨g, 0, none⟩ = some (.int .i64 16)) : Calls Try.prog 26 #[.pointer (some ⟨g, 0, none⟩)] w (FPost g [3] w) := by
  have hu := Try.underlying27
  go_enter Try.func26, Try.ntmps26
  go_wp2_with ((go_at_call 39); with_reducible refine (fields1 _ _).mono ?_; rintro e w' ⟨rfl, rfl⟩)
  all_goals go_ret2
  all_goals exact ⟨_, rfl, fun _ => ⟨_, rfl, by first | exact blkNew _ [.pointer (some ⟨g, 3, none⟩)] 60 | exact (blkNew _ [.pointer (some ⟨g, 3, none⟩)] 60).drew⟩, by first | exact below_alloc (Below.refl _ _) _ | exact below_drew1 (below_alloc (Below.refl _ _) _) | exact below_alloc (below_drew1 (Below.refl _ _)) _⟩
theorem fields_18 (g : Nat) (w : World) (hk : w.cell? ⟨g, 0, none⟩ = some (.int .i64 18)) : Calls Try.prog 26 #[.pointer (some ⟨g, 0, none⟩)] w (FPost g [3] w) := by
  have hu := Try.underlying27
  go_enter Try.func26, Try.ntmps26
  go_wp2_with ((go_at_call 39); with_reducible refine (fields1 _ _).mono ?_; rintro e w' ⟨rfl, rfl⟩)
  all_goals go_ret2
  all_goals exact ⟨_, rfl, fun _ => ⟨_, rfl, by first | exact blkNew _ [.pointer (some ⟨g, 3, none⟩)] 60 | exact (blkNew _ [.pointer (some ⟨g, 3, none⟩)] 60).drew⟩, by first | exact below_alloc (Below.refl _ _) _ | exact below_drew1 (below_alloc (Below.refl _ _) _) | exact below_alloc (below_drew1 (Below.refl _ _)) _⟩
theorem fields_20 (g : Nat) (w : World) (hk : w.cell? ⟨g, 0, none⟩ = some (.int .i64 20)) : Calls Try.prog 26 #[.pointer (some ⟨g, 0, none⟩)] w (FPost g [3] w) := by
  have hu := Try.underlying27
  go_enter Try.func26, Try.ntmps26
  go_wp2_with ((go_at_call 39); with_reducible refine (fields1 _ _).mono ?_; rintro e w' ⟨rfl, rfl⟩)
  all_goals go_ret2
  all_goals exact ⟨_, rfl, fun _ => ⟨_, rfl, by first | exact blkNew _ [.pointer (some ⟨g, 3, none⟩)] 60 | exact (blkNew _ [.pointer (some ⟨g, 3, none⟩)] 60).drew⟩, by first | exact below_alloc (Below.refl _ _) _ | exact below_drew1 (below_alloc (Below.refl _ _) _) | exact below_alloc (below_drew1 (Below.refl _ _)) _⟩
theorem fields_17 (g : Nat) (w : World) (hk : w.cell? ⟨g, 0, none⟩ = some (.int .i64 17)) : Calls Try.prog 26 #[.pointer (some ⟨g, 0, none⟩)] w (FPost g [1, 3] w) := by
  have hu := Try.underlying27
  go_enter Try.func26, Try.ntmps26
  go_wp2_with ((go_at_call 39); with_reducible refine (fields1 _ _).mono ?_; rintro e w' ⟨rfl, rfl⟩)
  go_region_with ((go_at_call 39); with_reducible refine (fields1 _ _).mono ?_; rintro e w' ⟨rfl, rfl⟩)
  all_goals go_wp2
  all_goals go_ret2
  all_goals exact ⟨_, rfl, fun _ => ⟨_, rfl, by first | exact blkNew _ [.pointer (some ⟨g, 1, none⟩), .pointer (some ⟨g, 3, none⟩)] 60 | exact (blkNew _ [.pointer (some ⟨g, 1, none⟩), .pointer (some ⟨g, 3, none⟩)] 60).drew⟩, by first | exact below_alloc (Below.refl _ _) _ | exact below_drew1 (below_alloc (Below.refl _ _) _) | exact below_alloc (below_drew1 (Below.refl _ _)) _⟩
theorem fields_21 (g : Nat) (w : World) (hk : w.cell? ⟨g, 0, none⟩ = some (.int .i64 21)) : Calls Try.prog 26 #[.pointer (some ⟨g, 0, none⟩)] w (FPost g [1, 3] w) := by
  have hu := Try.underlying27
  go_enter Try.func26, Try.ntmps26
  go_wp2_with ((go_at_call 39); with_reducible refine (fields1 _ _).mono ?_; rintro e w' ⟨rfl, rfl⟩)
  go_region_with ((go_at_call 39); with_reducible refine (fields1 _ _).mono ?_; rintro e w' ⟨rfl, rfl⟩)
  all_goals go_wp2
  all_goals go_ret2
  all_goals exact ⟨_, rfl, fun _ => ⟨_, rfl, by first | exact blkNew _ [.pointer (some ⟨g, 1, none⟩), .pointer (some ⟨g, 3, none⟩)] 60 | exact (blkNew _ [.pointer (some ⟨g, 1, none⟩), .pointer (some ⟨g, 3, none⟩)] 60).drew⟩, by first | exact below_alloc (Below.refl _ _) _ | exact below_drew1 (below_alloc (Below.refl _ _) _) | exact below_alloc (below_drew1 (Below.refl _ _)) _⟩
theorem fields_28 (g : Nat) (w : World) (hk : w.cell? ⟨g, 0, none⟩ = some (.int .i64 28)) : Calls Try.prog 26 #[.pointer (some ⟨g, 0, none⟩)] w (FPost g [4] w) := by
  have hu := Try.underlying27
  go_enter Try.func26, Try.ntmps26
  go_wp2_with ((go_at_call 39); with_reducible refine (fields1 _ _).mono ?_; rintro e w' ⟨rfl, rfl⟩)
  all_goals go_ret2
  all_goals exact ⟨_, rfl, fun _ => ⟨_, rfl, by first | exact blkNew _ [.pointer (some ⟨g, 4, none⟩)] 60 | exact (blkNew _ [.pointer (some ⟨g, 4, none⟩)] 60).drew⟩, by first | exact below_alloc (Below.refl _ _) _ | exact below_drew1 (below_alloc (Below.refl _ _) _) | exact below_alloc (below_drew1 (Below.refl _ _)) _⟩
theorem fields_no (a0 : Int) (g : Nat) (w : World) (hk : w.cell? ⟨g, 0, none⟩ = some (.int .i64 a0)) (hn : fOffs a0 = none) : Calls Try.prog 26 #[.pointer (some ⟨g, 0, none⟩)] w fun e w' => e = .returned (.tuple #[.slice none 0 0, .bool false]) ∧ w = w' := by
  have hu := Try.underlying27
  have h : a0 ≠ 0 ∧ a0 ≠ 1 ∧ a0 ≠ 30 ∧ a0 ≠ 2 ∧ a0 ≠ 3 ∧ a0 ≠ 4 ∧ a0 ≠ 5 ∧ a0 ≠ 6 ∧ a0 ≠ 14 ∧ a0 ≠ 16 ∧ a0 ≠ 18 ∧ a0 ≠ 20 ∧ a0 ≠ 17 ∧ a0 ≠ 21 ∧ a0 ≠ 28 := by
    unfold fOffs at hn
    repeat (first | omega | (split at hn; (· cases hn)))
  clear hn
  obtain ⟨n0, n1, n30, n2, n3, n4, n5, n6, n14, n16, n18, n20, n17, n21, n28⟩ := h
  have e0 : (a0 == 0) = false := beq_eq_false_iff_ne.mpr n0
  have e1 : (a0 == 1) = false := beq_eq_false_iff_ne.mpr n1
  have e30 : (a0 == 30) = false := beq_eq_false_iff_ne.mpr n30
  have e2 : (a0 == 2) = false := beq_eq_false_iff_ne.mpr n2
  have e3 : (a0 == 3) = false := beq_eq_false_iff_ne.mpr n3
  have e4 : (a0 == 4) = false := beq_eq_false_iff_ne.mpr n4
  have e5 : (a0 == 5) = false := beq_eq_false_iff_ne.mpr n5
  have e6 : (a0 == 6) = false := beq_eq_false_iff_ne.mpr n6
  have e14 : (a0 == 14) = false := beq_eq_false_iff_ne.mpr n14
  have e16 : (a0 == 16) = false := beq_eq_false_iff_ne.mpr n16
  have e18 : (a0 == 18) = false := beq_eq_false_iff_ne.mpr n18
  have e20 : (a0 == 20) = false := beq_eq_false_iff_ne.mpr n20
  have e17 : (a0 == 17) = false := beq_eq_false_iff_ne.mpr n17
  have e21 : (a0 == 21) = false := beq_eq_false_iff_ne.mpr n21
  have e28 : (a0 == 28) = false := beq_eq_false_iff_ne.mpr n28
  clear n0 n1 n30 n2 n3 n4 n5 n6 n14 n16 n18 n20 n17 n21 n28
  go_enter Try.func26, Try.ntmps26
  go_wp2
  go_ret2
  exact ⟨rfl, rfl⟩
theorem fieldsC (a0 : Int) (g : Nat) (os : List Nat) (w : World) (hk : w.cell? ⟨g, 0, none⟩ = some (.int .i64 a0)) (hs : fOffs a0 = some os) : Calls Try.prog 26 #[.pointer (some ⟨g, 0, none⟩)] w (FPost g os w) := by
  unfold fOffs at hs
  split at hs
  · rename_i h
    obtain rfl := Option.some.inj hs
    rcases h with rfl | rfl | rfl
    · exact fields_0 g w hk
    · exact fields_1 g w hk
    · exact fields_30 g w hk
  split at hs
  · rename_i h
    obtain rfl := Option.some.inj hs
    rcases h with rfl
    exact fields_2 g w hk
  split at hs
  · rename_i h
    obtain rfl := Option.some.inj hs
    rcases h with rfl
    exact fields_3 g w hk
  split at hs
  · rename_i h
    obtain rfl := Option.some.inj hs
    rcases h with rfl
    exact fields_4 g w hk
  split at hs
  · rename_i h
    obtain rfl := Option.some.inj hs
    rcases h with rfl
    exact fields_5 g w hk
  split at hs
  · rename_i h
    obtain rfl := Option.some.inj hs
    rcases h with rfl
    exact fields_6 g w hk
  split at hs
  · rename_i h
    obtain rfl := Option.some.inj hs
    rcases h with rfl
    exact fields_14 g w hk
  split at hs
  · rename_i h
    obtain rfl := Option.some.inj hs
    rcases h with rfl | rfl | rfl
    · exact fields_16 g w hk
    · exact fields_18 g w hk
    · exact fields_20 g w hk
  split at hs
  · rename_i h
    obtain rfl := Option.some.inj hs
    rcases h with rfl | rfl
    · exact fields_17 g w hk
    · exact fields_21 g w hk
  split at hs
  · rename_i h
    obtain rfl := Option.some.inj hs
    rcases h with rfl
    exact fields_28 g w hk
  cases hs
def zf (os : List Nat) (j : Nat) (a : Int) : Int := if j ∈ os then 0 else a
def badF (os : List Nat) (j : Nat) (a : Int) : Bool := if j ∈ os then decide (4611686018427387903 < a) else a != 0
def uBad (os : List Nat) (a1 a2 a3 a4 a5 a6 : Int) : Bool := badF os 1 a1 || badF os 2 a2 || badF os 3 a3 || badF os 4 a4 || badF os 5 a5 || badF os 6 a6
def selA (o : Nat) (a1 a2 a3 a4 a5 a6 : Int) : Int := if o = 1 then a1 else if o = 2 then a2 else if o = 3 then a3 else if o = 4 then a4 else if o = 5 then a5 else a6
def cellsZ (os : List Nat) (a0 a1 a2 a3 a4 a5 a6 : Int) (a7 : Bool) (s8 s9 : Value) : List Value := [.int .i64 a0, .int .u64 (zf os 1 a1), .int .u64 (zf os 2 a2), .int .u64 (zf os 3 a3), .int .u64 (zf os 4 a4), .int .u64 (zf os 5 a5), .int .u64 (zf os 6 a6), .bool a7, s8, s9]
theorem cellsZ_nil (a0 a1 a2 a3 a4 a5 a6 : Int) (a7 : Bool) (s8 s9 : Value) : cellsZ [] a0 a1 a2 a3 a4 a5 a6 a7 s8 s9 = [.int .i64 a0, .int .u64 a1, .int .u64 a2, .int .u64 a3, .int .u64 a4, .int .u64 a5, .int .u64 a6, .bool a7, s8, s9] := by simp [cellsZ, zf]
theorem cellsZ_set (os : List Nat) (o : Nat) (h : 1 ≤ o) (h' : o ≤ 6) (a0 a1 a2 a3 a4 a5 a6 : Int) (a7 : Bool) (s8 s9 : Value) : (cellsZ os a0 a1 a2 a3 a4 a5 a6 a7 s8 s9).set o (.int .u64 0) = cellsZ (os ++ [o]) a0 a1 a2 a3 a4 a5 a6 a7 s8 s9 := by
  have : o = 1 ∨ o = 2 ∨ o = 3 ∨ o = 4 ∨ o = 5 ∨ o = 6 := by omega
  rcases this with rfl | rfl | rfl | rfl | rfl | rfl <;> simp [cellsZ, zf]
theorem cellsZ_at (os : List Nat) (o : Nat) (h : 1 ≤ o) (h' : o ≤ 6) (a0 a1 a2 a3 a4 a5 a6 : Int) (a7 : Bool) (s8 s9 : Value) : (cellsZ os a0 a1 a2 a3 a4 a5 a6 a7 s8 s9)[o]? = some (.int .u64 (zf os o (selA o a1 a2 a3 a4 a5 a6))) := by
  have : o = 1 ∨ o = 2 ∨ o = 3 ∨ o = 4 ∨ o = 5 ∨ o = 6 := by omega
  rcases this with rfl | rfl | rfl | rfl | rfl | rfl <;> simp [cellsZ, zf, selA]
theorem bad_of {os : List Nat} {o : Nat} {a1 a2 a3 a4 a5 a6 : Int} (h : o ∈ os) (h1 : 1 ≤ o ∧ o ≤ 6) (hg : 4611686018427387903 < selA o a1 a2 a3 a4 a5 a6) : uBad os a1 a2 a3 a4 a5 a6 = true := by
  have : o = 1 ∨ o = 2 ∨ o = 3 ∨ o = 4 ∨ o = 5 ∨ o = 6 := by omega
  rcases this with rfl | rfl | rfl | rfl | rfl | rfl <;> (simp [selA] at hg; simp [uBad, badF, h, hg])
theorem badF_no {os : List Nat} {o : Nat} {a : Int} (h1 : o ∈ os → a ≤ 4611686018427387903) (h2 : zf os o a = 0) : badF os o a = false := by
  unfold badF; unfold zf at h2
  split
  · rename_i h; simpa using h1 h
  · rename_i h; rw [if_neg h] at h2; simp [h2]
theorem bad_no {os : List Nat} {a1 a2 a3 a4 a5 a6 : Int} (hl : ∀ o ∈ os, selA o a1 a2 a3 a4 a5 a6 ≤ 4611686018427387903) (z1 : zf os 1 a1 = 0) (z2 : zf os 2 a2 = 0) (z3 : zf os 3 a3 = 0) (z4 : zf os 4 a4 = 0) (z5 : zf os 5 a5 = 0) (z6 : zf os 6 a6 = 0) : uBad os a1 a2 a3 a4 a5 a6 = false := by
  have e : ∀ (o : Nat) (a : Int), selA o a1 a2 a3 a4 a5 a6 = a → (o ∈ os → a ≤ 4611686018427387903) := fun o a h hm => h ▸ hl o hm
  simp [uBad, badF_no (e 1 a1 (by simp [selA])) z1, badF_no (e 2 a2 (by simp [selA])) z2, badF_no (e 3 a3 (by simp [selA])) z3, badF_no (e 4 a4 (by simp [selA])) z4, badF_no (e 5 a5 (by simp [selA])) z5, badF_no (e 6 a6 (by simp [selA])) z6]
theorem bad_z {os : List Nat} {o : Nat} {a : Int} (h : zf os o a ≠ 0) : badF os o a = true := by
  unfold badF; unfold zf at h
  split
  · rename_i hm; rw [if_pos hm] at h; exact absurd rfl h
  · rename_i hm; rw [if_neg hm] at h; simpa using h
theorem zf_w {os : List Nat} {o : Nat} {a : Int} (h : W64 a) : W64 (zf os o a) := by unfold zf; split <;> omega
theorem fOffs_mem {a0 : Int} {os : List Nat} (h : fOffs a0 = some os) : (∀ o ∈ os, 1 ≤ o ∧ o ≤ 6) ∧ os.length ≤ 3 := by
  unfold fOffs at h
  repeat (first | (cases h; done) | (split at h; (· obtain rfl := Option.some.inj h; decide)))
theorem or_w {a b : Int} (h1 : W64 a) (h2 : W64 b) : W64 (bits .or .u64 a b) := by
  rw [u64_or a b h1.1 (by omega) h2.1 (by omega)]
  have : a.toNat ||| b.toNat < 2 ^ 64 := Nat.or_lt_two_pow (by omega) (by omega)
  omega
theorem or_z {a b : Int} (h1 : W64 a) (h2 : W64 b) (h : bits .or .u64 a b = 0) : a = 0 ∧ b = 0 := by
  rw [u64_or a b h1.1 (by omega) h2.1 (by omega)] at h
  have := Nat.or_eq_zero_iff.1 (show a.toNat ||| b.toNat = 0 by omega)
  omega
def or6 (z1 z2 z3 z4 z5 z6 : Int) : Int := bits .or .u64 (bits .or .u64 (bits .or .u64 (bits .or .u64 (bits .or .u64 z1 z2) z3) z4) z5) z6
theorem or6_z {z1 z2 z3 z4 z5 z6 : Int} (w1 : W64 z1) (w2 : W64 z2) (w3 : W64 z3) (w4 : W64 z4) (w5 : W64 z5) (w6 : W64 z6) (h : or6 z1 z2 z3 z4 z5 z6 = 0) : z1 = 0 ∧ z2 = 0 ∧ z3 = 0 ∧ z4 = 0 ∧ z5 = 0 ∧ z6 = 0 := by
  unfold or6 at h
  have o1 := or_w w1 w2; have o2 := or_w o1 w3; have o3 := or_w o2 w4; have o4 := or_w o3 w5
  obtain ⟨h, e6⟩ := or_z o4 w6 h; obtain ⟨h, e5⟩ := or_z o3 w5 h; obtain ⟨h, e4⟩ := or_z o2 w4 h; obtain ⟨h, e3⟩ := or_z o1 w3 h; obtain ⟨h, e2⟩ := or_z w1 w2 h
  exact ⟨h, e2, e3, e4, e5, e6⟩
theorem or6_n {z1 z2 z3 z4 z5 z6 : Int} (h : or6 z1 z2 z3 z4 z5 z6 ≠ 0) : z1 ≠ 0 ∨ z2 ≠ 0 ∨ z3 ≠ 0 ∨ z4 ≠ 0 ∨ z5 ≠ 0 ∨ z6 ≠ 0 := by
  by_cases h1 : z1 = 0
  · by_cases h2 : z2 = 0
    · by_cases h3 : z3 = 0
      · by_cases h4 : z4 = 0
        · by_cases h5 : z5 = 0
          · by_cases h6 : z6 = 0
            · subst h1; subst h2; subst h3; subst h4; subst h5; subst h6; exact absurd (by decide) h
            · simp [h6]
          · simp [h5]
        · simp [h4]
      · simp [h3]
    · simp [h2]
  · simp [h1]
def PQ (w : World) (A : Option Addr) (g gx : Nat) (os : List Nat) : Prop := os ≠ [] → ∃ b, A = some ⟨b, 0, none⟩ ∧ b ≠ gx ∧ Blk w b 60 (os.map fun o => .pointer (some ⟨g, o, none⟩))
theorem blk_ne_of {w : World} {g g' : Nat} {t t' : TypeId} {l l' : List Value} (h : Blk w g t l) (h' : Blk w g' t' l') (ne : t ≠ t') : g ≠ g' := by
  rintro rfl
  have := h.out.symm.trans h'.out
  simp only [Option.some.injEq, Obj.cells.injEq] at this
  exact ne this.2.1
theorem PR.below {w w1 : World} {A : Option Addr} {g : Nat} {os : List Nat} (h : PR w A g os) (hb : Below w.heap.size w w1) : PR w1 A g os := fun hn => let ⟨b, e, B⟩ := h hn; ⟨b, e, B.below hb⟩
theorem PR.grown {w w1 : World} {A : Option Addr} {g k : Nat} {os : List Nat} {l : List Value} (h : PR w A g os) (hk : Blk w k 27 l) (hg : w.grownBy w1 (some k)) : PR w1 A g os := fun hn => let ⟨b, e, B⟩ := h hn; ⟨b, e, B.grown hg (blk_ne_of B hk (by decide))⟩
theorem PR.pq {w : World} {A : Option Addr} {g gx : Nat} {os : List Nat} {l : List Value} (h : PR w A g os) (hk : Blk w gx 27 l) : PQ w A g gx os := fun hn => let ⟨b, e, B⟩ := h hn; ⟨b, e, blk_ne_of B hk (by decide), B⟩
theorem PQ.set {w : World} {A : Option Addr} {g gx i : Nat} {os : List Nat} {u : Value} (h : PQ w A g gx os) : PQ (w.setCell ⟨gx, i, none⟩ u) A g gx os := fun hn => let ⟨b, e, n, B⟩ := h hn; ⟨b, e, n, B.setFar n⟩
def uTail (a0 a2 : Int) (a7 : Bool) (n : Nat) : Int := if a0 ≠ 14 ∧ (a7 = true ∨ 0 < n) then 50 else if 1200 < n ∨ 4611686018427387903 - (n : Int) < a2 then 50 else 0
def frame_Check.f (k : Nat) (a0 a1 a2 a3 a4 a5 a6 : Int) (a7 : Bool) (l8 : List Int) (l9 : List S47) : Option Int :=
  if W64 a1 ∧ W64 a2 ∧ W64 a3 ∧ W64 a4 ∧ W64 a5 ∧ W64 a6 ∧ l8.length < 1000000 ∧ l9.length < 1000000 then
    match fOffs a0 with
    | none => some 50
    | some os => if uBad os a1 a2 a3 a4 a5 a6 = true then some 50
      else if a0 = 2 ∨ a0 = 3 then (frame_spans.f k l9).bind fun s => if s = true then some (uTail a0 a2 a7 l8.length) else some 50
      else if 0 < l9.length then some 50 else some (uTail a0 a2 a7 l8.length)
  else none
theorem frame_Check.mono : ∀ a0 a1 a2 a3 a4 a5 a6 a7 l8 l9 k, LeO (frame_Check.f k a0 a1 a2 a3 a4 a5 a6 a7 l8 l9) (frame_Check.f (k + 1) a0 a1 a2 a3 a4 a5 a6 a7 l8 l9) := by
  intro a0 a1 a2 a3 a4 a5 a6 a7 l8 l9 k
  unfold frame_Check.f
  refine LeO.ite ?_ (LeO.none _)
  split
  · exact LeO.refl _
  · refine LeO.ite (LeO.refl _) (LeO.ite ?_ (LeO.refl _))
    exact LeO.bind (frame_spans.mono _ _) (fun _ => LeO.refl _)
theorem tail_a {a0 a2 : Int} {a7 : Bool} {n : Nat} (h : (a0 != 14) = true) (h1 : a7 = true ∨ 0 < n) : (50 : Int) = uTail a0 a2 a7 n := by unfold uTail; rw [if_pos ⟨by simpa using h, h1⟩]
theorem tail_b {a0 a2 : Int} {a7 : Bool} {n : Nat} (h : (1200 : Int) < n ∨ 4611686018427387903 - (n : Int) < a2) : (50 : Int) = uTail a0 a2 a7 n := by
  unfold uTail
  split
  · rfl
  · rw [if_pos (by omega)]
theorem tail_c {a0 a2 : Int} {a7 : Bool} {n : Nat} (h : ¬ a7 = true) (h0 : ¬ 0 < n) (h1 : (n : Int) ≤ 1200 ∧ a2 ≤ 4611686018427387903 - (n : Int)) : (0 : Int) = uTail a0 a2 a7 n := by
  unfold uTail
  rw [if_neg (fun hh => hh.2.elim h h0), if_neg (by omega)]
theorem tail_d {a0 a2 : Int} {a7 : Bool} {n : Nat} (h : (a0 != 14) = false) (h1 : (n : Int) ≤ 1200 ∧ a2 ≤ 4611686018427387903 - (n : Int)) : (0 : Int) = uTail a0 a2 a7 n := by
  unfold uTail
  rw [if_neg (fun hh => by simp at h; exact hh.1 h), if_neg (by omega)]
theorem frame_Check.no (a0 a1 a2 a3 a4 a5 a6 : Int) (a7 : Bool) (A8 : Option Addr) (c8 : Nat) (l8 : List Int) (A9 : Option Addr) (c9 : Nat) (l9 : List S47) (w : World) (h0 : fOffs a0 = none) :
    Calls Try.prog 15 #[.agg #[.int .i64 a0, .int .u64 a1, .int .u64 a2, .int .u64 a3, .int .u64 a4, .int .u64 a5, .int .u64 a6, .bool a7, .slice A8 l8.length c8, .slice A9 l9.length c9]] w fun e w' => e = .returned (.int .i64 50) ∧ Below w.heap.size w w' := by
  have hu := Try.underlying27
  go_enter Try.func15, Try.ntmps15
  go_wp2_with ((go_at_call 26); with_reducible refine (fields_no a0 _ _ (by go_simp) h0).mono ?_; rintro e w' ⟨rfl, rfl⟩)
  go_ret
  exact ⟨rfl, below_alloc (Below.refl _ _) _⟩
theorem frame_Check.way (k : Nat) (a0 a1 a2 a3 a4 a5 a6 : Int) (a7 : Bool) (A8 : Option Addr) (c8 : Nat) (l8 : List Int) (A9 : Option Addr) (c9 : Nat) (l9 : List S47) (w : World) (r : Int) (os : List Nat) (ho : fOffs a0 = some os) (W1 : W64 a1) (W2 : W64 a2) (W3 : W64 a3) (W4 : W64 a4) (W5 : W64 a5) (W6 : W64 a6) (h8 : l8.length < 1000000) (h9 : l9.length < 1000000) (hr9 : Kd.C k47 w A9 l9.length l9) (hc9 : l9.length ≤ c9) (h : Aside0 ((if uBad os a1 a2 a3 a4 a5 a6 = true then some 50 else if a0 = 2 ∨ a0 = 3 then (frame_spans.f k l9).bind fun s => if s = true then some (uTail a0 a2 a7 l8.length) else some 50 else if 0 < l9.length then some 50 else some (uTail a0 a2 a7 l8.length)) = some r)) :
    Calls Try.prog 15 #[.agg #[.int .i64 a0, .int .u64 a1, .int .u64 a2, .int .u64 a3, .int .u64 a4, .int .u64 a5, .int .u64 a6, .bool a7, .slice A8 l8.length c8, .slice A9 l9.length c9]] w fun e w' => e = .returned (.int .i64 r) ∧ Below w.heap.size w w' := by
  have hu27 := Try.underlying27
  have HS := Since.refl w
  obtain ⟨hm, hl3⟩ := fOffs_mem ho
  have HR9 := Aside0.mk hr9
  clear hr9
  go_enter Try.func15, Try.ntmps15
  go_wp2_with (first | (refine seg_new rfl (N := 1) rfl [.int .i64 a0, .int .u64 a1, .int .u64 a2, .int .u64 a3, .int .u64 a4, .int .u64 a5, .int .u64 a6, .bool a7, .slice A8 l8.length c8, .slice A9 l9.length c9] 27 ?hr ?_; (case hr => rfl); intro g0 hg w1 hn hl; have GEg0 := ge_new HS hg; clear hg; replace HS := HS.below hl; have Bg0 := hn; clear hl hn) | ((go_at_call 26); (with_reducible refine (fieldsC a0 g0 os _ (Bg0.at 0 rfl) ho).mono ?_); rintro e w2 ⟨A1, rfl, hP1, hl⟩; replace Bg0 := Bg0.below hl; replace HS := HS.below hl; clear hl) | (refine seg_load rfl (N := 17) rfl 27 (.tmp 1) rfl g0 0 [.int .i64 a0, .int .u64 a1, .int .u64 a2, .int .u64 a3, .int .u64 a4, .int .u64 a5, .int .u64 a6, .bool a7, .slice A8 l8.length c8, .slice A9 l9.length c9] rfl Bg0 rfl Try.underlying27 rfl (by kernel_rfl) ?_) | (refine seg_new rfl (N := 5) rfl [.int .i64 0, .int .u64 0, .int .u64 0, .int .u64 0, .int .u64 0, .int .u64 0, .int .u64 0, .bool false, .slice none 0 0, .slice none 0 0] 27 ?hr ?_; (case hr => rfl); intro g1 hg w3 hn hl; have Ng1_g0 := ne_new Bg0 hg; have GEg1 := ge_new HS hg; clear hg; replace Bg0 := Bg0.below hl; replace hP1 := hP1.below hl; replace HS := HS.below hl; have Bg1 := hn; clear hl hn) | (refine seg_store rfl rfl 27 (.tmp 5) (.tmp 17) rfl g1 0 [.int .i64 a0, .int .u64 a1, .int .u64 a2, .int .u64 a3, .int .u64 a4, .int .u64 a5, .int .u64 a6, .bool a7, .slice A8 l8.length c8, .slice A9 l9.length c9] [.int .i64 a0, .int .u64 a1, .int .u64 a2, .int .u64 a3, .int .u64 a4, .int .u64 a5, .int .u64 a6, .bool a7, .slice A8 l8.length c8, .slice A9 l9.length c9] (.agg #[.int .i64 a0, .int .u64 a1, .int .u64 a2, .int .u64 a3, .int .u64 a4, .int .u64 a5, .int .u64 a6, .bool a7, .slice A8 l8.length c8, .slice A9 l9.length c9]) rfl rfl rfl Bg1 (by kernel_rfl) (nle rfl) rfl rfl ?_; intro w4 hn hw; replace Bg0 := Bg0.grown hw Ng1_g0.symm; replace hP1 := hP1.grown Bg1 hw; replace HS := HS.grown hw GEg1; replace Bg1 := hn; clear hw; clear hn) | ((go_at_call 26); (with_reducible refine (fieldsC a0 g1 os _ (Bg1.at 0 rfl) ho).mono ?_); rintro e w5 ⟨A2, rfl, hP2, hl⟩; replace Bg0 := Bg0.below hl; replace Bg1 := Bg1.below hl; replace hP1 := hP1.below hl; replace HS := HS.below hl; clear hl))
  go_loopw [24] (fun i wr => ∃ q : Nat, i = .int .i64 q ∧ q ≤ os.length ∧ (∀ o ∈ os.take q, selA o a1 a2 a3 a4 a5 a6 ≤ 4611686018427387903) ∧ Blk wr g0 27 [.int .i64 a0, .int .u64 a1, .int .u64 a2, .int .u64 a3, .int .u64 a4, .int .u64 a5, .int .u64 a6, .bool a7, .slice A8 l8.length c8, .slice A9 l9.length c9] ∧ Blk wr g1 27 (cellsZ (os.take q) a0 a1 a2 a3 a4 a5 a6 a7 (.slice A8 l8.length c8) (.slice A9 l9.length c9)) ∧ PQ wr A1 g0 g1 os ∧ PQ wr A2 g1 g1 os ∧ Since w wr) (fun i _ => os.length - (intOf i).toNat)
  case atStart => exact ⟨0, rfl, Nat.zero_le _, by simp, Bg0, by rw [List.take_zero, cellsZ_nil]; exact Bg1, hP1.pq Bg1, hP2.pq Bg1, HS⟩
  case round =>
    clear hP1 hP2 Bg0 Bg1 HS
    obtain ⟨q, rfl, hq, hle, Bg0, Bg1, P1, P2, HS⟩ := hrel
    by_cases hlt : q < os.length
    · obtain ⟨o, hoq⟩ : ∃ o, os[q]? = some o := ⟨_, List.getElem?_eq_getElem hlt⟩
      have hom := List.mem_of_getElem? hoq
      have hmo := hm o hom
      have hne : os ≠ [] := by intro e; simp [e] at hlt
      obtain ⟨b1, hA1, n1, C1⟩ := P1 hne
      obtain ⟨b2, hA2, n2, C2⟩ := P2 hne
      have k1 : wr.cell? ⟨b1, q, none⟩ = some (.pointer (some ⟨g0, o, none⟩)) := (C1.cell q).trans (by simp [hoq])
      have k2 : wr.cell? ⟨b2, q, none⟩ = some (.pointer (some ⟨g1, o, none⟩)) := (C2.cell q).trans (by simp [hoq])
      have k3 : wr.cell? ⟨g0, o, none⟩ = some (.int .u64 (selA o a1 a2 a3 a4 a5 a6)) := (Bg0.cell o).trans (by rw [← cellsZ_nil, cellsZ_at [] o hmo.1 hmo.2]; simp [zf])
      have k4 : wr.cell? ⟨g1, o, none⟩ = some (.int .u64 (zf (os.take q) o (selA o a1 a2 a3 a4 a5 a6))) := (Bg1.cell o).trans (cellsZ_at _ o hmo.1 hmo.2 ..)
      have k5 := Bg1.frozen o
      have htk : os.take (q + 1) = os.take q ++ [o] := by rw [List.take_add_one, hoq]; rfl
      have hset := cellsZ_set (os.take q) o hmo.1 hmo.2 a0 a1 a2 a3 a4 a5 a6 a7 (.slice A8 l8.length c8) (.slice A9 l9.length c9)
      have hbad : 4611686018427387903 < (selA o a1 a2 a3 a4 a5 a6) → uBad os a1 a2 a3 a4 a5 a6 = true := fun hg => bad_of hom hmo hg
      have hle2 : (selA o a1 a2 a3 a4 a5 a6) ≤ 4611686018427387903 → ∀ o ∈ os.take (q + 1), selA o a1 a2 a3 a4 a5 a6 ≤ 4611686018427387903 := fun hg x hx => by
        rw [htk, List.mem_append, List.mem_singleton] at hx
        rcases hx with hx | rfl
        · exact hle x hx
        · exact hg
      generalize (selA o a1 a2 a3 a4 a5 a6) = v at *
      have T1 := Aside0.mk htk; have T2 := Aside0.mk hset; have T3 := Aside0.mk hoq
      clear htk hset hoq hmo hom hne hle hm ho
      go_wp2
      · have hg : 4611686018427387903 < v := by assumption
        obtain rfl : r = 50 := by have := h.out; rw [if_pos (hbad hg)] at this; exact (Option.some.inj this).symm
        go_ret
        exact ⟨rfl, HS.out⟩
      · have hg : v ≤ 4611686018427387903 := by first | assumption | omega
        go_roundw
        case rel => exact ⟨q + 1, by go_num, by omega, hle2 hg, Bg0.setFar Ng1_g0.symm, by rw [T1.out]; exact Bg1.set o _ T2.out, P1.set, P2.set, HS.set GEg1⟩
        case measure => simp [intOf]; omega
    · obtain rfl : q = os.length := by omega
      rw [List.take_length] at hle Bg1
      have kz1 := Bg1.at 1 rfl; have kz2 := Bg1.at 2 rfl; have kz3 := Bg1.at 3 rfl; have kz4 := Bg1.at 4 rfl; have kz5 := Bg1.at 5 rfl; have kz6 := Bg1.at 6 rfl
      have w1 := zf_w (os := os) (o := 1) W1; have w2 := zf_w (os := os) (o := 2) W2; have w3 := zf_w (os := os) (o := 3) W3; have w4 := zf_w (os := os) (o := 4) W4; have w5 := zf_w (os := os) (o := 5) W5; have w6 := zf_w (os := os) (o := 6) W6
      have hno := fun z1 z2 z3 z4 z5 z6 => bad_no (os := os) (a1 := a1) (a2 := a2) (a3 := a3) (a4 := a4) (a5 := a5) (a6 := a6) hle z1 z2 z3 z4 z5 z6
      have hz1 := bad_z (os := os) (o := 1) (a := a1); have hz2 := bad_z (os := os) (o := 2) (a := a2); have hz3 := bad_z (os := os) (o := 3) (a := a3); have hz4 := bad_z (os := os) (o := 4) (a := a4); have hz5 := bad_z (os := os) (o := 5) (a := a5); have hz6 := bad_z (os := os) (o := 6) (a := a6)
      generalize zf os 1 a1 = z1 at *; generalize zf os 2 a2 = z2 at *; generalize zf os 3 a3 = z3 at *; generalize zf os 4 a4 = z4 at *; generalize zf os 5 a5 = z5 at *; generalize zf os 6 a6 = z6 at *
      have hor : (or6 z1 z2 z3 z4 z5 z6 = 0 ∧ uBad os a1 a2 a3 a4 a5 a6 = false) ∨ (or6 z1 z2 z3 z4 z5 z6 ≠ 0 ∧ uBad os a1 a2 a3 a4 a5 a6 = true) := by
        by_cases hz : or6 z1 z2 z3 z4 z5 z6 = 0
        · obtain ⟨e1, e2, e3, e4, e5, e6⟩ := or6_z w1 w2 w3 w4 w5 w6 hz
          exact .inl ⟨hz, hno e1 e2 e3 e4 e5 e6⟩
        · refine .inr ⟨hz, ?_⟩
          unfold uBad
          rcases or6_n hz with e | e | e | e | e | e
          · rw [hz1 e]; simp
          · rw [hz2 e]; simp
          · rw [hz3 e]; simp
          · rw [hz4 e]; simp
          · rw [hz5 e]; simp
          · rw [hz6 e]; simp
      clear hno hz1 hz2 hz3 hz4 hz5 hz6 hle hm ho w1 w2 w3 w4 w5 w6
      rcases hor with ⟨hz, hb⟩ | ⟨hz, hb⟩
      · have hz' : (or6 z1 z2 z3 z4 z5 z6 != 0) = false := by simp [hz]
        clear hz; unfold or6 at hz'
        have H := h.out; rw [hb] at H; simp only [Bool.false_eq_true, if_false] at H
        clear h hb
        have kf0 := Bg0.at 0 rfl; have kf2 := Bg0.at 2 rfl; have kf7 := Bg0.at 7 rfl; have kf8 := Bg0.at 8 rfl; have kf9 := Bg0.at 9 rfl
        by_cases hak : a0 = 2 ∨ a0 = 3
        · rw [if_pos hak] at H
          obtain ⟨s, hs, H⟩ := Option.bind_eq_some_iff.1 H
          have HR := Kd.C_below HR9.out HS.out
          have hn14 : (a0 != 14) = true := by rcases hak with rfl | rfl <;> rfl
          have hkk : (a0 == 2) = true ∨ ((a0 == 2) = false ∧ (a0 == 3) = true) := by rcases hak with rfl | rfl <;> simp
          have HB := HS
          cases s with
          | false =>
            obtain rfl : r = 50 := by simpa using H.symm
            clear H hak
            rcases hkk with e2 | ⟨e2, e3⟩
            all_goals
              go_wp2_with ((go_at_call 29); with_reducible refine (frame_spans.calls k A9 c9 l9 false _ HR hc9 hs).mono ?_; rintro e w6 ⟨rfl, hl⟩; replace HB := HB.below hl; clear hl)
              go_ret
              exact ⟨rfl, HB.out⟩
          | true =>
            obtain rfl : uTail a0 a2 a7 l8.length = r := by simpa using H
            clear H
            rcases hkk with e2 | ⟨e2, e3⟩
            all_goals
              go_wp2_with ((go_at_call 29); with_reducible refine (frame_spans.calls k A9 c9 l9 true _ HR hc9 hs).mono ?_; rintro e w6 ⟨rfl, hl⟩; replace HB := HB.below hl; replace Bg0 := Bg0.below hl; clear kf0 kf2 kf7 kf8 kf9; have kf0 := Bg0.at 0 rfl; have kf2 := Bg0.at 2 rfl; have kf7 := Bg0.at 7 rfl; have kf8 := Bg0.at 8 rfl; clear hl)
              all_goals (go_ret; exact ⟨ret_int (by first | exact tail_a hn14 (.inl ‹_›) | exact tail_a hn14 (.inr ‹_›) | exact tail_b ‹_› | exact tail_c ‹_› ‹_› ‹_› | exact tail_b (by omega) | exact tail_d hn14 (by omega) | exact tail_c ‹_› ‹_› (by omega)), HB.out⟩)
        · rw [if_neg hak] at H
          have e2 : (a0 == 2) = false := by simp; omega
          have e3 : (a0 == 3) = false := by simp; omega
          have HB := HS
          by_cases hl9 : 0 < l9.length
          · obtain rfl : r = 50 := by rw [if_pos hl9] at H; exact (Option.some.inj H).symm
            clear H hak
            go_wp2
            go_ret
            exact ⟨rfl, HB.out⟩
          · obtain rfl : uTail a0 a2 a7 l8.length = r := by rw [if_neg hl9] at H; simpa using H
            clear H hak
            by_cases h14 : a0 = 14
            · have hn14 : (a0 != 14) = false := by simp [h14]
              clear h14
              go_wp2
              all_goals (go_ret; exact ⟨ret_int (by first | exact tail_a hn14 (.inl ‹_›) | exact tail_a hn14 (.inr ‹_›) | exact tail_b ‹_› | exact tail_c ‹_› ‹_› ‹_› | exact tail_b (by omega) | exact tail_d hn14 (by omega) | exact tail_c ‹_› ‹_› (by omega)), HB.out⟩)
            · have hn14 : (a0 != 14) = true := by simpa using h14
              clear h14
              go_wp2
              all_goals (go_ret; exact ⟨ret_int (by first | exact tail_a hn14 (.inl ‹_›) | exact tail_a hn14 (.inr ‹_›) | exact tail_b ‹_› | exact tail_c ‹_› ‹_› ‹_› | exact tail_b (by omega) | exact tail_d hn14 (by omega) | exact tail_c ‹_› ‹_› (by omega)), HB.out⟩)
      · have hz' : (or6 z1 z2 z3 z4 z5 z6 != 0) = true := by simpa using hz
        obtain rfl : r = 50 := by have := h.out; rw [if_pos hb] at this; exact (Option.some.inj this).symm
        clear hz h hb; unfold or6 at hz'
        go_wp2
        go_ret
        exact ⟨rfl, HS.out⟩
theorem frame_Check.calls (k : Nat) (a0 a1 a2 a3 a4 a5 a6 : Int) (a7 : Bool) (A8 : Option Addr) (c8 : Nat) (l8 : List Int) (A9 : Option Addr) (c9 : Nat) (l9 : List S47) (r : Int) (w : World) (hr8 : Kd.C (Kd.int .u8) w A8 l8.length l8) (hc8 : l8.length ≤ c8) (hr9 : Kd.C k47 w A9 l9.length l9) (hc9 : l9.length ≤ c9) (h : frame_Check.f k a0 a1 a2 a3 a4 a5 a6 a7 l8 l9 = some r) :
    Calls Try.prog 15 #[.agg #[.int .i64 a0, .int .u64 a1, .int .u64 a2, .int .u64 a3, .int .u64 a4, .int .u64 a5, .int .u64 a6, .bool a7, .slice A8 l8.length c8, .slice A9 l9.length c9]] w fun e w' => e = .returned (.int .i64 r) ∧ Below w.heap.size w w' := by
  unfold frame_Check.f at h
  split at h
  · rename_i hw
    obtain ⟨W1, W2, W3, W4, W5, W6, h8, h9⟩ := hw
    cases ho : fOffs a0 with
    | none =>
      rw [ho] at h
      obtain rfl : 50 = r := by simpa using h
      exact frame_Check.no a0 a1 a2 a3 a4 a5 a6 a7 A8 c8 l8 A9 c9 l9 w ho
    | some os =>
      rw [ho] at h
      exact frame_Check.way k a0 a1 a2 a3 a4 a5 a6 a7 A8 c8 l8 A9 c9 l9 w r os ho W1 W2 W3 W4 W5 W6 h8 h9 hr9 hc9 ⟨h⟩
  · cases h
def uSize (a0 : Int) : Int := if a0 < 64 then 1 else if a0 < 16384 then 2 else if a0 < 1073741824 then 4 else if a0 < 4611686018427387904 then 8 else 0
def varint_Size.f (a0 : Int) : Option Int := some (uSize a0)
theorem varint_Size.calls (a0 : Int) (r : Int) (w : World) (h : varint_Size.f a0 = some r) :
    Calls Try.prog 49 #[.int .u64 a0] w fun e w' => e = .returned (.int .i64 r) ∧ Below w.heap.size w w' := by
  have hu := Try.underlying98
  unfold varint_Size.f at h
  obtain rfl := Option.some.inj h
  have i0 : ∀ w, (Instr.index 98 (.agg #[.int .u64 64, .int .u64 16384, .int .u64 1073741824, .int .u64 4611686018427387904]) (.int .i64 0)).run Try.prog w = .ok (.int .u64 64) w := fun _ => by kernel_rfl
  have i1 : ∀ w, (Instr.index 98 (.agg #[.int .u64 64, .int .u64 16384, .int .u64 1073741824, .int .u64 4611686018427387904]) (.int .i64 1)).run Try.prog w = .ok (.int .u64 16384) w := fun _ => by kernel_rfl
  have i2 : ∀ w, (Instr.index 98 (.agg #[.int .u64 64, .int .u64 16384, .int .u64 1073741824, .int .u64 4611686018427387904]) (.int .i64 2)).run Try.prog w = .ok (.int .u64 1073741824) w := fun _ => by kernel_rfl
  have i3 : ∀ w, (Instr.index 98 (.agg #[.int .u64 64, .int .u64 16384, .int .u64 1073741824, .int .u64 4611686018427387904]) (.int .i64 3)).run Try.prog w = .ok (.int .u64 4611686018427387904) w := fun _ => by kernel_rfl
  unfold uSize
  have way : ∀ (n : Nat) (v : Int), (n = 1 ∧ a0 < 64 ∧ v = 1 ∨ n = 2 ∧ ¬ a0 < 64 ∧ a0 < 16384 ∧ v = 2 ∨ n = 3 ∧ ¬ a0 < 64 ∧ ¬ a0 < 16384 ∧ a0 < 1073741824 ∧ v = 4 ∨ n = 4 ∧ ¬ a0 < 64 ∧ ¬ a0 < 16384 ∧ ¬ a0 < 1073741824 ∧ a0 < 4611686018427387904 ∧ v = 8 ∨ n = 5 ∧ ¬ a0 < 64 ∧ ¬ a0 < 16384 ∧ ¬ a0 < 1073741824 ∧ ¬ a0 < 4611686018427387904 ∧ v = 0) →
      Calls Try.prog 49 #[.int .u64 a0] w fun e w' => e = .returned (.int .i64 v) ∧ Below w.heap.size w w' := by
    intro n v hw
    rcases hw with ⟨rfl, h1, rfl⟩ | ⟨rfl, h1, h2, rfl⟩ | ⟨rfl, h1, h2, h3, rfl⟩ | ⟨rfl, h1, h2, h3, h4, rfl⟩ | ⟨rfl, h1, h2, h3, h4, rfl⟩
    · go_enter Try.func49, Try.ntmps49
      go_wp2
      go_rounds 1
      go_ret
      exact ⟨rfl, below_alloc (Below.refl _ _) _⟩
    · go_enter Try.func49, Try.ntmps49
      go_wp2
      go_rounds 2
      go_ret
      exact ⟨rfl, below_alloc (Below.refl _ _) _⟩
    · go_enter Try.func49, Try.ntmps49
      go_wp2
      go_rounds 3
      go_ret
      exact ⟨rfl, below_alloc (Below.refl _ _) _⟩
    · go_enter Try.func49, Try.ntmps49
      go_wp2
      go_rounds 4
      go_ret
      exact ⟨rfl, below_alloc (Below.refl _ _) _⟩
    · go_enter Try.func49, Try.ntmps49
      go_wp2
      go_rounds 5
      go_ret
      exact ⟨rfl, below_alloc (Below.refl _ _) _⟩
  by_cases h1 : a0 < 64
  · rw [if_pos h1]; exact way 1 1 (by omega)
  · rw [if_neg h1]
    by_cases h2 : a0 < 16384
    · rw [if_pos h2]; exact way 2 2 (by omega)
    · rw [if_neg h2]
      by_cases h3 : a0 < 1073741824
      · rw [if_pos h3]; exact way 3 4 (by omega)
      · rw [if_neg h3]
        by_cases h4 : a0 < 4611686018427387904
        · rw [if_pos h4]; exact way 4 8 (by omega)
        · rw [if_neg h4]; exact way 5 0 (by omega)
end Go.Proofs.Ytphakdfholkbdaa.PFra
end
section
namespace Go.Proofs.Ytphakdfholkbdaa.PFra
open Go.RowKit Go.Proofs.YtphakdfholkbdaaW.PrintWords Go.Proofs.YtphakdfholkbdaaW.PrintLast Go.Proofs.YtphakdfholkbdaaW.PrintMore
attribute [local go_sem] max2_int min2_int max_two min_two max_three min_three max_four min_four   -- for this text's walks alone
set_option linter.unusedVariables false
set_option linter.unusedSimpArgs false
mutual
def varint_Put.l0 : Nat → Int → Int → List Int → Int → Int → Option (List Int × Int)
  | 0, _, _, _, _, _ => none
  | k + 1, x0, x4, x5, x14, x15 => if x15 < x14 then (if 0 ≤ (wrap64 (8 * x15)) then (if 0 ≤ (wrap64 ((wrap64 (x4 - 1)) - x15)) then (if (wrap64 ((wrap64 (x4 - 1)) - x15)) < (x5.length : Int) then (varint_Put.l0 k x0 x4 (x5.set ((wrap64 ((wrap64 (x4 - 1)) - x15)) : Int).toNat ((shr .u64 x0 (wrap64 (8 * x15))) % 256)) x14 (wrap64 (x15 + 1))) else (none)) else (none)) else (none)) else (varint_Put.l1 k x4 x5 1)
def varint_Put.l1 : Nat → Int → List Int → Int → Option (List Int × Int)
  | 0, _, _, _ => none
  | k + 1, x4, x5, x7 => if 0 ≤ x7 then (if (shl .i64 1 x7) ≤ x4 then (if 0 < (x5.length : Int) then (varint_Put.l1 k x4 (x5.set (0 : Int).toNat (((rd x5 0) + 64) % 256)) (wrap64 (x7 + 1))) else (none)) else (some (x5, 0))) else (none)
end
def varint_Put.f (k : Nat) (a0 : Int) : Option (List Int × Int) := (varint_Size.f a0).bind fun t104 => (if t104 = 0 then (some (([] : List Int), 31)) else (if 0 ≤ t104 then (if (t104 : Int).toNat ≤ 281474976710656 then (varint_Put.l0 k a0 t104 (List.replicate (t104 : Int).toNat 0) t104 0) else (none)) else (none)))
set_option maxHeartbeats 8000000 in
set_option maxRecDepth 100000 in
theorem varint_Put.calls (k : Nat) (a0 : Int) (r1 : List Int) (r2 : Int) (w : World) (h : varint_Put.f k a0 = some (r1, r2)) :
    Calls Try.prog 37 #[.int .u64 a0] w fun e w' => ∃ v0_ : Value, e = .returned (.tuple #[v0_, .int .i64 r2]) ∧ Kd.R (Kd.int .u8) 5 w' w.heap.size (fun _ => True) v0_ r1 ∧ Below w.heap.size w w' := by
  have HB := Aside0.mk (Below.refl w.heap.size w)
  have H : ((varint_Size.f a0).bind fun t104 => (if t104 = 0 then (some (([] : List Int), 31)) else (if 0 ≤ t104 then (if (t104 : Int).toNat ≤ 281474976710656 then (varint_Put.l0 k a0 t104 (List.replicate (t104 : Int).toNat 0) t104 0) else (none)) else (none)))) = some (r1, r2) := h
  clear h
  replace H := Option.bind_eq_some_iff.mp H
  obtain ⟨t104, A20, H⟩ := H
  replace H : (if t104 = 0 then (some (([] : List Int), 31)) else (if 0 ≤ t104 then (if (t104 : Int).toNat ≤ 281474976710656 then (varint_Put.l0 k a0 t104 (List.replicate (t104 : Int).toNat 0) t104 0) else (none)) else (none))) = some (r1, r2) := H
  have A2 := Aside0.mk A20
  clear A20
  by_cases c3 : t104 = 0
  · rw [if_pos c3] at H
    have c3b0 : (t104 == 0) = true := beq_iff_eq.mpr c3
    have c3b1 : (t104 != 0) = false := bne_eq_false_iff_eq.mpr c3
    clear c3
    simp only [Option.some.injEq, Prod.mk.injEq] at H
    obtain ⟨rfl, rfl⟩ := H
    go_enter Try.func37, Try.ntmps37
    go_wp2_with (first | ((with_reducible refine gate_callee (f := 49) rfl ?_); refine goesL_ (some 9) rfl rfl Try.func49 (by kernel_rfl) rfl #[.int .u64 a0] rfl (by (try simp only [List.map_toArray, List.map_cons, List.map_nil]); first | done | rfl | (simp only [List.length_drop, List.length_take]; rfl)) ?_; (with_reducible refine (varint_Size.calls a0 t104 _ A2.out).mono ?_); rintro e w4 ⟨rfl, hb⟩; refine ⟨_, rfl, ?_⟩; have n0_ := Aside0.mk (below_step (by repeat (first | (with_reducible first | exact HB.out | apply below_alloc | apply pw_below_drewN | apply below_drew1) | exact HB.out)) hb); clear HB; have HB := n0_; clear n0_; (try clear hb); (try clear hb2); (try clear hk); (try clear hi)))
    go_ret2
    exact ⟨_, by first | rfl | (simp [errW_none, errW_some] <;> rfl) | (simp [*, errW_none, errW_some] <;> rfl), by first | exact Kd.R_nil .. | exact Kd.N_nil .. | exact Kd.V_nil .. | exact Kd.Q_nil .. | exact Kd.S_nil _ _ _ _ _, by repeat (first | (with_reducible first | exact HB.out | apply below_alloc | apply pw_below_drewN | apply below_drew1) | exact HB.out)⟩
  · rw [if_neg c3] at H
    have c3b0 : (t104 == 0) = false := beq_eq_false_iff_ne.mpr c3
    have c3b1 : (t104 != 0) = true := bne_iff_ne.mpr c3
    by_cases c5 : 0 ≤ t104
    · rw [if_pos c5] at H
      have c5b0 := eq_true c5
      have c5b1 : decide (0 ≤ t104) = true := decide_eq_true c5
      clear c5
      by_cases c6 : (t104 : Int).toNat ≤ 281474976710656
      · rw [if_pos c6] at H
        have c6b0 := eq_true c6
        have c6b1 : decide ((t104 : Int).toNat ≤ 281474976710656) = true := decide_eq_true c6
        clear c6
        obtain ⟨y105, hy105⟩ : ∃ y_ : List Int, y_ = (List.replicate (t104 : Int).toNat 0) := ⟨_, rfl⟩
        replace H : (varint_Put.l0 k a0 t104 y105 t104 0) = some (r1, r2) := by first | (rw [hy105]; with_reducible exact H) | (have H2_ := (Option.bind_some _ _).symm.trans H; rw [hy105]; with_reducible exact H2_) | (have H2_ := (Option.bind_some _ _).symm.trans H; with_reducible exact H2_) | with_reducible exact H | (rw [hy105]; exact H) | exact H
        have Ny105 := Aside0.mk hy105
        clear hy105
        have H' := Aside0.mk H
        clear H
        go_enter Try.func37, Try.ntmps37
        go_wp2_with (first | ((with_reducible refine gate_callee (f := 49) rfl ?_); refine goesL_ (some 9) rfl rfl Try.func49 (by kernel_rfl) rfl #[.int .u64 a0] rfl (by (try simp only [List.map_toArray, List.map_cons, List.map_nil]); first | done | rfl | (simp only [List.length_drop, List.length_take]; rfl)) ?_; (with_reducible refine (varint_Size.calls a0 t104 _ A2.out).mono ?_); rintro e w7 ⟨rfl, hb⟩; refine ⟨_, rfl, ?_⟩; have n0_ := Aside0.mk (below_step (by repeat (first | (with_reducible first | exact HB.out | apply below_alloc | apply pw_below_drewN | apply below_drew1) | exact HB.out)) hb); clear HB; have HB := n0_; clear n0_; (try clear hb); (try clear hb2); (try clear hk); (try clear hi)) | ((with_reducible refine gate_dst (N := 13) rfl ?_); refine Kd.R_make (Kd.int .u8) _ 5 rfl (N := 13) rfl 24 _ _ rfl t104 rfl rfl Try.underlying24 (.int .u8 0) 1 info5 rfl (by decide) (by omega) 0 (ok := fun _ => True) (okp := fun _ => True) rfl (fun _ hk => hk) trivial (of_decide_eq_true (by first | (with_reducible assumption) | assumption)) (Nat.le_trans (Nat.mul_le_mul_right _ (of_decide_eq_true (by first | (with_reducible assumption) | assumption) : t104.toNat ≤ 281474976710656)) (by omega)) (Below.refl _ _) (Nat.le_refl _) ?_; intro v106 w8 ho9 hb hg_ hnew_; clear hg_ hnew_; (first | rw [← Ny105.out] at ho9 | (simp only [Int.reduceToNat] at ho9; rw [← Ny105.out] at ho9)); have n0_ := Aside0.mk (Kd.R_lower ho9 (below_size (by repeat (first | (with_reducible first | exact HB.out | apply below_alloc | apply pw_below_drewN | apply below_drew1) | exact HB.out)))); have n1_ := Aside0.mk (below_step (by repeat (first | (with_reducible first | exact HB.out | apply below_alloc | apply pw_below_drewN | apply below_drew1) | exact HB.out)) hb); clear HB; have HO107 := n0_; have HB := n1_; clear n0_ n1_; clear hb ho9))
        go_loopg [15] k (fun kq v15 w' => ∃ (x5_1 : List Int) (x15_1 : Int), v15 = .int .i64 x15_1 ∧ Aside0 (varint_Put.l0 kq a0 t104 x5_1 t104 x15_1 = some (r1, r2)) ∧ Aside0 (kq ≤ k) ∧ Aside0 (Kd.R (Kd.int .u8) 5 w' w.heap.size (fun _ => True) v106 x5_1) ∧ Aside0 (Below w.heap.size w w'))
        case atStart => exact ⟨(y105), (0), (by first | rfl | (simp; done) | (simp [*]; done)), H', ⟨Nat.le_refl _⟩, ⟨by (with_reducible repeat (first | apply Kd.R_alloc | apply Kd.R_drewN | apply Kd.R_drew)); exact HO107.out⟩, ⟨by repeat (first | (with_reducible first | exact HB.out | apply below_alloc | apply pw_below_drewN | apply below_drew1) | exact HB.out)⟩⟩
        case round =>
          clear H'
          try clear p2
          try clear c3
          try clear c3b0
          try clear c3b1
          try clear c4
          try clear c5
          try clear c5b0
          try clear c5b1
          try clear c6
          try clear c6b0
          try clear c6b1
          obtain ⟨x5_1, x15_1, rfl, HA, HK1, HO_5, HB⟩ := hrel
          cases gk with
          | zero => exact absurd HA.out (by simp [varint_Put.l0])
          | succ k1 =>
            have H := HA.out
            clear HA
            simp only [varint_Put.l0] at H
            by_cases c10 : x15_1 < t104
            · rw [if_pos c10] at H
              have c10b0 : decide (x15_1 < t104) = true := decide_eq_true c10
              clear c10
              obtain ⟨ji11, hji11⟩ : ∃ j_ : Int, (wrap64 (8 * x15_1)) = j_ := ⟨_, rfl⟩
              replace H : (if 0 ≤ (ji11) then (if 0 ≤ (wrap64 ((wrap64 (t104 - 1)) - x15_1)) then (if (wrap64 ((wrap64 (t104 - 1)) - x15_1)) < (x5_1.length : Int) then (varint_Put.l0 k1 a0 t104 (x5_1.set ((wrap64 ((wrap64 (t104 - 1)) - x15_1)) : Int).toNat ((shr .u64 a0 (ji11)) % 256)) t104 (wrap64 (x15_1 + 1))) else (none)) else (none)) else (none)) = some (r1, r2) := by first | (rw [hji11] at H; exact H) | (simp only [hji11] at H ⊢; exact H)
              have hji11w : (IntKind.i64.wrap (8 * x15_1)) = ji11 := (i64_w _).trans hji11
              by_cases c12 : 0 ≤ (ji11)
              · rw [if_pos c12] at H
                have c12b0 := eq_true c12
                have c12b1 : decide (0 ≤ (ji11)) = true := decide_eq_true c12
                clear c12
                obtain ⟨ji13, hji13⟩ : ∃ j_ : Int, (shr .u64 a0 (ji11)) = j_ := ⟨_, rfl⟩
                replace H : (if 0 ≤ (wrap64 ((wrap64 (t104 - 1)) - x15_1)) then (if (wrap64 ((wrap64 (t104 - 1)) - x15_1)) < (x5_1.length : Int) then (varint_Put.l0 k1 a0 t104 (x5_1.set ((wrap64 ((wrap64 (t104 - 1)) - x15_1)) : Int).toNat ((ji13) % 256)) t104 (wrap64 (x15_1 + 1))) else (none)) else (none)) = some (r1, r2) := by first | (rw [hji13] at H; exact H) | (simp only [hji13] at H ⊢; exact H)
                have hji13_ : (a0 / 2 ^ min (ji11).toNat 64) = ji13 := hji13
                have hji13z : (ji11) ≤ 64 → (a0 / 2 ^ (ji11).toNat) = ji13 := shr_small hji13
                obtain ⟨ji14, hji14⟩ : ∃ j_ : Int, (wrap64 ((wrap64 (t104 - 1)) - x15_1)) = j_ := ⟨_, rfl⟩
                replace H : (if 0 ≤ (ji14) then (if (ji14) < (x5_1.length : Int) then (varint_Put.l0 k1 a0 t104 (x5_1.set ((ji14) : Int).toNat ((ji13) % 256)) t104 (wrap64 (x15_1 + 1))) else (none)) else (none)) = some (r1, r2) := by first | (rw [hji14] at H; exact H) | (simp only [hji14] at H ⊢; exact H)
                have hji14w : (IntKind.i64.wrap ((wrap64 (t104 - 1)) - x15_1)) = ji14 := (i64_w _).trans hji14
                by_cases c15 : 0 ≤ (ji14)
                · rw [if_pos c15] at H
                  have c15b0 : decide (0 ≤ (ji14)) = true := decide_eq_true c15
                  clear c15
                  by_cases c16 : (ji14) < (x5_1.length : Int)
                  · rw [if_pos c16] at H
                    have c16b0 : decide ((ji14) < (x5_1.length : Int)) = true := decide_eq_true c16
                    clear c16
                    obtain ⟨y108, hy108⟩ : ∃ y_ : List Int, y_ = (x5_1.set ((ji14) : Int).toNat ((ji13) % 256)) := ⟨_, rfl⟩
                    replace H : (varint_Put.l0 k1 a0 t104 y108 t104 (wrap64 (x15_1 + 1))) = some (r1, r2) := by first | (rw [hy108]; with_reducible exact H) | (have H2_ := (Option.bind_some _ _).symm.trans H; rw [hy108]; with_reducible exact H2_) | (have H2_ := (Option.bind_some _ _).symm.trans H; with_reducible exact H2_) | with_reducible exact H | (rw [hy108]; exact H) | exact H
                    have Ny108 := Aside0.mk hy108
                    clear hy108
                    have H' := Aside0.mk H
                    clear H
                    have p17 : 0 ≤ ((ji14) : Int) := of_decide_eq_true (by first | (with_reducible assumption) | assumption)
                    have q17 : ((ji14) : Int) < ((x5_1.length : Int) : Int) := of_decide_eq_true (by first | (with_reducible assumption) | assumption)
                    obtain ⟨go17, co17, eo17, gb17, gl17, cl17, HG17⟩ := Kd.R_form HO_5.out (by omega)
                    (first | cases eo17 | (injection eo17 with ea_ en_ ec_; (first | subst ea_ | (injection ea_ with ea_; subst ea_)); subst ec_; clear en_))
                    have GB17 := Aside0.mk gb17
                    have GG17 := Aside0.mk HG17
                    clear gb17 gl17 HG17
                    obtain ⟨hx17_0, hf17_0⟩ := Kd.R_celln 0 HO_5.out ((ji14) : Int) p17 q17
                    replace p17 := eq_true p17
                    replace q17 := eq_true q17
                    have HP18 := Kd.R_putg HO_5.out ((ji14) : Int) ((ji13) % 256)
                    go_wp2_with (first | ((with_reducible refine gate_store (t := 5) (p := 28) rfl ?_); refine store_event (t := 5) (p := 28) (v := ?vo_w19) (w1 := (wr.setCell ⟨go17, ((ji14) : Int).toNat, none⟩ (.int .u8 ((ji13) % 256)))) ?hg ?ho ?hn ?hr ?_; (case ho => rfl); (case hg => rfl); (case hn => rfl); (case hr => first | (go_simp; done) | (go_simp; rfl)); intro w19 hw; have hg : wr.grownBy w19 (some go17) := (by rw [hw]; exact HP18.2); have hp_ : Kd.R (Kd.int .u8) 5 w19 w.heap.size (fun _ => True) (.slice (some ⟨go17, 0, none⟩) x5_1.length co17) y108 := (by rw [hw, Ny108.out]; exact HP18.1); clear HP18; have n0_ := Aside0.mk (hp_); have n1_ := Aside0.mk ((by rw [hw]; exact below_set (HB.out) GB17.out : Below w.heap.size w w19)); clear HO_5; clear HB; have HO_5 := n0_; have HB := n1_; clear n0_ n1_; clear hg hw hp_))
                    go_roundg k1
                    case measure => have := HK1.out; omega
                    case rel => exact ⟨(y108), (wrap64 (x15_1 + 1)), (by first | rfl | (simp; done) | (simp [*]; done)), H', ⟨by have := HK1.out; omega⟩, ⟨by (with_reducible repeat (first | apply Kd.R_alloc | apply Kd.R_drewN | apply Kd.R_drew)); exact HO_5.out⟩, ⟨by repeat (first | (with_reducible first | exact HB.out | apply below_alloc | apply pw_below_drewN | apply below_drew1) | exact HB.out)⟩⟩
                  · rw [if_neg c16] at H
                    exact absurd H (by simp)
                · rw [if_neg c15] at H
                  exact absurd H (by simp)
              · rw [if_neg c12] at H
                exact absurd H (by simp)
            · rw [if_neg c10] at H
              have c10b0 : decide (x15_1 < t104) = false := decide_eq_false c10
              clear c10
              have H' := Aside0.mk H
              clear H
              go_wp2
              go_loopg [7] k1 (fun kq v7 w' => ∃ (x5_2 : List Int) (x7_2 : Int), v7 = .int .i64 x7_2 ∧ Aside0 (varint_Put.l1 kq t104 x5_2 x7_2 = some (r1, r2)) ∧ Aside0 (kq ≤ k1) ∧ Aside0 (Kd.R (Kd.int .u8) 5 w' w.heap.size (fun _ => True) v106 x5_2) ∧ Aside0 (Below w.heap.size w w'))
              case atStart => exact ⟨(x5_1), (1), (by first | rfl | (simp; done) | (simp [*]; done)), H', ⟨Nat.le_refl _⟩, ⟨by (with_reducible repeat (first | apply Kd.R_alloc | apply Kd.R_drewN | apply Kd.R_drew)); exact HO_5.out⟩, ⟨by repeat (first | (with_reducible first | exact HB.out | apply below_alloc | apply pw_below_drewN | apply below_drew1) | exact HB.out)⟩⟩
              case round =>
                clear H'
                try clear c1
                try clear p1
                try clear q1
                try clear hx1
                try clear hf1
                try clear p2
                try clear c3
                try clear c3b0
                try clear c3b1
                try clear c4
                try clear c5
                try clear c5b0
                try clear c5b1
                try clear c6
                try clear c6b0
                try clear c6b1
                try clear p6
                try clear c10
                try clear c10b0
                try clear c12
                try clear c12b0
                try clear c12b1
                try clear c15
                try clear c15b0
                try clear c16
                try clear c16b0
                try clear p17
                try clear q17
                try clear hx17
                try clear hf17
                try clear hx17_0
                try clear p17
                try clear p2
                try clear q17
                obtain ⟨x5_2, x7_2, rfl, HA, HK2, HO_5, HB⟩ := hrel
                cases gk with
                | zero => exact absurd HA.out (by simp [varint_Put.l1])
                | succ k2 =>
                  have H := HA.out
                  clear HA
                  simp only [varint_Put.l1] at H
                  by_cases c20 : 0 ≤ x7_2
                  · rw [if_pos c20] at H
                    have c20b0 := eq_true c20
                    have c20b1 : decide (0 ≤ x7_2) = true := decide_eq_true c20
                    clear c20
                    obtain ⟨ji21, hji21⟩ : ∃ j_ : Int, (shl .i64 1 x7_2) = j_ := ⟨_, rfl⟩
                    replace H : (if (ji21) ≤ t104 then (if 0 < (x5_2.length : Int) then (varint_Put.l1 k2 t104 (x5_2.set (0 : Int).toNat (((rd x5_2 0) + 64) % 256)) (wrap64 (x7_2 + 1))) else (none)) else (some (x5_2, 0))) = some (r1, r2) := by first | (rw [hji21] at H; exact H) | (simp only [hji21] at H ⊢; exact H)
                    have hji21_ : (IntKind.i64.wrap (1 * 2 ^ min x7_2.toNat 64)) = ji21 := hji21
                    have hji21z : x7_2 ≤ 64 → (IntKind.i64.wrap (1 * 2 ^ x7_2.toNat)) = ji21 := shl_small hji21
                    have hji21u : (IntKind.i64.wrap (2 ^ min x7_2.toNat 64)) = ji21 := by have h_ := hji21_; rw [Int.one_mul] at h_; exact h_
                    have hji21v : x7_2 ≤ 64 → (IntKind.i64.wrap (2 ^ x7_2.toNat)) = ji21 := fun hle_ => by have h_ := hji21z hle_; rw [Int.one_mul] at h_; exact h_
                    have hji21y : (wrap64 (1 * 2 ^ min x7_2.toNat 64)) = ji21 := (i64_w _).symm.trans hji21_
                    have hji21x : x7_2 ≤ 64 → (wrap64 (1 * 2 ^ x7_2.toNat)) = ji21 := fun h_ => (i64_w _).symm.trans (hji21z h_)
                    by_cases c22 : (ji21) ≤ t104
                    · rw [if_pos c22] at H
                      have c22b0 : decide ((ji21) ≤ t104) = true := decide_eq_true c22
                      clear c22
                      by_cases c23 : 0 < (x5_2.length : Int)
                      · rw [if_pos c23] at H
                        have c23b0 : decide (0 < (x5_2.length : Int)) = true := decide_eq_true c23
                        have c23b1 : decide (0 < x5_2.length) = true := decide_eq_true (by omega)
                        clear c23
                        obtain ⟨y110, hy110⟩ : ∃ y_ : List Int, y_ = (x5_2.set (0 : Int).toNat (((rd x5_2 0) + 64) % 256)) := ⟨_, rfl⟩
                        replace H : (varint_Put.l1 k2 t104 y110 (wrap64 (x7_2 + 1))) = some (r1, r2) := by first | (rw [hy110]; with_reducible exact H) | (have H2_ := (Option.bind_some _ _).symm.trans H; rw [hy110]; with_reducible exact H2_) | (have H2_ := (Option.bind_some _ _).symm.trans H; with_reducible exact H2_) | with_reducible exact H | (rw [hy110]; exact H) | exact H
                        have Ny110 := Aside0.mk hy110
                        clear hy110
                        have H' := Aside0.mk H
                        clear H
                        obtain ⟨Ao25, co25, eo25⟩ := Kd.R_slice HO_5.out
                        subst eo25
                        have p109 : 0 ≤ (0 : Int) := (by omega)
                        have q109 : 0 < (x5_2.length : Int) := of_decide_eq_true (by first | (with_reducible assumption) | assumption)
                        obtain ⟨ad109, e109, hx109_0⟩ := Kd.at_int (Kd.R_reads' HO_5.out).2.2 0 p109 q109
                        cases e109
                        have qi109 : (0 < x5_2.length) = True := eq_true (by omega)
                        (try rw [show ((0 : Int)).toNat = 0 from rfl] at hx109_0)
                        (try rw [Addr.add_zero'] at hx109_0)
                        replace p109 := eq_true p109
                        replace q109 := eq_true q109
                        have p24 : 0 ≤ (0 : Int) := (by omega)
                        have q24 : (0 : Int) < ((x5_2.length : Int) : Int) := of_decide_eq_true (by first | (with_reducible assumption) | assumption)
                        have qi24 : (0 < x5_2.length) = True := eq_true (by omega)
                        obtain ⟨go24, co24, eo24, gb24, gl24, cl24, HG24⟩ := Kd.R_form HO_5.out (by omega)
                        (first | cases eo24 | (injection eo24 with ea_ en_ ec_; (first | subst ea_ | (injection ea_ with ea_; subst ea_)); subst ec_; clear en_))
                        have GB24 := Aside0.mk gb24
                        have GG24 := Aside0.mk HG24
                        clear gb24 gl24 HG24
                        (first | simp only [add_plain] at hx109_0 | skip)
                        obtain ⟨hx24_0, hf24_0⟩ := Kd.R_celln 0 HO_5.out (0 : Int) p24 q24
                        (try rw [show ((0 : Int)).toNat = 0 from rfl] at hx24_0)
                        (try simp only [Nat.reduceMul, Nat.zero_mul, Nat.zero_add, Nat.reduceAdd] at hx24_0)
                        (try rw [show ((0 : Int)).toNat = 0 from rfl] at hf24_0)
                        (try simp only [Nat.reduceMul, Nat.zero_mul, Nat.zero_add, Nat.reduceAdd] at hf24_0)
                        replace p24 := eq_true p24
                        replace q24 := eq_true q24
                        have HP26 := Kd.R_putg HO_5.out (0 : Int) (((rd x5_2 0) + 64) % 256)
                        go_wp2_with (first | ((with_reducible refine gate_store (t := 5) (p := 40) rfl ?_); refine store_event (t := 5) (p := 40) (v := ?vo_w27) (w1 := (wr.setCell ⟨go24, (0 : Int).toNat, none⟩ (.int .u8 (((rd x5_2 0) + 64) % 256)))) ?hg ?ho ?hn ?hr ?_; (case ho => rfl); (case hg => rfl); (case hn => rfl); (case hr => first | (go_simp; done) | (go_simp; rfl)); intro w27 hw; have hg : wr.grownBy w27 (some go24) := (by rw [hw]; exact HP26.2); have hp_ : Kd.R (Kd.int .u8) 5 w27 w.heap.size (fun _ => True) (.slice (some ⟨go24, 0, none⟩) x5_2.length co25) y110 := (by rw [hw, Ny110.out]; exact HP26.1); clear HP26; have n0_ := Aside0.mk (hp_); have n1_ := Aside0.mk ((by rw [hw]; exact below_set (HB.out) GB24.out : Below w.heap.size w w27)); clear HO_5; clear HB; have HO_5 := n0_; have HB := n1_; clear n0_ n1_; clear hg hw hp_))
                        go_roundg k2
                        case measure => have := HK1.out; have := HK2.out; omega
                        case rel => exact ⟨(y110), (wrap64 (x7_2 + 1)), (by first | rfl | (simp; done) | (simp [*]; done)), H', ⟨by have := HK1.out; have := HK2.out; omega⟩, ⟨by (with_reducible repeat (first | apply Kd.R_alloc | apply Kd.R_drewN | apply Kd.R_drew)); exact HO_5.out⟩, ⟨by repeat (first | (with_reducible first | exact HB.out | apply below_alloc | apply pw_below_drewN | apply below_drew1) | exact HB.out)⟩⟩
                      · rw [if_neg c23] at H
                        exact absurd H (by simp)
                    · rw [if_neg c22] at H
                      have c22b0 : decide ((ji21) ≤ t104) = false := decide_eq_false c22
                      clear c22
                      simp only [Option.some.injEq, Prod.mk.injEq] at H
                      obtain ⟨rfl, rfl⟩ := H
                      go_wp2
                      go_ret2
                      exact ⟨_, by first | rfl | (simp [errW_none, errW_some] <;> rfl) | (simp only [← hji21]; first | rfl | (simp [errW_none, errW_some] <;> rfl)) | (simp [*, errW_none, errW_some] <;> rfl), by (with_reducible repeat (first | apply Kd.R_alloc | apply Kd.R_drewN | apply Kd.R_drew)); exact HO_5.out, by repeat (first | (with_reducible first | exact HB.out | apply below_alloc | apply pw_below_drewN | apply below_drew1) | exact HB.out)⟩
                  · rw [if_neg c20] at H
                    exact absurd H (by simp)
      · rw [if_neg c6] at H
        exact absurd H (by simp)
    · rw [if_neg c5] at H
      exact absurd H (by simp)
attribute [local go_sem] max2_int min2_int max_two min_two max_three min_three max_four min_four   -- for this text's walks alone
set_option linter.unusedVariables false
set_option linter.unusedSimpArgs false
def frame_numbers.l0 : Nat → List Int → List Int → Int → Int → Option (List Int)
  | 0, _, _, _, _ => none
  | k + 1, x2, x7, x8, x9 => if x9 < x8 then (if 0 ≤ x9 then (if x9 < (x7.length : Int) then ((varint_Put.f k (rd x7 x9)).bind fun bt112 => (if x2.length + bt112.1.length < 140737488355328 then (frame_numbers.l0 k (x2 ++ bt112.1) x7 x8 (wrap64 (x9 + 1))) else (none))) else (none)) else (none)) else (some x2)
def frame_numbers.f (k : Nat) (l0 : List Int) : Option (List Int) := frame_numbers.l0 k ([] : List Int) l0 (l0.length : Int) 0
set_option maxHeartbeats 8000000 in
set_option maxRecDepth 100000 in
theorem frame_numbers.calls (k : Nat) (A0 : Option Addr) (c0 : Nat) (l0 : List Int) (r : List Int) (w : World) (hr0 : Kd.C (Kd.int .u64) w A0 l0.length l0) (hc0 : l0.length ≤ c0) (h : frame_numbers.f k l0 = some r) :
    Calls Try.prog 24 #[.slice A0 l0.length c0] w fun e w' => ∃ v0_ : Value, e = .returned (v0_) ∧ Kd.R (Kd.int .u8) 5 w' w.heap.size (fun _ => True) v0_ r ∧ Below w.heap.size w w' := by
  have HR0 := Aside0.mk hr0
  have HC0 := Aside0.mk hc0
  clear hr0 hc0
  have HB := Aside0.mk (Below.refl w.heap.size w)
  have H : (frame_numbers.l0 k ([] : List Int) l0 (l0.length : Int) 0) = some r := h
  clear h
  have H' := Aside0.mk H
  clear H
  go_enter Try.func24, Try.ntmps24
  go_wp2
  go_loopg [2, 9] k (fun kq v2 v9 w' => ∃ (x2_1 : List Int) (x9_1 : Int), v9 = .int .i64 x9_1 ∧ Aside0 (frame_numbers.l0 kq x2_1 l0 (l0.length : Int) x9_1 = some r) ∧ Aside0 (kq ≤ k) ∧ Aside0 (Kd.R (Kd.int .u8) 5 w' w.heap.size (fun _ => True) v2 x2_1) ∧ Aside0 (Below w.heap.size w w'))
  case atStart => exact ⟨(([] : List Int)), (0), (by first | rfl | (simp; done) | (simp [*]; done)), H', ⟨Nat.le_refl _⟩, ⟨by first | exact Kd.R_nil .. | exact Kd.N_nil .. | exact Kd.V_nil .. | exact Kd.Q_nil .. | exact Kd.S_nil _ _ _ _ _⟩, ⟨by repeat (first | (with_reducible first | exact HB.out | apply below_alloc | apply pw_below_drewN | apply below_drew1) | exact HB.out)⟩⟩
  case round =>
    clear H'
    obtain ⟨x2_1, x9_1, rfl, HA, HK1, HO_2, HB⟩ := hrel
    cases gk with
    | zero => exact absurd HA.out (by simp [frame_numbers.l0])
    | succ k1 =>
      have H := HA.out
      clear HA
      simp only [frame_numbers.l0] at H
      by_cases c2 : x9_1 < (l0.length : Int)
      · rw [if_pos c2] at H
        have c2b0 : decide (x9_1 < (l0.length : Int)) = true := decide_eq_true c2
        clear c2
        by_cases c3 : 0 ≤ x9_1
        · rw [if_pos c3] at H
          have c3b0 : decide (0 ≤ x9_1) = true := decide_eq_true c3
          clear c3
          by_cases c4 : x9_1 < (l0.length : Int)
          · rw [if_pos c4] at H
            have c4b0 : decide (x9_1 < (l0.length : Int)) = true := decide_eq_true c4
            clear c4
            replace H := Option.bind_eq_some_iff.mp H
            obtain ⟨⟨t112, t113⟩, A50, H⟩ := H
            replace H : (if x2_1.length + t112.length < 140737488355328 then (frame_numbers.l0 k1 (x2_1 ++ t112) l0 (l0.length : Int) (wrap64 (x9_1 + 1))) else (none)) = some r := H
            have A5 := Aside0.mk A50
            clear A50
            by_cases c6 : x2_1.length + t112.length < 140737488355328
            · rw [if_pos c6] at H
              have LMc6 := Aside0.mk c6
              clear c6
              obtain ⟨y116, hy116⟩ : ∃ y_ : List Int, y_ = (x2_1 ++ t112) := ⟨_, rfl⟩
              replace H : (frame_numbers.l0 k1 y116 l0 (l0.length : Int) (wrap64 (x9_1 + 1))) = some r := by first | (rw [hy116]; with_reducible exact H) | (have H2_ := (Option.bind_some _ _).symm.trans H; rw [hy116]; with_reducible exact H2_) | (have H2_ := (Option.bind_some _ _).symm.trans H; with_reducible exact H2_) | with_reducible exact H | (rw [hy116]; exact H) | exact H
              have Ny116 := Aside0.mk hy116
              clear hy116
              have H' := Aside0.mk H
              clear H
              have p111 : 0 ≤ (x9_1 : Int) := of_decide_eq_true (by first | (with_reducible assumption) | assumption)
              have q111 : x9_1 < (l0.length : Int) := of_decide_eq_true (by first | (with_reducible assumption) | assumption)
              obtain ⟨ad111, e111, hx111_0⟩ := Kd.at_int HR0.out x9_1 p111 q111
              cases e111
              replace hx111_0 := (HB.out.cell (World.block_lt_of_cell? w _ hx111_0)).trans hx111_0
              replace p111 := eq_true p111
              replace q111 := eq_true q111
              go_wp2_with (first | ((with_reducible refine gate_callee (f := 37) rfl ?_); refine goesL_ (some 15) rfl rfl Try.func37 (by kernel_rfl) rfl #[.int .u64 (rd l0 x9_1)] rfl (by (try simp only [List.map_toArray, List.map_cons, List.map_nil]); first | done | rfl | (simp only [List.length_drop, List.length_take]; rfl)) ?_; (with_reducible refine (varint_Put.calls k1 (rd l0 x9_1) t112 t113 _ A5.out).mono ?_); rintro e w7 ⟨v114, rfl, ho0, hb⟩; refine ⟨_, rfl, ?_⟩; have n0_ := Aside0.mk (Kd.R_elder' (by (with_reducible repeat (first | apply Kd.R_alloc | apply Kd.R_drewN | apply Kd.R_drew)); exact HO_2.out) (Kd.R_base ho0) hb); have n1_ := Aside0.mk (Kd.R_lower (Kd.R_new' ho0 (Kd.R_lt (by (with_reducible repeat (first | apply Kd.R_alloc | apply Kd.R_drewN | apply Kd.R_drew)); exact HO_2.out))) (below_size (by repeat (first | (with_reducible first | exact HB.out | apply below_alloc | apply pw_below_drewN | apply below_drew1) | exact HB.out)))); have n2_ := Aside0.mk (below_step (by repeat (first | (with_reducible first | exact HB.out | apply below_alloc | apply pw_below_drewN | apply below_drew1) | exact HB.out)) hb); clear HO_2; clear HB; have HO_2 := n0_; have HO115 := n1_; have HB := n2_; clear n0_ n1_ n2_; (try clear hb); (try clear hb2); (try clear hk); (try clear hi); (try clear ho0); obtain ⟨Ao9, co9, eo9⟩ := Kd.R_slice HO115.out; subst eo9) | ((with_reducible refine gate_builtin (b := .append) (xs := #[.tmp 18, .tmp 19]) rfl ?_); at_builtin; refine Kd.R_append_rows (Kd.int .u8) (w0 := w) w.heap.size rfl (.tmp 18) (.tmp 19) 24 5 (.int .u8 0) 1 rfl Try.underlying24 info5 rfl (by decide) (by omega) u2 x2_1 t112 _ _ _ (fun k_ => some k_ ≠ (.slice Ao9 t112.length co9 : Value).ownBlock) (fun _ => False) rfl rfl ?aO ?aR (fun _ _ h => h) (fun _ h => h.elim) ?aF ?aB ?aS ?aL ?_; (case aR => repeat (first | exact (Kd.R_reads' HO115.out).2.2 | (with_reducible refine Kd.C_alloc ?_ _) | (with_reducible refine Kd.C_drewN ?_ _) | (with_reducible refine Kd.C_drew ?_))); (case aB => exact (by repeat (first | (with_reducible first | exact HB.out | apply below_alloc | apply pw_below_drewN | apply below_drew1) | exact HB.out))); (case aF => exact (fun k_ hk => Kd.fresh' (Kd.R_lt (by (with_reducible repeat (first | apply Kd.R_alloc | apply Kd.R_drewN | apply Kd.R_drew)); exact HO115.out)) k_ hk)); (case aO => exact (by (with_reducible repeat (first | apply Kd.R_alloc | apply Kd.R_drewN | apply Kd.R_drew)); exact Kd.R_mono HO_2.out (fun _ hk => hk.2))); (case aS => exact (below_size (by repeat (first | (with_reducible first | exact HB.out | apply below_alloc | apply pw_below_drewN | apply below_drew1) | exact HB.out)))); (case aL => have := LMc6.out; omega); intro v117 w8 ho hb hg hat; rw [← Ny116.out] at ho; have n0_ := Aside0.mk (Kd.R_after (ok := (fun _ => True)) (by (with_reducible repeat (first | apply Kd.R_alloc | apply Kd.R_drewN | apply Kd.R_drew)); exact HO115.out) hg hat); have n1_ := Aside0.mk (hb); have n2_ := Aside0.mk (ho); clear HO115; clear HB; clear HO_2; have HO115 := n0_; have HB := n1_; have HO118 := n2_; clear n0_ n1_ n2_; clear ho hb hg hat))
              go_roundg k1
              case measure => have := HK1.out; omega
              case rel => exact ⟨(y116), (wrap64 (x9_1 + 1)), (by first | rfl | (simp; done) | (simp [*]; done)), H', ⟨by have := HK1.out; omega⟩, ⟨by (with_reducible repeat (first | apply Kd.R_alloc | apply Kd.R_drewN | apply Kd.R_drew)); exact Kd.R_mono HO118.out (fun _ hk => trivial)⟩, ⟨by repeat (first | (with_reducible first | exact HB.out | apply below_alloc | apply pw_below_drewN | apply below_drew1) | exact HB.out)⟩⟩
            · rw [if_neg c6] at H
              exact absurd H (by simp)
          · rw [if_neg c4] at H
            exact absurd H (by simp)
        · rw [if_neg c3] at H
          exact absurd H (by simp)
      · rw [if_neg c2] at H
        have c2b0 : decide (x9_1 < (l0.length : Int)) = false := decide_eq_false c2
        clear c2
        obtain rfl := Option.some.inj H
        go_wp2
        go_ret
        exact ⟨_, by first | rfl | (simp [errW_none, errW_some] <;> rfl) | (simp [*, errW_none, errW_some] <;> rfl), by (with_reducible repeat (first | apply Kd.R_alloc | apply Kd.R_drewN | apply Kd.R_drew)); exact HO_2.out, by repeat (first | (with_reducible first | exact HB.out | apply below_alloc | apply pw_below_drewN | apply below_drew1) | exact HB.out)⟩
attribute [local go_sem] max2_int min2_int max_two min_two max_three min_three max_four min_four   -- for this text's walks alone
set_option linter.unusedVariables false
set_option linter.unusedSimpArgs false
theorem eqA47 (d : Nat) (w : World) (x0 y0 : Int) (x1 y1 : Int) :
    (Op.equalIn (d + 2) 47 (.agg #[.int .u64 x0, .int .u64 x1]) (.agg #[.int .u64 y0, .int .u64 y1])).run Try.prog w = .ok (x0 == y0 && (x1 == y1)) w := by
  refine eqA_of Try.underlying47 (by kernel_rfl) ?_
  refine eqf_cons (by rfl) (by go_simp; rfl) (by go_simp; rfl) (by go_simp) ?_
  exact eqf_last (by rfl) (by go_simp; rfl) (by go_simp; rfl) (by go_simp)
end Go.Proofs.Ytphakdfholkbdaa.PFra
end
