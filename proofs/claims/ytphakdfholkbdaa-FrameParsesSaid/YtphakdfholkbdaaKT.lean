/- Several texts of this claim in one: PFrax25 PFrax26 PFrax27 PFrax29 PFrax30 -/
import Derived.Test.YtphakdfholkbdaaKA
import Derived.Test.YtphakdfholkbdaaKB
section
namespace Go.Proofs.Ytphakdfholkbdaa.PFra
open Go.RowKit Go.Proofs.YtphakdfholkbdaaW.PrintWords Go.Proofs.YtphakdfholkbdaaW.PrintLast Go.Proofs.YtphakdfholkbdaaW.PrintMore
set_option linter.unusedVariables false
set_option linter.unusedSimpArgs false
set_option maxRecDepth 100000
set_option maxHeartbeats 4000000
theorem wigwagref03_Get.way1 (x0 : Int) (t : List Int) (A : Option Addr) (c : Nat) (w : World) (a0 : 0 ≤ x0) (b0 : x0 < 256) (hq : x0 / 64 = 0) (hr : Kd.C (Kd.int .u8) w A (x0 :: t).length (x0 :: t)) (hc : (x0 :: t).length ≤ c) :
    Calls Try.prog 35 #[.slice A (x0 :: t).length c] w fun e w' => e = .returned (.tuple #[.int .u64 (x0 % 64), .int .i64 1, .int .i64 0]) ∧ Drawn0 w w' := by
  obtain ⟨L, hL⟩ : ∃ L, L = (x0 :: t) := ⟨_, rfl⟩
  rw [← hL] at hr hc ⊢
  have hn : 1 ≤ L.length := by rw [hL]; simp
  have r0 : rd L 0 = x0 := by rw [hL]; rfl
  obtain ⟨ad, e0, c0⟩ := Kd.at_int hr 0 (by omega) (by omega)
  cases e0
  rw [show ((0 : Int)).toNat = 0 from rfl, Addr.add_zero', r0] at c0
  have p1 : ((L.length : Int) == 0) = false := beq_eq_false_iff_ne.mpr (by omega)
  have p1' : ((L.length : Int) != 0) = true := bne_iff_ne.mpr (by omega)
  have p2 : decide ((L.length : Int) < 1) = false := decide_eq_false (by omega)
  have p4 : (0 < L.length) = True := eq_true (by omega)
  have t1 : Int.tdiv x0 64 = 0 := by rw [Int.tdiv_eq_ediv_of_nonneg a0]; exact hq
  have t2 : Int.tmod x0 64 = x0 % 64 := Int.tmod_eq_emod_of_nonneg a0
  have t3 : IntKind.u64.wrap (x0 % 64) = x0 % 64 := w64 ⟨by omega, by omega⟩
  clear hL hn hr hc
  go_enter Try.func35, Try.ntmps35
  go_wp2
  go_rounds 1
  go_ret3
  refine ⟨?_, by repeat (first | exact Drawn0.refl _ | apply Drawn0.step)⟩
  show Ending.returned (.tuple #[.int .u64 (x0 % 64), .int .i64 1, .int .i64 0]) = _
  rfl
theorem wigwagref03_Get.way2 (x0 x1 : Int) (t : List Int) (A : Option Addr) (c : Nat) (w : World) (a0 : 0 ≤ x0) (b0 : x0 < 256) (a1 : 0 ≤ x1) (b1 : x1 < 256) (hq : x0 / 64 = 1) (hr : Kd.C (Kd.int .u8) w A (x0 :: x1 :: t).length (x0 :: x1 :: t)) (hc : (x0 :: x1 :: t).length ≤ c) :
    Calls Try.prog 35 #[.slice A (x0 :: x1 :: t).length c] w fun e w' => e = .returned (.tuple #[.int .u64 ((x0 % 64) * 256 + x1), .int .i64 2, .int .i64 0]) ∧ Drawn0 w w' := by
  obtain ⟨L, hL⟩ : ∃ L, L = (x0 :: x1 :: t) := ⟨_, rfl⟩
  rw [← hL] at hr hc ⊢
  have hn : 2 ≤ L.length := by rw [hL]; simp
  have r0 : rd L 0 = x0 := by rw [hL]; rfl
  have r1 : rd L 1 = x1 := by rw [hL]; rfl
  obtain ⟨ad, e0, c0⟩ := Kd.at_int hr 0 (by omega) (by omega)
  cases e0
  rw [show ((0 : Int)).toNat = 0 from rfl, Addr.add_zero', r0] at c0
  obtain ⟨ad1, e1, c1⟩ := Kd.at_int hr 1 (by omega) (by omega)
  obtain rfl : ad = ad1 := (by injection e1)
  rw [r1] at c1
  clear e1
  replace c1 : w.cell? ⟨ad.block, ad.off + 1, none⟩ = some (.int .u8 x1) := c1
  have p1 : ((L.length : Int) == 0) = false := beq_eq_false_iff_ne.mpr (by omega)
  have p1' : ((L.length : Int) != 0) = true := bne_iff_ne.mpr (by omega)
  have p2 : decide ((L.length : Int) < 2) = false := decide_eq_false (by omega)
  have p4 : (0 < L.length) = True := eq_true (by omega)
  have s1 : (1 < (L.length : Int)) = True := eq_true (by omega)
  have t1 : Int.tdiv x0 64 = 1 := by rw [Int.tdiv_eq_ediv_of_nonneg a0]; exact hq
  have t2 : Int.tmod x0 64 = x0 % 64 := Int.tmod_eq_emod_of_nonneg a0
  have t3 : IntKind.u64.wrap (x0 % 64) = x0 % 64 := w64 ⟨by omega, by omega⟩
  clear hL hn hr hc
  go_enter Try.func35, Try.ntmps35
  go_wp2
  go_rounds 2
  go_ret3
  refine ⟨?_, by repeat (first | exact Drawn0.refl _ | apply Drawn0.step)⟩
  show Ending.returned (.tuple #[.int .u64 ((x0 % 64) * 256 + x1), .int .i64 2, .int .i64 0]) = _
  rfl
theorem wigwagref03_Get.way4 (x0 x1 x2 x3 : Int) (t : List Int) (A : Option Addr) (c : Nat) (w : World) (a0 : 0 ≤ x0) (b0 : x0 < 256) (a1 : 0 ≤ x1) (b1 : x1 < 256) (a2 : 0 ≤ x2) (b2 : x2 < 256) (a3 : 0 ≤ x3) (b3 : x3 < 256) (hq : x0 / 64 = 2) (hr : Kd.C (Kd.int .u8) w A (x0 :: x1 :: x2 :: x3 :: t).length (x0 :: x1 :: x2 :: x3 :: t)) (hc : (x0 :: x1 :: x2 :: x3 :: t).length ≤ c) :
    Calls Try.prog 35 #[.slice A (x0 :: x1 :: x2 :: x3 :: t).length c] w fun e w' => e = .returned (.tuple #[.int .u64 ((((x0 % 64) * 256 + x1) * 256 + x2) * 256 + x3), .int .i64 4, .int .i64 0]) ∧ Drawn0 w w' := by
  obtain ⟨L, hL⟩ : ∃ L, L = (x0 :: x1 :: x2 :: x3 :: t) := ⟨_, rfl⟩
  rw [← hL] at hr hc ⊢
  have hn : 4 ≤ L.length := by rw [hL]; simp
  have r0 : rd L 0 = x0 := by rw [hL]; rfl
  have r1 : rd L 1 = x1 := by rw [hL]; rfl
  have r2 : rd L 2 = x2 := by rw [hL]; rfl
  have r3 : rd L 3 = x3 := by rw [hL]; rfl
  obtain ⟨ad, e0, c0⟩ := Kd.at_int hr 0 (by omega) (by omega)
  cases e0
  rw [show ((0 : Int)).toNat = 0 from rfl, Addr.add_zero', r0] at c0
  obtain ⟨ad1, e1, c1⟩ := Kd.at_int hr 1 (by omega) (by omega)
  obtain rfl : ad = ad1 := (by injection e1)
  rw [r1] at c1
  clear e1
  replace c1 : w.cell? ⟨ad.block, ad.off + 1, none⟩ = some (.int .u8 x1) := c1
  obtain ⟨ad2, e2, c2⟩ := Kd.at_int hr 2 (by omega) (by omega)
  obtain rfl : ad = ad2 := (by injection e2)
  rw [r2] at c2
  clear e2
  replace c2 : w.cell? ⟨ad.block, ad.off + 2, none⟩ = some (.int .u8 x2) := c2
  obtain ⟨ad3, e3, c3⟩ := Kd.at_int hr 3 (by omega) (by omega)
  obtain rfl : ad = ad3 := (by injection e3)
  rw [r3] at c3
  clear e3
  replace c3 : w.cell? ⟨ad.block, ad.off + 3, none⟩ = some (.int .u8 x3) := c3
  have p1 : ((L.length : Int) == 0) = false := beq_eq_false_iff_ne.mpr (by omega)
  have p1' : ((L.length : Int) != 0) = true := bne_iff_ne.mpr (by omega)
  have p2 : decide ((L.length : Int) < 4) = false := decide_eq_false (by omega)
  have p4 : (0 < L.length) = True := eq_true (by omega)
  have s1 : (1 < (L.length : Int)) = True := eq_true (by omega)
  have s2 : (2 < (L.length : Int)) = True := eq_true (by omega)
  have s3 : (3 < (L.length : Int)) = True := eq_true (by omega)
  have t1 : Int.tdiv x0 64 = 2 := by rw [Int.tdiv_eq_ediv_of_nonneg a0]; exact hq
  have t2 : Int.tmod x0 64 = x0 % 64 := Int.tmod_eq_emod_of_nonneg a0
  have t3 : IntKind.u64.wrap (x0 % 64) = x0 % 64 := w64 ⟨by omega, by omega⟩
  clear hL hn hr hc
  go_enter Try.func35, Try.ntmps35
  go_wp2
  go_rounds 4
  go_ret3
  refine ⟨?_, by repeat (first | exact Drawn0.refl _ | apply Drawn0.step)⟩
  show Ending.returned (.tuple #[.int .u64 ((((x0 % 64) * 256 + x1) * 256 + x2) * 256 + x3), .int .i64 4, .int .i64 0]) = _
  rfl
theorem wigwagref03_Get.way8 (x0 x1 x2 x3 x4 x5 x6 x7 : Int) (t : List Int) (A : Option Addr) (c : Nat) (w : World) (a0 : 0 ≤ x0) (b0 : x0 < 256) (a1 : 0 ≤ x1) (b1 : x1 < 256) (a2 : 0 ≤ x2) (b2 : x2 < 256) (a3 : 0 ≤ x3) (b3 : x3 < 256) (a4 : 0 ≤ x4) (b4 : x4 < 256) (a5 : 0 ≤ x5) (b5 : x5 < 256) (a6 : 0 ≤ x6) (b6 : x6 < 256) (a7 : 0 ≤ x7) (b7 : x7 < 256) (hq : x0 / 64 = 3) (hr : Kd.C (Kd.int .u8) w A (x0 :: x1 :: x2 :: x3 :: x4 :: x5 :: x6 :: x7 :: t).length (x0 :: x1 :: x2 :: x3 :: x4 :: x5 :: x6 :: x7 :: t)) (hc : (x0 :: x1 :: x2 :: x3 :: x4 :: x5 :: x6 :: x7 :: t).length ≤ c) :
    Calls Try.prog 35 #[.slice A (x0 :: x1 :: x2 :: x3 :: x4 :: x5 :: x6 :: x7 :: t).length c] w fun e w' => e = .returned (.tuple #[.int .u64 ((((((((x0 % 64) * 256 + x1) * 256 + x2) * 256 + x3) * 256 + x4) * 256 + x5) * 256 + x6) * 256 + x7), .int .i64 8, .int .i64 0]) ∧ Drawn0 w w' := by
  obtain ⟨L, hL⟩ : ∃ L, L = (x0 :: x1 :: x2 :: x3 :: x4 :: x5 :: x6 :: x7 :: t) := ⟨_, rfl⟩
  rw [← hL] at hr hc ⊢
  have hn : 8 ≤ L.length := by rw [hL]; simp
  have r0 : rd L 0 = x0 := by rw [hL]; rfl
  have r1 : rd L 1 = x1 := by rw [hL]; rfl
  have r2 : rd L 2 = x2 := by rw [hL]; rfl
  have r3 : rd L 3 = x3 := by rw [hL]; rfl
  have r4 : rd L 4 = x4 := by rw [hL]; rfl
  have r5 : rd L 5 = x5 := by rw [hL]; rfl
  have r6 : rd L 6 = x6 := by rw [hL]; rfl
  have r7 : rd L 7 = x7 := by rw [hL]; rfl
  obtain ⟨ad, e0, c0⟩ := Kd.at_int hr 0 (by omega) (by omega)
  cases e0
  rw [show ((0 : Int)).toNat = 0 from rfl, Addr.add_zero', r0] at c0
  obtain ⟨ad1, e1, c1⟩ := Kd.at_int hr 1 (by omega) (by omega)
  obtain rfl : ad = ad1 := (by injection e1)
  rw [r1] at c1
  clear e1
  replace c1 : w.cell? ⟨ad.block, ad.off + 1, none⟩ = some (.int .u8 x1) := c1
  obtain ⟨ad2, e2, c2⟩ := Kd.at_int hr 2 (by omega) (by omega)
  obtain rfl : ad = ad2 := (by injection e2)
  rw [r2] at c2
  clear e2
  replace c2 : w.cell? ⟨ad.block, ad.off + 2, none⟩ = some (.int .u8 x2) := c2
  obtain ⟨ad3, e3, c3⟩ := Kd.at_int hr 3 (by omega) (by omega)
  obtain rfl : ad = ad3 := (by injection e3)
  rw [r3] at c3
  clear e3
  replace c3 : w.cell? ⟨ad.block, ad.off + 3, none⟩ = some (.int .u8 x3) := c3
  obtain ⟨ad4, e4, c4⟩ := Kd.at_int hr 4 (by omega) (by omega)
  obtain rfl : ad = ad4 := (by injection e4)
  rw [r4] at c4
  clear e4
  replace c4 : w.cell? ⟨ad.block, ad.off + 4, none⟩ = some (.int .u8 x4) := c4
  obtain ⟨ad5, e5, c5⟩ := Kd.at_int hr 5 (by omega) (by omega)
  obtain rfl : ad = ad5 := (by injection e5)
  rw [r5] at c5
  clear e5
  replace c5 : w.cell? ⟨ad.block, ad.off + 5, none⟩ = some (.int .u8 x5) := c5
  obtain ⟨ad6, e6, c6⟩ := Kd.at_int hr 6 (by omega) (by omega)
  obtain rfl : ad = ad6 := (by injection e6)
  rw [r6] at c6
  clear e6
  replace c6 : w.cell? ⟨ad.block, ad.off + 6, none⟩ = some (.int .u8 x6) := c6
  obtain ⟨ad7, e7, c7⟩ := Kd.at_int hr 7 (by omega) (by omega)
  obtain rfl : ad = ad7 := (by injection e7)
  rw [r7] at c7
  clear e7
  replace c7 : w.cell? ⟨ad.block, ad.off + 7, none⟩ = some (.int .u8 x7) := c7
  have p1 : ((L.length : Int) == 0) = false := beq_eq_false_iff_ne.mpr (by omega)
  have p1' : ((L.length : Int) != 0) = true := bne_iff_ne.mpr (by omega)
  have p2 : decide ((L.length : Int) < 8) = false := decide_eq_false (by omega)
  have p4 : (0 < L.length) = True := eq_true (by omega)
  have s1 : (1 < (L.length : Int)) = True := eq_true (by omega)
  have s2 : (2 < (L.length : Int)) = True := eq_true (by omega)
  have s3 : (3 < (L.length : Int)) = True := eq_true (by omega)
  have s4 : (4 < (L.length : Int)) = True := eq_true (by omega)
  have s5 : (5 < (L.length : Int)) = True := eq_true (by omega)
  have s6 : (6 < (L.length : Int)) = True := eq_true (by omega)
  have s7 : (7 < (L.length : Int)) = True := eq_true (by omega)
  have t1 : Int.tdiv x0 64 = 3 := by rw [Int.tdiv_eq_ediv_of_nonneg a0]; exact hq
  have t2 : Int.tmod x0 64 = x0 % 64 := Int.tmod_eq_emod_of_nonneg a0
  have t3 : IntKind.u64.wrap (x0 % 64) = x0 % 64 := w64 ⟨by omega, by omega⟩
  clear hL hn hr hc
  go_enter Try.func35, Try.ntmps35
  go_wp2
  go_rounds 8
  go_ret3
  refine ⟨?_, by repeat (first | exact Drawn0.refl _ | apply Drawn0.step)⟩
  show Ending.returned (.tuple #[.int .u64 ((((((((x0 % 64) * 256 + x1) * 256 + x2) * 256 + x3) * 256 + x4) * 256 + x5) * 256 + x6) * 256 + x7), .int .i64 8, .int .i64 0]) = _
  rfl
theorem wigwagref03_Get.short2 (L : List Int) (x0 : Int) (h0 : rd L 0 = x0) (a0 : 0 ≤ x0) (b0 : x0 < 256) (hq : x0 / 64 = 1) (A : Option Addr) (c : Nat) (w : World) (hn : 0 < L.length) (hs : L.length < 2) (hr : Kd.C (Kd.int .u8) w A L.length L) :
    Calls Try.prog 35 #[.slice A L.length c] w fun e w' => e = .returned (.tuple #[.int .u64 0, .int .i64 0, .int .i64 30]) ∧ Drawn0 w w' := by
  obtain ⟨ad, e0, c0⟩ := Kd.at_int hr 0 (by omega) (by omega)
  cases e0
  rw [show ((0 : Int)).toNat = 0 from rfl, Addr.add_zero', h0] at c0
  have p1 : ((L.length : Int) == 0) = false := beq_eq_false_iff_ne.mpr (by omega)
  have p1' : ((L.length : Int) != 0) = true := bne_iff_ne.mpr (by omega)
  have p2 : decide ((L.length : Int) < 2) = true := decide_eq_true (by omega)
  have p4 : (0 < L.length) = True := eq_true (by omega)
  have p5 : L ≠ [] := fun h => by simp [h] at hn
  clear hn hr h0 hs
  go_enter Try.func35, Try.ntmps35
  go_wp2
  go_ret3
  exact ⟨rfl, by repeat (first | exact Drawn0.refl _ | apply Drawn0.step)⟩
theorem wigwagref03_Get.short4 (L : List Int) (x0 : Int) (h0 : rd L 0 = x0) (a0 : 0 ≤ x0) (b0 : x0 < 256) (hq : x0 / 64 = 2) (A : Option Addr) (c : Nat) (w : World) (hn : 0 < L.length) (hs : L.length < 4) (hr : Kd.C (Kd.int .u8) w A L.length L) :
    Calls Try.prog 35 #[.slice A L.length c] w fun e w' => e = .returned (.tuple #[.int .u64 0, .int .i64 0, .int .i64 30]) ∧ Drawn0 w w' := by
  obtain ⟨ad, e0, c0⟩ := Kd.at_int hr 0 (by omega) (by omega)
  cases e0
  rw [show ((0 : Int)).toNat = 0 from rfl, Addr.add_zero', h0] at c0
  have p1 : ((L.length : Int) == 0) = false := beq_eq_false_iff_ne.mpr (by omega)
  have p1' : ((L.length : Int) != 0) = true := bne_iff_ne.mpr (by omega)
  have p2 : decide ((L.length : Int) < 4) = true := decide_eq_true (by omega)
  have p4 : (0 < L.length) = True := eq_true (by omega)
  have p5 : L ≠ [] := fun h => by simp [h] at hn
  clear hn hr h0 hs
  go_enter Try.func35, Try.ntmps35
  go_wp2
  go_ret3
  exact ⟨rfl, by repeat (first | exact Drawn0.refl _ | apply Drawn0.step)⟩
theorem wigwagref03_Get.short8 (L : List Int) (x0 : Int) (h0 : rd L 0 = x0) (a0 : 0 ≤ x0) (b0 : x0 < 256) (hq : x0 / 64 = 3) (A : Option Addr) (c : Nat) (w : World) (hn : 0 < L.length) (hs : L.length < 8) (hr : Kd.C (Kd.int .u8) w A L.length L) :
    Calls Try.prog 35 #[.slice A L.length c] w fun e w' => e = .returned (.tuple #[.int .u64 0, .int .i64 0, .int .i64 30]) ∧ Drawn0 w w' := by
  obtain ⟨ad, e0, c0⟩ := Kd.at_int hr 0 (by omega) (by omega)
  cases e0
  rw [show ((0 : Int)).toNat = 0 from rfl, Addr.add_zero', h0] at c0
  have p1 : ((L.length : Int) == 0) = false := beq_eq_false_iff_ne.mpr (by omega)
  have p1' : ((L.length : Int) != 0) = true := bne_iff_ne.mpr (by omega)
  have p2 : decide ((L.length : Int) < 8) = true := decide_eq_true (by omega)
  have p4 : (0 < L.length) = True := eq_true (by omega)
  have p5 : L ≠ [] := fun h => by simp [h] at hn
  clear hn hr h0 hs
  go_enter Try.func35, Try.ntmps35
  go_wp2
  go_ret3
  exact ⟨rfl, by repeat (first | exact Drawn0.refl _ | apply Drawn0.step)⟩
theorem wigwagref03_Get.nil0 (A : Option Addr) (c : Nat) (w : World) : Calls Try.prog 35 #[.slice A 0 c] w fun e w' => e = .returned (.tuple #[.int .u64 0, .int .i64 0, .int .i64 30]) ∧ Drawn0 w w' := by
  go_enter Try.func35, Try.ntmps35
  go_wp2
  go_ret3
  exact ⟨rfl, by repeat (first | exact Drawn0.refl _ | apply Drawn0.step)⟩
def wigwagref03_Get.f (l0 : List Int) : Option (Int × Int × Int) := if bytesOk l0 = true then some (uGet l0) else none
theorem wigwagref03_Get.calls (A0 : Option Addr) (c0 : Nat) (l0 : List Int) (r1 : Int) (r2 : Int) (r3 : Int) (w : World) (hr0 : Kd.C (Kd.int .u8) w A0 l0.length l0) (hc0 : l0.length ≤ c0) (h : wigwagref03_Get.f l0 = some (r1, r2, r3)) :
    Calls Try.prog 35 #[.slice A0 l0.length c0] w fun e w' => e = .returned (.tuple #[.int .u64 r1, .int .i64 r2, .int .i64 r3]) ∧ Drawn0 w w' := by
  unfold wigwagref03_Get.f at h
  by_cases hb : bytesOk l0 = true
  · rw [if_pos hb] at h
    have h := Option.some.inj h
    have hB : ∀ x ∈ l0, 0 ≤ x ∧ x < 256 := fun x hx => by have := List.all_eq_true.1 hb x hx; simpa using this
    unfold uGet at h
    cases hl : l0 with
    | nil => subst hl; simp at h; obtain ⟨rfl, rfl, rfl⟩ := h; exact wigwagref03_Get.nil0 A0 c0 w
    | cons x0 t =>
      have h0 := hB x0 (by rw [hl]; simp)
      rw [← hl]
      have hp : 0 < l0.length := by rw [hl]; simp
      have r0 : rd l0 0 = x0 := by rw [hl]; rfl
      rw [if_neg (by omega)] at h
      have hN : uGetN l0 = 2 ^ (x0 / 64).toNat := by unfold uGetN; rw [r0]
      rcases (by omega : x0 / 64 = 0 ∨ x0 / 64 = 1 ∨ x0 / 64 = 2 ∨ x0 / 64 = 3) with hq | hq | hq | hq
      · replace hN : uGetN l0 = 1 := by rw [hN, hq]; rfl
        rw [hN] at h
        · rw [if_neg (by omega)] at h; simp only [Prod.mk.injEq] at h; obtain ⟨rfl, rfl, rfl⟩ := h
          have hv : uGetV l0 = x0 % 64 := by unfold uGetV; rw [hN, r0, hl]; rfl
          rw [hv]; subst hl
          exact wigwagref03_Get.way1 x0 t A0 c0 w h0.1 h0.2 hq hr0 hc0
      · replace hN : uGetN l0 = 2 := by rw [hN, hq]; rfl
        rw [hN] at h
        by_cases hs : l0.length < 2
        · rw [if_pos hs] at h; simp only [Prod.mk.injEq] at h; obtain ⟨rfl, rfl, rfl⟩ := h; exact wigwagref03_Get.short2 l0 x0 r0 h0.1 h0.2 hq A0 c0 w hp hs hr0
        · rw [if_neg hs] at h; simp only [Prod.mk.injEq] at h; obtain ⟨rfl, rfl, rfl⟩ := h
          cases h1_ : t with
          | nil => exact absurd hs (by rw [hl, h1_]; simp)
          | cons x1 t2 =>
            have h1 := hB x1 (by rw [hl, h1_]; simp)
            rw [h1_] at hl
            have hv : uGetV l0 = (x0 % 64) * 256 + x1 := by unfold uGetV; rw [hN, r0, hl]; rfl
            rw [hv]; subst hl
            exact wigwagref03_Get.way2 x0 x1 t2 A0 c0 w h0.1 h0.2 h1.1 h1.2 hq hr0 hc0
      · replace hN : uGetN l0 = 4 := by rw [hN, hq]; rfl
        rw [hN] at h
        by_cases hs : l0.length < 4
        · rw [if_pos hs] at h; simp only [Prod.mk.injEq] at h; obtain ⟨rfl, rfl, rfl⟩ := h; exact wigwagref03_Get.short4 l0 x0 r0 h0.1 h0.2 hq A0 c0 w hp hs hr0
        · rw [if_neg hs] at h; simp only [Prod.mk.injEq] at h; obtain ⟨rfl, rfl, rfl⟩ := h
          cases h1_ : t with
          | nil => exact absurd hs (by rw [hl, h1_]; simp)
          | cons x1 t2 =>
            have h1 := hB x1 (by rw [hl, h1_]; simp)
            cases h2_ : t2 with
            | nil => exact absurd hs (by rw [hl, h1_, h2_]; simp)
            | cons x2 t3 =>
              have h2 := hB x2 (by rw [hl, h1_, h2_]; simp)
              cases h3_ : t3 with
              | nil => exact absurd hs (by rw [hl, h1_, h2_, h3_]; simp)
              | cons x3 t4 =>
                have h3 := hB x3 (by rw [hl, h1_, h2_, h3_]; simp)
                rw [h1_, h2_, h3_] at hl
                have hv : uGetV l0 = (((x0 % 64) * 256 + x1) * 256 + x2) * 256 + x3 := by unfold uGetV; rw [hN, r0, hl]; rfl
                rw [hv]; subst hl
                exact wigwagref03_Get.way4 x0 x1 x2 x3 t4 A0 c0 w h0.1 h0.2 h1.1 h1.2 h2.1 h2.2 h3.1 h3.2 hq hr0 hc0
      · replace hN : uGetN l0 = 8 := by rw [hN, hq]; rfl
        rw [hN] at h
        by_cases hs : l0.length < 8
        · rw [if_pos hs] at h; simp only [Prod.mk.injEq] at h; obtain ⟨rfl, rfl, rfl⟩ := h; exact wigwagref03_Get.short8 l0 x0 r0 h0.1 h0.2 hq A0 c0 w hp hs hr0
        · rw [if_neg hs] at h; simp only [Prod.mk.injEq] at h; obtain ⟨rfl, rfl, rfl⟩ := h
          cases h1_ : t with
          | nil => exact absurd hs (by rw [hl, h1_]; simp)
          | cons x1 t2 =>
            have h1 := hB x1 (by rw [hl, h1_]; simp)
            cases h2_ : t2 with
            | nil => exact absurd hs (by rw [hl, h1_, h2_]; simp)
            | cons x2 t3 =>
              have h2 := hB x2 (by rw [hl, h1_, h2_]; simp)
              cases h3_ : t3 with
              | nil => exact absurd hs (by rw [hl, h1_, h2_, h3_]; simp)
              | cons x3 t4 =>
                have h3 := hB x3 (by rw [hl, h1_, h2_, h3_]; simp)
                cases h4_ : t4 with
                | nil => exact absurd hs (by rw [hl, h1_, h2_, h3_, h4_]; simp)
                | cons x4 t5 =>
                  have h4 := hB x4 (by rw [hl, h1_, h2_, h3_, h4_]; simp)
                  cases h5_ : t5 with
                  | nil => exact absurd hs (by rw [hl, h1_, h2_, h3_, h4_, h5_]; simp)
                  | cons x5 t6 =>
                    have h5 := hB x5 (by rw [hl, h1_, h2_, h3_, h4_, h5_]; simp)
                    cases h6_ : t6 with
                    | nil => exact absurd hs (by rw [hl, h1_, h2_, h3_, h4_, h5_, h6_]; simp)
                    | cons x6 t7 =>
                      have h6 := hB x6 (by rw [hl, h1_, h2_, h3_, h4_, h5_, h6_]; simp)
                      cases h7_ : t7 with
                      | nil => exact absurd hs (by rw [hl, h1_, h2_, h3_, h4_, h5_, h6_, h7_]; simp)
                      | cons x7 t8 =>
                        have h7 := hB x7 (by rw [hl, h1_, h2_, h3_, h4_, h5_, h6_, h7_]; simp)
                        rw [h1_, h2_, h3_, h4_, h5_, h6_, h7_] at hl
                        have hv : uGetV l0 = (((((((x0 % 64) * 256 + x1) * 256 + x2) * 256 + x3) * 256 + x4) * 256 + x5) * 256 + x6) * 256 + x7 := by unfold uGetV; rw [hN, r0, hl]; rfl
                        rw [hv]; subst hl
                        exact wigwagref03_Get.way8 x0 x1 x2 x3 x4 x5 x6 x7 t8 A0 c0 w h0.1 h0.2 h1.1 h1.2 h2.1 h2.2 h3.1 h3.2 h4.1 h4.2 h5.1 h5.2 h6.1 h6.2 h7.1 h7.2 hq hr0 hc0
  · rw [if_neg hb] at h; simp at h
end Go.Proofs.Ytphakdfholkbdaa.PFra
end
section
namespace Go.Proofs.Ytphakdfholkbdaa.PFra
open Go.RowKit Go.Proofs.YtphakdfholkbdaaW.PrintWords Go.Proofs.YtphakdfholkbdaaW.PrintLast Go.Proofs.YtphakdfholkbdaaW.PrintMore
attribute [local go_sem] max2_int min2_int max_two min_two max_three min_three max_four min_four   -- for this text's walks alone
set_option linter.unusedVariables false
set_option linter.unusedSimpArgs false
def wigwagref05_take.l0 : Nat → List Int → Int → List Int → Int → Int → Option (List Int × Int × Bool)
  | 0, _, _, _, _, _ => none
  | k + 1, x0, x1, x7, x8, x9 => if x9 < x1 then (if 0 ≤ x8 then (if x8 ≤ (x0.length : Int) then ((wigwagref03_Get.f (x0.drop (x8 : Int).toNat)).bind fun bt332 => (if bt332.2.2 = 0 then (if x7.length < 17592186044416 then (wigwagref05_take.l0 k x0 x1 (x7 ++ [bt332.1]) (wrap64 (x8 + bt332.2.1)) (wrap64 (x9 + 1))) else (none)) else (some (([] : List Int), 0, false)))) else (none)) else (none)) else (some (x7, x8, true))
def wigwagref05_take.f (k : Nat) (l0 : List Int) (a1 : Int) : Option (List Int × Int × Bool) := wigwagref05_take.l0 k l0 a1 ([] : List Int) 0 0
set_option maxHeartbeats 8000000 in
set_option maxRecDepth 100000 in
theorem wigwagref05_take.calls (k : Nat) (A0 : Option Addr) (c0 : Nat) (l0 : List Int) (a1 : Int) (r1 : List Int) (r2 : Int) (r3 : Bool) (w : World) (hr0 : Kd.C (Kd.int .u8) w A0 l0.length l0) (hc0 : l0.length ≤ c0) (h : wigwagref05_take.f k l0 a1 = some (r1, r2, r3)) :
    Calls Try.prog 46 #[.slice A0 l0.length c0, .int .i64 a1] w fun e w' => ∃ v0_ : Value, e = .returned (.tuple #[v0_, .int .i64 r2, .bool r3]) ∧ Kd.R (Kd.int .u64) 23 w' w.heap.size (fun _ => True) v0_ r1 ∧ Below w.heap.size w w' := by
  have HR0 := Aside0.mk hr0
  have HC0 := Aside0.mk hc0
  clear hr0 hc0
  have HB := Aside0.mk (Below.refl w.heap.size w)
  have H : (wigwagref05_take.l0 k l0 a1 ([] : List Int) 0 0) = some (r1, r2, r3) := h
  clear h
  have H' := Aside0.mk H
  clear H
  go_enter Try.func46, Try.ntmps46
  go_wp2
  go_loopg [7, 8, 9] k (fun kq v7 v8 v9 w' => ∃ (x7_1 : List Int) (x8_1 : Int) (x9_1 : Int), v8 = .int .i64 x8_1 ∧ v9 = .int .i64 x9_1 ∧ Aside0 (wigwagref05_take.l0 kq l0 a1 x7_1 x8_1 x9_1 = some (r1, r2, r3)) ∧ Aside0 (kq ≤ k) ∧ Aside0 (Kd.R (Kd.int .u64) 23 w' w.heap.size (fun _ => True) v7 x7_1) ∧ Aside0 (Below w.heap.size w w'))
  case atStart => exact ⟨(([] : List Int)), (0), (0), (by first | rfl | (simp; done) | (simp [*]; done)), (by first | rfl | (simp; done) | (simp [*]; done)), H', ⟨Nat.le_refl _⟩, ⟨by first | exact Kd.R_nil .. | exact Kd.N_nil .. | exact Kd.V_nil .. | exact Kd.Q_nil .. | exact Kd.S_nil _ _ _ _ _⟩, ⟨by repeat (first | (with_reducible first | exact HB.out | apply below_alloc | apply pw_below_drewN | apply below_drew1) | exact HB.out)⟩⟩
  case round =>
    clear H'
    try clear p2
    obtain ⟨x7_1, x8_1, x9_1, rfl, rfl, HA, HK1, HO_7, HB⟩ := hrel
    cases gk with
    | zero => exact absurd HA.out (by simp [wigwagref05_take.l0])
    | succ k1 =>
      have H := HA.out
      clear HA
      simp only [wigwagref05_take.l0] at H
      by_cases c3 : x9_1 < a1
      · rw [if_pos c3] at H
        have c3b0 : decide (x9_1 < a1) = true := decide_eq_true c3
        clear c3
        by_cases c4 : 0 ≤ x8_1
        · rw [if_pos c4] at H
          have c4b0 := eq_true c4
          have c4b1 : decide (0 ≤ x8_1) = true := decide_eq_true c4
          clear c4
          by_cases c5 : x8_1 ≤ (l0.length : Int)
          · rw [if_pos c5] at H
            have c5b0 := eq_true c5
            have c5b1 : decide (x8_1 ≤ (l0.length : Int)) = true := decide_eq_true c5
            clear c5
            replace H := Option.bind_eq_some_iff.mp H
            obtain ⟨⟨t332, t333, t334⟩, A60, H⟩ := H
            replace H : (if t334 = 0 then (if x7_1.length < 17592186044416 then (wigwagref05_take.l0 k1 l0 a1 (x7_1 ++ [t332]) (wrap64 (x8_1 + t333)) (wrap64 (x9_1 + 1))) else (none)) else (some (([] : List Int), 0, false))) = some (r1, r2, r3) := H
            have A6 := Aside0.mk A60
            clear A60
            by_cases c7 : t334 = 0
            · rw [if_pos c7] at H
              have c7b0 : (t334 == 0) = true := beq_iff_eq.mpr c7
              have c7b1 : (t334 != 0) = false := bne_eq_false_iff_eq.mpr c7
              clear c7
              by_cases c8 : x7_1.length < 17592186044416
              · rw [if_pos c8] at H
                have LMc8 := Aside0.mk c8
                clear c8
                obtain ⟨y335, hy335⟩ : ∃ y_ : List Int, y_ = (x7_1 ++ [t332]) := ⟨_, rfl⟩
                replace H : (wigwagref05_take.l0 k1 l0 a1 y335 (wrap64 (x8_1 + t333)) (wrap64 (x9_1 + 1))) = some (r1, r2, r3) := by first | (rw [hy335]; with_reducible exact H) | (have H2_ := (Option.bind_some _ _).symm.trans H; rw [hy335]; with_reducible exact H2_) | (have H2_ := (Option.bind_some _ _).symm.trans H; with_reducible exact H2_) | with_reducible exact H | (rw [hy335]; exact H) | exact H
                have Ny335 := Aside0.mk hy335
                clear hy335
                have H' := Aside0.mk H
                clear H
                obtain ⟨i09, hi09, _, hsz9, _⟩ := info_parts info5
                obtain ⟨A9, hcut9, hA9, hC9⟩ := print_drop_of (P := Try.prog) (Value.int .u8) 0 24 5 .i64 Try.underlying24 hi09 hsz9 A0 c0 l0 x8_1 (of_decide_eq_true (by first | (with_reducible assumption) | assumption)) (of_decide_eq_true (by first | (with_reducible assumption) | assumption)) HC0.out
                have HR331 := Aside0.mk (Kd.C_of_reads (h1 := fun _ => rfl) (hA9 _ (Kd.reads_of_C HR0.out)))
                have HC331 := Aside0.mk hC9
                clear hA9 hC9 hi09 hsz9
                go_wp2_with (first | ((with_reducible refine gate_callee (f := 35) rfl ?_); refine goesL_ (some 22) rfl rfl Try.func35 (by kernel_rfl) rfl #[.slice A9 (l0.drop (x8_1 : Int).toNat).length (c0 - x8_1.toNat)] rfl (by (try simp only [List.map_toArray, List.map_cons, List.map_nil]); first | done | (rw [show (l0.drop (x8_1 : Int).toNat).length = (l0.length - x8_1.toNat) from List.length_drop] <;> rfl) | rfl | (simp only [List.length_drop, List.length_take]; rfl)) ?_; (with_reducible refine (wigwagref03_Get.calls _ _ (l0.drop (x8_1 : Int).toNat) t332 t333 t334 _ ?side1 ?side2 A6.out).mono ?_); (case side1 => repeat (first | exact (Kd.C_below HR331.out HB.out) | (with_reducible refine Kd.C_alloc ?_ _) | (with_reducible refine Kd.C_drewN ?_ _) | (with_reducible refine Kd.C_drew ?_))); (case side2 => exact HC331.out); rintro e w' ⟨rfl, ⟨nd, rfl⟩⟩; refine ⟨_, rfl, ?_⟩) | ((with_reducible refine gate_builtin (b := .append) (xs := #[.tmp 28, .tmp 30]) rfl ?_); at_builtin; refine Kd.R_append (Kd.int .u64) (w0 := w) w.heap.size rfl (.tmp 28) (.tmp 30) 62 23 (.int .u64 0) 8 rfl Try.underlying62 info23 rfl (by decide) (by omega) u7 x7_1 t332 [.int .u64 t332] (fun _ => True) (fun _ => False) rfl rfl ?aP (fun _ hk => hk.elim) ?aF ?aO ?aB ?aS ?aL ?_; (case aP => exact rfl); (case aB => exact (by repeat (first | (with_reducible first | exact HB.out | apply below_alloc | apply pw_below_drewN | apply below_drew1) | exact HB.out))); (case aF => exact (fun _ _ => trivial)); (case aO => exact (by (with_reducible repeat (first | apply Kd.R_alloc | apply Kd.R_drewN | apply Kd.R_drew)); exact HO_7.out)); (case aS => exact (below_size (by repeat (first | (with_reducible first | exact HB.out | apply below_alloc | apply pw_below_drewN | apply below_drew1) | exact HB.out)))); (case aL => have := LMc8.out; omega); intro v336 w10 ho hb hg hat; rw [← Ny335.out] at ho; have n0_ := Aside0.mk (hb); have n1_ := Aside0.mk (ho); clear HB; clear HO_7; have HB := n0_; have HO337 := n1_; clear n0_ n1_; clear ho hb hg hat))
                go_roundg k1
                case measure => have := HK1.out; omega
                case rel => exact ⟨(y335), (wrap64 (x8_1 + t333)), (wrap64 (x9_1 + 1)), (by first | rfl | (simp; done) | (simp [*]; done)), (by first | rfl | (simp; done) | (simp [*]; done)), H', ⟨by have := HK1.out; omega⟩, ⟨by (with_reducible repeat (first | apply Kd.R_alloc | apply Kd.R_drewN | apply Kd.R_drew)); exact HO337.out⟩, ⟨by repeat (first | (with_reducible first | exact HB.out | apply below_alloc | apply pw_below_drewN | apply below_drew1) | exact HB.out)⟩⟩
              · rw [if_neg c8] at H
                exact absurd H (by simp)
            · rw [if_neg c7] at H
              have c7b0 : (t334 == 0) = false := beq_eq_false_iff_ne.mpr c7
              have c7b1 : (t334 != 0) = true := bne_iff_ne.mpr c7
              simp only [Option.some.injEq, Prod.mk.injEq] at H
              obtain ⟨rfl, rfl, rfl⟩ := H
              obtain ⟨i011, hi011, _, hsz11, _⟩ := info_parts info5
              obtain ⟨A11, hcut11, hA11, hC11⟩ := print_drop_of (P := Try.prog) (Value.int .u8) 0 24 5 .i64 Try.underlying24 hi011 hsz11 A0 c0 l0 x8_1 (of_decide_eq_true (by first | (with_reducible assumption) | assumption)) (of_decide_eq_true (by first | (with_reducible assumption) | assumption)) HC0.out
              have HR331 := Aside0.mk (Kd.C_of_reads (h1 := fun _ => rfl) (hA11 _ (Kd.reads_of_C HR0.out)))
              have HC331 := Aside0.mk hC11
              clear hA11 hC11 hi011 hsz11
              go_wp2_with (first | ((with_reducible refine gate_callee (f := 35) rfl ?_); refine goesL_ (some 22) rfl rfl Try.func35 (by kernel_rfl) rfl #[.slice A11 (l0.drop (x8_1 : Int).toNat).length (c0 - x8_1.toNat)] rfl (by (try simp only [List.map_toArray, List.map_cons, List.map_nil]); first | done | (rw [show (l0.drop (x8_1 : Int).toNat).length = (l0.length - x8_1.toNat) from List.length_drop] <;> rfl) | rfl | (simp only [List.length_drop, List.length_take]; rfl)) ?_; (with_reducible refine (wigwagref03_Get.calls _ _ (l0.drop (x8_1 : Int).toNat) t332 t333 t334 _ ?side1 ?side2 A6.out).mono ?_); (case side1 => repeat (first | exact (Kd.C_below HR331.out HB.out) | (with_reducible refine Kd.C_alloc ?_ _) | (with_reducible refine Kd.C_drewN ?_ _) | (with_reducible refine Kd.C_drew ?_))); (case side2 => exact HC331.out); rintro e w' ⟨rfl, ⟨nd, rfl⟩⟩; refine ⟨_, rfl, ?_⟩))
              go_ret3
              exact ⟨_, by first | rfl | (simp [errW_none, errW_some] <;> rfl) | (simp [*, errW_none, errW_some] <;> rfl), by first | exact Kd.R_nil .. | exact Kd.N_nil .. | exact Kd.V_nil .. | exact Kd.Q_nil .. | exact Kd.S_nil _ _ _ _ _, by repeat (first | (with_reducible first | exact HB.out | apply below_alloc | apply pw_below_drewN | apply below_drew1) | exact HB.out)⟩
          · rw [if_neg c5] at H
            exact absurd H (by simp)
        · rw [if_neg c4] at H
          exact absurd H (by simp)
      · rw [if_neg c3] at H
        have c3b0 : decide (x9_1 < a1) = false := decide_eq_false c3
        clear c3
        simp only [Option.some.injEq, Prod.mk.injEq] at H
        obtain ⟨rfl, rfl, rfl⟩ := H
        go_wp2
        go_ret3
        exact ⟨_, by first | rfl | (simp [errW_none, errW_some] <;> rfl) | (simp [*, errW_none, errW_some] <;> rfl), by (with_reducible repeat (first | apply Kd.R_alloc | apply Kd.R_drewN | apply Kd.R_drew)); exact HO_7.out, by repeat (first | (with_reducible first | exact HB.out | apply below_alloc | apply pw_below_drewN | apply below_drew1) | exact HB.out)⟩
attribute [local go_sem] max2_int min2_int max_two min_two max_three min_three max_four min_four   -- for this text's walks alone
set_option linter.unusedVariables false
set_option linter.unusedSimpArgs false
def wigwagref05_acked.l0 : Nat → List Int → List (S47) → Int → Option ((List (S47)) × Bool)
  | 0, _, _, _ => none
  | k + 1, x0, x5, x6 => if x6 < (x0.length : Int) then (if 0 < (x5.length : Int) then (if 0 ≤ x6 then (if (IntKind.u64.wrap ((rd x0 x6) + 1)) ≥ ((rd_T47 x5 0).f0) then (some (([] : List (S47)), false)) else (if 0 ≤ (wrap64 (x6 + 1)) then (if (wrap64 (x6 + 1)) < (x0.length : Int) then (if (IntKind.u64.wrap ((IntKind.u64.wrap ((IntKind.u64.wrap ((rd x0 x6) + 1)) + (rd x0 (wrap64 (x6 + 1))))) + 1)) > ((rd_T47 x5 0).f0) then (some (([] : List (S47)), false)) else ((some (([(⟨IntKind.u64.wrap ((IntKind.u64.wrap ((IntKind.u64.wrap ((IntKind.u64.wrap (((rd_T47 x5 0).f0) - (rd x0 x6))) - 1)) - (rd x0 (wrap64 (x6 + 1))))) - 1), IntKind.u64.wrap ((IntKind.u64.wrap (((rd_T47 x5 0).f0) - (rd x0 x6))) - 1)⟩ : S47)] : List (S47)) : List (S47))).bind fun y350 => (if y350.length + x5.length < 8796093022208 then (wigwagref05_acked.l0 k x0 (y350 ++ x5) (wrap64 (x6 + 2))) else (none)))) else (none)) else (none))) else (none)) else (none)) else (some (x5, true))
def wigwagref05_acked.f (k : Nat) (l0 : List Int) : Option ((List (S47)) × Bool) := if 0 < (l0.length : Int) then (if 1 < (l0.length : Int) then (if (rd l0 1) > (rd l0 0) then (some (([] : List (S47)), false)) else (wigwagref05_acked.l0 k l0 (([(⟨IntKind.u64.wrap ((rd l0 0) - (rd l0 1)), IntKind.u64.wrap ((rd l0 0) + 1)⟩ : S47)] : List (S47))) 2)) else (none)) else (none)
set_option maxHeartbeats 8000000 in
set_option maxRecDepth 100000 in
theorem wigwagref05_acked.calls (k : Nat) (A0 : Option Addr) (c0 : Nat) (l0 : List Int) (r1 : List (S47)) (r2 : Bool) (w : World) (hr0 : Kd.C (Kd.int .u64) w A0 l0.length l0) (hc0 : l0.length ≤ c0) (h : wigwagref05_acked.f k l0 = some (r1, r2)) :
    Calls Try.prog 54 #[.slice A0 l0.length c0] w fun e w' => ∃ v0_ : Value, e = .returned (.tuple #[v0_, .bool r2]) ∧ Kd.R k47 47 w' w.heap.size (fun _ => True) v0_ r1 ∧ Below w.heap.size w w' := by
  have hu47 := Try.underlying47
  have HR0 := Aside0.mk hr0
  have HC0 := Aside0.mk hc0
  clear hr0 hc0
  have HB := Aside0.mk (Below.refl w.heap.size w)
  have H : (if 0 < (l0.length : Int) then (if 1 < (l0.length : Int) then (if (rd l0 1) > (rd l0 0) then (some (([] : List (S47)), false)) else (wigwagref05_acked.l0 k l0 (([(⟨IntKind.u64.wrap ((rd l0 0) - (rd l0 1)), IntKind.u64.wrap ((rd l0 0) + 1)⟩ : S47)] : List (S47))) 2)) else (none)) else (none)) = some (r1, r2) := h
  clear h
  by_cases c2 : 0 < (l0.length : Int)
  · rw [if_pos c2] at H
    have c2b0 : decide (0 < (l0.length : Int)) = true := decide_eq_true c2
    have c2b1 : decide (0 < l0.length) = true := decide_eq_true (by omega)
    clear c2
    by_cases c3 : 1 < (l0.length : Int)
    · rw [if_pos c3] at H
      have c3b0 : decide (1 < (l0.length : Int)) = true := decide_eq_true c3
      have c3b1 : decide (1 < l0.length) = true := decide_eq_true (by omega)
      clear c3
      by_cases c4 : (rd l0 1) > (rd l0 0)
      · rw [if_pos c4] at H
        have c4b0 : decide ((rd l0 0) < (rd l0 1)) = true := decide_eq_true c4
        clear c4
        simp only [Option.some.injEq, Prod.mk.injEq] at H
        obtain ⟨rfl, rfl⟩ := H
        have p338 : 0 ≤ (0 : Int) := (by omega)
        have q338 : 0 < (l0.length : Int) := of_decide_eq_true (by first | (with_reducible assumption) | assumption)
        obtain ⟨ad338, e338, hx338_0⟩ := Kd.at_int HR0.out 0 p338 q338
        cases e338
        have qi338 : (0 < l0.length) = True := eq_true (by omega)
        (try rw [show ((0 : Int)).toNat = 0 from rfl] at hx338_0)
        (try rw [Addr.add_zero'] at hx338_0)
        replace p338 := eq_true p338
        replace q338 := eq_true q338
        have p339 : 0 ≤ (1 : Int) := (by omega)
        have q339 : 1 < (l0.length : Int) := of_decide_eq_true (by first | (with_reducible assumption) | assumption)
        obtain ⟨ad339, e339, hx339_0⟩ := Kd.at_int HR0.out 1 p339 q339
        obtain rfl : ad338 = ad339 := (by injection e339)
        (try simp only [show (1 : Int).toNat = 1 from rfl, Nat.reduceMul, Nat.reduceEqDiff, Go.Addr.add, ↓reduceIte] at hx339_0)
        have qi339 : (1 < l0.length) = True := eq_true (by omega)
        (try rw [show ((1 : Int)).toNat = 1 from rfl] at hx339_0)
        replace p339 := eq_true p339
        replace q339 := eq_true q339
        go_enter Try.func54, Try.ntmps54
        go_wp2
        repeat (go_quiet (fail); try go_wp2)
        go_ret2
        exact ⟨_, by first | rfl | (simp [errW_none, errW_some] <;> rfl) | (simp [*, errW_none, errW_some] <;> rfl), by first | exact Kd.R_nil .. | exact Kd.N_nil .. | exact Kd.V_nil .. | exact Kd.Q_nil .. | exact Kd.S_nil _ _ _ _ _, by repeat (first | (with_reducible first | exact HB.out | apply below_alloc | apply pw_below_drewN | apply below_drew1) | exact HB.out)⟩
      · rw [if_neg c4] at H
        have c4b0 : decide ((rd l0 0) < (rd l0 1)) = false := decide_eq_false c4
        clear c4
        obtain ⟨y341, hy341⟩ : ∃ y_ : List (S47), y_ = (([(⟨IntKind.u64.wrap ((rd l0 0) - (rd l0 1)), IntKind.u64.wrap ((rd l0 0) + 1)⟩ : S47)] : List (S47))) := ⟨_, rfl⟩
        replace H : (wigwagref05_acked.l0 k l0 y341 2) = some (r1, r2) := by first | (rw [hy341]; with_reducible exact H) | (have H2_ := (Option.bind_some _ _).symm.trans H; rw [hy341]; with_reducible exact H2_) | (have H2_ := (Option.bind_some _ _).symm.trans H; with_reducible exact H2_) | with_reducible exact H | (rw [hy341]; exact H) | exact H
        have Ny341 := Aside0.mk hy341
        clear hy341
        have H' := Aside0.mk H
        clear H
        have p338 : 0 ≤ (0 : Int) := (by omega)
        have q338 : 0 < (l0.length : Int) := of_decide_eq_true (by first | (with_reducible assumption) | assumption)
        obtain ⟨ad338, e338, hx338_0⟩ := Kd.at_int HR0.out 0 p338 q338
        cases e338
        have qi338 : (0 < l0.length) = True := eq_true (by omega)
        (try rw [show ((0 : Int)).toNat = 0 from rfl] at hx338_0)
        (try rw [Addr.add_zero'] at hx338_0)
        replace p338 := eq_true p338
        replace q338 := eq_true q338
        have p339 : 0 ≤ (1 : Int) := (by omega)
        have q339 : 1 < (l0.length : Int) := of_decide_eq_true (by first | (with_reducible assumption) | assumption)
        obtain ⟨ad339, e339, hx339_0⟩ := Kd.at_int HR0.out 1 p339 q339
        obtain rfl : ad338 = ad339 := (by injection e339)
        (try simp only [show (1 : Int).toNat = 1 from rfl, Nat.reduceMul, Nat.reduceEqDiff, Go.Addr.add, ↓reduceIte] at hx339_0)
        have qi339 : (1 < l0.length) = True := eq_true (by omega)
        (try rw [show ((1 : Int)).toNat = 1 from rfl] at hx339_0)
        replace p339 := eq_true p339
        replace q339 := eq_true q339
        have p340 : 0 ≤ (1 : Int) := (by omega)
        have q340 : 1 < (l0.length : Int) := of_decide_eq_true (by first | (with_reducible assumption) | assumption)
        obtain ⟨ad340, e340, hx340_0⟩ := Kd.at_int HR0.out 1 p340 q340
        obtain rfl : ad338 = ad340 := (by injection e340)
        (try simp only [show (1 : Int).toNat = 1 from rfl, Nat.reduceMul, Nat.reduceEqDiff, Go.Addr.add, ↓reduceIte] at hx340_0)
        have qi340 : (1 < l0.length) = True := eq_true (by omega)
        (try rw [show ((1 : Int)).toNat = 1 from rfl] at hx340_0)
        replace p340 := eq_true p340
        replace q340 := eq_true q340
        go_enter Try.func54, Try.ntmps54
        go_wp2_with (first | ((with_reducible refine gate_dst (N := 25) rfl ?_); refine Kd.R_lit k47 _ 47 ?hg (N := 25) ?hd (xs := ([(⟨IntKind.u64.wrap ((rd l0 0) - (rd l0 1)), IntKind.u64.wrap ((rd l0 0) + 1)⟩ : S47)] : List (S47))) (inner := [.int .u64 (IntKind.u64.wrap ((rd l0 0) - (rd l0 1))), .int .u64 (IntKind.u64.wrap ((rd l0 0) + 1))]) (ok := fun _ => True) (okp := fun _ => True) ?hr ?hp (fun _ hk => hk) trivial (Below.refl _ _) (Nat.le_refl _) (by simp) ?_; (case hd => rfl); (case hg => rfl); (case hr => first | (go_simp; done) | (go_simp; rfl)); (case hp => exact (Reps.c2 (show Kd.M k47 _ _ _ (⟨IntKind.u64.wrap ((rd l0 0) - (rd l0 1)), IntKind.u64.wrap ((rd l0 0) + 1)⟩ : S47) [.int .u64 (IntKind.u64.wrap ((rd l0 0) - (rd l0 1))), .int .u64 (IntKind.u64.wrap ((rd l0 0) + 1))] from (k47_mkM _ _ _ (⟨IntKind.u64.wrap ((rd l0 0) - (rd l0 1)), IntKind.u64.wrap ((rd l0 0) + 1)⟩ : S47) )) (Reps.none _ _))); intro v342 w5 ho6 hb hg_ hnew_; clear hg_ hnew_; (first | rw [← Ny341.out] at ho6 | (simp only [Int.reduceToNat] at ho6; rw [← Ny341.out] at ho6)); have n0_ := Aside0.mk (Kd.R_lower ho6 (below_size (by repeat (first | (with_reducible first | exact HB.out | apply below_alloc | apply pw_below_drewN | apply below_drew1) | exact HB.out)))); have n1_ := Aside0.mk (below_step (by repeat (first | (with_reducible first | exact HB.out | apply below_alloc | apply pw_below_drewN | apply below_drew1) | exact HB.out)) hb); clear HB; have HO343 := n0_; have HB := n1_; clear n0_ n1_; clear hb ho6))
        repeat (go_quiet (first | ((with_reducible refine gate_dst (N := 25) rfl ?_); refine Kd.R_lit k47 _ 47 ?hg (N := 25) ?hd (xs := ([(⟨IntKind.u64.wrap ((rd l0 0) - (rd l0 1)), IntKind.u64.wrap ((rd l0 0) + 1)⟩ : S47)] : List (S47))) (inner := [.int .u64 (IntKind.u64.wrap ((rd l0 0) - (rd l0 1))), .int .u64 (IntKind.u64.wrap ((rd l0 0) + 1))]) (ok := fun _ => True) (okp := fun _ => True) ?hr ?hp (fun _ hk => hk) trivial (Below.refl _ _) (Nat.le_refl _) (by simp) ?_; (case hd => rfl); (case hg => rfl); (case hr => first | (go_simp; done) | (go_simp; rfl)); (case hp => exact (Reps.c2 (show Kd.M k47 _ _ _ (⟨IntKind.u64.wrap ((rd l0 0) - (rd l0 1)), IntKind.u64.wrap ((rd l0 0) + 1)⟩ : S47) [.int .u64 (IntKind.u64.wrap ((rd l0 0) - (rd l0 1))), .int .u64 (IntKind.u64.wrap ((rd l0 0) + 1))] from (k47_mkM _ _ _ (⟨IntKind.u64.wrap ((rd l0 0) - (rd l0 1)), IntKind.u64.wrap ((rd l0 0) + 1)⟩ : S47) )) (Reps.none _ _))); intro v342 w5 ho6 hb hg_ hnew_; clear hg_ hnew_; (first | rw [← Ny341.out] at ho6 | (simp only [Int.reduceToNat] at ho6; rw [← Ny341.out] at ho6)); have n0_ := Aside0.mk (Kd.R_lower ho6 (below_size (by repeat (first | (with_reducible first | exact HB.out | apply below_alloc | apply pw_below_drewN | apply below_drew1) | exact HB.out)))); have n1_ := Aside0.mk (below_step (by repeat (first | (with_reducible first | exact HB.out | apply below_alloc | apply pw_below_drewN | apply below_drew1) | exact HB.out)) hb); clear HB; have HO343 := n0_; have HB := n1_; clear n0_ n1_; clear hb ho6)); try go_wp2_with (first | ((with_reducible refine gate_dst (N := 25) rfl ?_); refine Kd.R_lit k47 _ 47 ?hg (N := 25) ?hd (xs := ([(⟨IntKind.u64.wrap ((rd l0 0) - (rd l0 1)), IntKind.u64.wrap ((rd l0 0) + 1)⟩ : S47)] : List (S47))) (inner := [.int .u64 (IntKind.u64.wrap ((rd l0 0) - (rd l0 1))), .int .u64 (IntKind.u64.wrap ((rd l0 0) + 1))]) (ok := fun _ => True) (okp := fun _ => True) ?hr ?hp (fun _ hk => hk) trivial (Below.refl _ _) (Nat.le_refl _) (by simp) ?_; (case hd => rfl); (case hg => rfl); (case hr => first | (go_simp; done) | (go_simp; rfl)); (case hp => exact (Reps.c2 (show Kd.M k47 _ _ _ (⟨IntKind.u64.wrap ((rd l0 0) - (rd l0 1)), IntKind.u64.wrap ((rd l0 0) + 1)⟩ : S47) [.int .u64 (IntKind.u64.wrap ((rd l0 0) - (rd l0 1))), .int .u64 (IntKind.u64.wrap ((rd l0 0) + 1))] from (k47_mkM _ _ _ (⟨IntKind.u64.wrap ((rd l0 0) - (rd l0 1)), IntKind.u64.wrap ((rd l0 0) + 1)⟩ : S47) )) (Reps.none _ _))); intro v342 w5 ho6 hb hg_ hnew_; clear hg_ hnew_; (first | rw [← Ny341.out] at ho6 | (simp only [Int.reduceToNat] at ho6; rw [← Ny341.out] at ho6)); have n0_ := Aside0.mk (Kd.R_lower ho6 (below_size (by repeat (first | (with_reducible first | exact HB.out | apply below_alloc | apply pw_below_drewN | apply below_drew1) | exact HB.out)))); have n1_ := Aside0.mk (below_step (by repeat (first | (with_reducible first | exact HB.out | apply below_alloc | apply pw_below_drewN | apply below_drew1) | exact HB.out)) hb); clear HB; have HO343 := n0_; have HB := n1_; clear n0_ n1_; clear hb ho6)))
        go_loopg [5, 6] k (fun kq v5 v6 w' => ∃ (x5_1 : List (S47)) (x6_1 : Int), v6 = .int .i64 x6_1 ∧ Aside0 (wigwagref05_acked.l0 kq l0 x5_1 x6_1 = some (r1, r2)) ∧ Aside0 (kq ≤ k) ∧ Aside0 (Kd.R k47 47 w' w.heap.size (fun _ => True) v5 x5_1) ∧ Aside0 (Below w.heap.size w w'))
        case atStart => exact ⟨(y341), (2), (by first | rfl | (simp; done) | (simp [*]; done)), H', ⟨Nat.le_refl _⟩, ⟨by (with_reducible repeat (first | apply Kd.R_alloc | apply Kd.R_drewN | apply Kd.R_drew)); exact HO343.out⟩, ⟨by repeat (first | (with_reducible first | exact HB.out | apply below_alloc | apply pw_below_drewN | apply below_drew1) | exact HB.out)⟩⟩
        case round =>
          clear H'
          try clear c2
          try clear c2b0
          try clear c2b1
          try clear p2
          try clear c3
          try clear c3b0
          try clear c3b1
          try clear p3
          try clear q3
          try clear hx3
          try clear qi3
          try clear c4
          try clear c4b0
          try clear c5
          try clear hx338_0
          try clear hx339_0
          try clear hx340_0
          try clear p338
          try clear p339
          try clear p340
          try clear q338
          try clear q339
          try clear q340
          obtain ⟨x5_1, x6_1, rfl, HA, HK1, HO_5, HB⟩ := hrel
          cases gk with
          | zero => exact absurd HA.out (by simp [wigwagref05_acked.l0])
          | succ k1 =>
            have H := HA.out
            clear HA
            simp only [wigwagref05_acked.l0] at H
            by_cases c7 : x6_1 < (l0.length : Int)
            · rw [if_pos c7] at H
              have c7b0 : decide (x6_1 < (l0.length : Int)) = true := decide_eq_true c7
              clear c7
              by_cases c8 : 0 < (x5_1.length : Int)
              · rw [if_pos c8] at H
                have c8b0 : decide (0 < (x5_1.length : Int)) = true := decide_eq_true c8
                have c8b1 : decide (0 < x5_1.length) = true := decide_eq_true (by omega)
                clear c8
                by_cases c9 : 0 ≤ x6_1
                · rw [if_pos c9] at H
                  have c9b0 : decide (0 ≤ x6_1) = true := decide_eq_true c9
                  clear c9
                  by_cases c10 : (IntKind.u64.wrap ((rd l0 x6_1) + 1)) ≥ ((rd_T47 x5_1 0).f0)
                  · rw [if_pos c10] at H
                    have c10b0 : decide (((rd_T47 x5_1 0).f0) ≤ (IntKind.u64.wrap ((rd l0 x6_1) + 1))) = true := decide_eq_true c10
                    clear c10
                    simp only [Option.some.injEq, Prod.mk.injEq] at H
                    obtain ⟨rfl, rfl⟩ := H
                    obtain ⟨Ao11, co11, eo11⟩ := Kd.R_slice HO_5.out
                    subst eo11
                    have p344 : 0 ≤ (0 : Int) := (by omega)
                    have q344 : 0 < (x5_1.length : Int) := of_decide_eq_true (by first | (with_reducible assumption) | assumption)
                    obtain ⟨ad344, e344, hx344_0, hx344_1⟩ := at_T47 (Kd.R_reads' HO_5.out).2.2 0 p344 q344
                    cases e344
                    have qi344 : (0 < x5_1.length) = True := eq_true (by omega)
                    (try rw [show ((0 : Int)).toNat = 0 from rfl] at hx344_0)
                    (try rw [show 0 * 2 = 0 from rfl] at hx344_0)
                    (try rw [Addr.add_zero'] at hx344_0)
                    (try rw [show ((0 : Int)).toNat = 0 from rfl] at hx344_1)
                    (try rw [show 0 * 2 = 0 from rfl] at hx344_1)
                    (try rw [Addr.add_zero'] at hx344_1)
                    replace p344 := eq_true p344
                    replace q344 := eq_true q344
                    have p345 : 0 ≤ (x6_1 : Int) := of_decide_eq_true (by first | (with_reducible assumption) | assumption)
                    have q345 : x6_1 < (l0.length : Int) := of_decide_eq_true (by first | (with_reducible assumption) | assumption)
                    obtain ⟨ad345, e345, hx345_0⟩ := Kd.at_int HR0.out x6_1 p345 q345
                    obtain rfl : ad338 = ad345 := (by injection e345)
                    replace hx345_0 := (HB.out.cell (World.block_lt_of_cell? w _ hx345_0)).trans hx345_0
                    replace p345 := eq_true p345
                    replace q345 := eq_true q345
                    go_wp2
                    repeat (go_quiet (fail); try go_wp2)
                    go_ret2
                    exact ⟨_, by first | rfl | (simp [errW_none, errW_some] <;> rfl) | (simp [*, errW_none, errW_some] <;> rfl), by first | exact Kd.R_nil .. | exact Kd.N_nil .. | exact Kd.V_nil .. | exact Kd.Q_nil .. | exact Kd.S_nil _ _ _ _ _, by repeat (first | (with_reducible first | exact HB.out | apply below_alloc | apply pw_below_drewN | apply below_drew1) | exact HB.out)⟩
                  · rw [if_neg c10] at H
                    have c10b0 : decide (((rd_T47 x5_1 0).f0) ≤ (IntKind.u64.wrap ((rd l0 x6_1) + 1))) = false := decide_eq_false c10
                    clear c10
                    obtain ⟨ji12, hji12⟩ : ∃ j_ : Int, (wrap64 (x6_1 + 1)) = j_ := ⟨_, rfl⟩
                    replace H : (if 0 ≤ (ji12) then (if (ji12) < (l0.length : Int) then (if (IntKind.u64.wrap ((IntKind.u64.wrap ((IntKind.u64.wrap ((rd l0 x6_1) + 1)) + (rd l0 (ji12)))) + 1)) > ((rd_T47 x5_1 0).f0) then (some (([] : List (S47)), false)) else ((some (([(⟨IntKind.u64.wrap ((IntKind.u64.wrap ((IntKind.u64.wrap ((IntKind.u64.wrap (((rd_T47 x5_1 0).f0) - (rd l0 x6_1))) - 1)) - (rd l0 (ji12)))) - 1), IntKind.u64.wrap ((IntKind.u64.wrap (((rd_T47 x5_1 0).f0) - (rd l0 x6_1))) - 1)⟩ : S47)] : List (S47)) : List (S47))).bind fun y350 => (if y350.length + x5_1.length < 8796093022208 then (wigwagref05_acked.l0 k1 l0 (y350 ++ x5_1) (wrap64 (x6_1 + 2))) else (none)))) else (none)) else (none)) = some (r1, r2) := by first | (rw [hji12] at H; exact H) | (simp only [hji12] at H ⊢; exact H)
                    have hji12w : (IntKind.i64.wrap (x6_1 + 1)) = ji12 := (i64_w _).trans hji12
                    by_cases c13 : 0 ≤ (ji12)
                    · rw [if_pos c13] at H
                      have c13b0 : decide (0 ≤ (ji12)) = true := decide_eq_true c13
                      clear c13
                      by_cases c14 : (ji12) < (l0.length : Int)
                      · rw [if_pos c14] at H
                        have c14b0 : decide ((ji12) < (l0.length : Int)) = true := decide_eq_true c14
                        clear c14
                        by_cases c15 : (IntKind.u64.wrap ((IntKind.u64.wrap ((IntKind.u64.wrap ((rd l0 x6_1) + 1)) + (rd l0 (ji12)))) + 1)) > ((rd_T47 x5_1 0).f0)
                        · rw [if_pos c15] at H
                          have c15b0 : decide (((rd_T47 x5_1 0).f0) < (IntKind.u64.wrap ((IntKind.u64.wrap ((IntKind.u64.wrap ((rd l0 x6_1) + 1)) + (rd l0 (ji12)))) + 1))) = true := decide_eq_true c15
                          clear c15
                          simp only [Option.some.injEq, Prod.mk.injEq] at H
                          obtain ⟨rfl, rfl⟩ := H
                          obtain ⟨Ao16, co16, eo16⟩ := Kd.R_slice HO_5.out
                          subst eo16
                          have p344 : 0 ≤ (0 : Int) := (by omega)
                          have q344 : 0 < (x5_1.length : Int) := of_decide_eq_true (by first | (with_reducible assumption) | assumption)
                          obtain ⟨ad344, e344, hx344_0, hx344_1⟩ := at_T47 (Kd.R_reads' HO_5.out).2.2 0 p344 q344
                          cases e344
                          have qi344 : (0 < x5_1.length) = True := eq_true (by omega)
                          (try rw [show ((0 : Int)).toNat = 0 from rfl] at hx344_0)
                          (try rw [show 0 * 2 = 0 from rfl] at hx344_0)
                          (try rw [Addr.add_zero'] at hx344_0)
                          (try rw [show ((0 : Int)).toNat = 0 from rfl] at hx344_1)
                          (try rw [show 0 * 2 = 0 from rfl] at hx344_1)
                          (try rw [Addr.add_zero'] at hx344_1)
                          replace p344 := eq_true p344
                          replace q344 := eq_true q344
                          have p345 : 0 ≤ (x6_1 : Int) := of_decide_eq_true (by first | (with_reducible assumption) | assumption)
                          have q345 : x6_1 < (l0.length : Int) := of_decide_eq_true (by first | (with_reducible assumption) | assumption)
                          obtain ⟨ad345, e345, hx345_0⟩ := Kd.at_int HR0.out x6_1 p345 q345
                          obtain rfl : ad338 = ad345 := (by injection e345)
                          replace hx345_0 := (HB.out.cell (World.block_lt_of_cell? w _ hx345_0)).trans hx345_0
                          replace p345 := eq_true p345
                          replace q345 := eq_true q345
                          have p346 : 0 ≤ (x6_1 : Int) := of_decide_eq_true (by first | (with_reducible assumption) | assumption)
                          have q346 : x6_1 < (l0.length : Int) := of_decide_eq_true (by first | (with_reducible assumption) | assumption)
                          obtain ⟨ad346, e346, hx346_0⟩ := Kd.at_int HR0.out x6_1 p346 q346
                          obtain rfl : ad338 = ad346 := (by injection e346)
                          replace hx346_0 := (HB.out.cell (World.block_lt_of_cell? w _ hx346_0)).trans hx346_0
                          replace p346 := eq_true p346
                          replace q346 := eq_true q346
                          have p347 : 0 ≤ ((ji12) : Int) := of_decide_eq_true (by first | (with_reducible assumption) | assumption)
                          have q347 : (ji12) < (l0.length : Int) := of_decide_eq_true (by first | (with_reducible assumption) | assumption)
                          obtain ⟨ad347, e347, hx347_0⟩ := Kd.at_int HR0.out (ji12) p347 q347
                          obtain rfl : ad338 = ad347 := (by injection e347)
                          replace hx347_0 := (HB.out.cell (World.block_lt_of_cell? w _ hx347_0)).trans hx347_0
                          replace p347 := eq_true p347
                          replace q347 := eq_true q347
                          go_wp2
                          repeat (go_quiet (fail); try go_wp2)
                          go_ret2
                          exact ⟨_, by first | rfl | (simp [errW_none, errW_some] <;> rfl) | (simp only [← hji12]; first | rfl | (simp [errW_none, errW_some] <;> rfl)) | (simp [*, errW_none, errW_some] <;> rfl), by first | exact Kd.R_nil .. | exact Kd.N_nil .. | exact Kd.V_nil .. | exact Kd.Q_nil .. | exact Kd.S_nil _ _ _ _ _, by repeat (first | (with_reducible first | exact HB.out | apply below_alloc | apply pw_below_drewN | apply below_drew1) | exact HB.out)⟩
                        · rw [if_neg c15] at H
                          have c15b0 : decide (((rd_T47 x5_1 0).f0) < (IntKind.u64.wrap ((IntKind.u64.wrap ((IntKind.u64.wrap ((rd l0 x6_1) + 1)) + (rd l0 (ji12)))) + 1))) = false := decide_eq_false c15
                          clear c15
                          obtain ⟨y350, hy350⟩ : ∃ y_ : List (S47), y_ = (([(⟨IntKind.u64.wrap ((IntKind.u64.wrap ((IntKind.u64.wrap ((IntKind.u64.wrap (((rd_T47 x5_1 0).f0) - (rd l0 x6_1))) - 1)) - (rd l0 (ji12)))) - 1), IntKind.u64.wrap ((IntKind.u64.wrap (((rd_T47 x5_1 0).f0) - (rd l0 x6_1))) - 1)⟩ : S47)] : List (S47))) := ⟨_, rfl⟩
                          replace H : (if y350.length + x5_1.length < 8796093022208 then (wigwagref05_acked.l0 k1 l0 (y350 ++ x5_1) (wrap64 (x6_1 + 2))) else (none)) = some (r1, r2) := by first | (rw [hy350]; with_reducible exact H) | (have H2_ := (Option.bind_some _ _).symm.trans H; rw [hy350]; with_reducible exact H2_) | (have H2_ := (Option.bind_some _ _).symm.trans H; with_reducible exact H2_) | with_reducible exact H | (rw [hy350]; exact H) | exact H
                          have Ny350 := Aside0.mk hy350
                          clear hy350
                          by_cases c17 : y350.length + x5_1.length < 8796093022208
                          · rw [if_pos c17] at H
                            have LMc17 := Aside0.mk c17
                            clear c17
                            obtain ⟨y353, hy353⟩ : ∃ y_ : List (S47), y_ = (y350 ++ x5_1) := ⟨_, rfl⟩
                            replace H : (wigwagref05_acked.l0 k1 l0 y353 (wrap64 (x6_1 + 2))) = some (r1, r2) := by first | (rw [hy353]; with_reducible exact H) | (have H2_ := (Option.bind_some _ _).symm.trans H; rw [hy353]; with_reducible exact H2_) | (have H2_ := (Option.bind_some _ _).symm.trans H; with_reducible exact H2_) | with_reducible exact H | (rw [hy353]; exact H) | exact H
                            have Ny353 := Aside0.mk hy353
                            clear hy353
                            have H' := Aside0.mk H
                            clear H
                            obtain ⟨Ao18, co18, eo18⟩ := Kd.R_slice HO_5.out
                            subst eo18
                            have p344 : 0 ≤ (0 : Int) := (by omega)
                            have q344 : 0 < (x5_1.length : Int) := of_decide_eq_true (by first | (with_reducible assumption) | assumption)
                            obtain ⟨ad344, e344, hx344_0, hx344_1⟩ := at_T47 (Kd.R_reads' HO_5.out).2.2 0 p344 q344
                            cases e344
                            have qi344 : (0 < x5_1.length) = True := eq_true (by omega)
                            (try rw [show ((0 : Int)).toNat = 0 from rfl] at hx344_0)
                            (try rw [show 0 * 2 = 0 from rfl] at hx344_0)
                            (try rw [Addr.add_zero'] at hx344_0)
                            (try rw [show ((0 : Int)).toNat = 0 from rfl] at hx344_1)
                            (try rw [show 0 * 2 = 0 from rfl] at hx344_1)
                            (try rw [Addr.add_zero'] at hx344_1)
                            replace p344 := eq_true p344
                            replace q344 := eq_true q344
                            have p345 : 0 ≤ (x6_1 : Int) := of_decide_eq_true (by first | (with_reducible assumption) | assumption)
                            have q345 : x6_1 < (l0.length : Int) := of_decide_eq_true (by first | (with_reducible assumption) | assumption)
                            obtain ⟨ad345, e345, hx345_0⟩ := Kd.at_int HR0.out x6_1 p345 q345
                            obtain rfl : ad338 = ad345 := (by injection e345)
                            replace hx345_0 := (HB.out.cell (World.block_lt_of_cell? w _ hx345_0)).trans hx345_0
                            replace p345 := eq_true p345
                            replace q345 := eq_true q345
                            have p346 : 0 ≤ (x6_1 : Int) := of_decide_eq_true (by first | (with_reducible assumption) | assumption)
                            have q346 : x6_1 < (l0.length : Int) := of_decide_eq_true (by first | (with_reducible assumption) | assumption)
                            obtain ⟨ad346, e346, hx346_0⟩ := Kd.at_int HR0.out x6_1 p346 q346
                            obtain rfl : ad338 = ad346 := (by injection e346)
                            replace hx346_0 := (HB.out.cell (World.block_lt_of_cell? w _ hx346_0)).trans hx346_0
                            replace p346 := eq_true p346
                            replace q346 := eq_true q346
                            have p347 : 0 ≤ ((ji12) : Int) := of_decide_eq_true (by first | (with_reducible assumption) | assumption)
                            have q347 : (ji12) < (l0.length : Int) := of_decide_eq_true (by first | (with_reducible assumption) | assumption)
                            obtain ⟨ad347, e347, hx347_0⟩ := Kd.at_int HR0.out (ji12) p347 q347
                            obtain rfl : ad338 = ad347 := (by injection e347)
                            replace hx347_0 := (HB.out.cell (World.block_lt_of_cell? w _ hx347_0)).trans hx347_0
                            replace p347 := eq_true p347
                            replace q347 := eq_true q347
                            have p348 : 0 ≤ (x6_1 : Int) := of_decide_eq_true (by first | (with_reducible assumption) | assumption)
                            have q348 : x6_1 < (l0.length : Int) := of_decide_eq_true (by first | (with_reducible assumption) | assumption)
                            obtain ⟨ad348, e348, hx348_0⟩ := Kd.at_int HR0.out x6_1 p348 q348
                            obtain rfl : ad338 = ad348 := (by injection e348)
                            replace hx348_0 := (HB.out.cell (World.block_lt_of_cell? w _ hx348_0)).trans hx348_0
                            replace p348 := eq_true p348
                            replace q348 := eq_true q348
                            have p349 : 0 ≤ ((ji12) : Int) := of_decide_eq_true (by first | (with_reducible assumption) | assumption)
                            have q349 : (ji12) < (l0.length : Int) := of_decide_eq_true (by first | (with_reducible assumption) | assumption)
                            obtain ⟨ad349, e349, hx349_0⟩ := Kd.at_int HR0.out (ji12) p349 q349
                            obtain rfl : ad338 = ad349 := (by injection e349)
                            replace hx349_0 := (HB.out.cell (World.block_lt_of_cell? w _ hx349_0)).trans hx349_0
                            replace p349 := eq_true p349
                            replace q349 := eq_true q349
                            go_wp2_with (first | ((with_reducible refine gate_dst (N := 76) rfl ?_); refine Kd.R_lit k47 _ 47 ?hg (N := 76) ?hd (xs := ([(⟨IntKind.u64.wrap ((IntKind.u64.wrap ((IntKind.u64.wrap ((IntKind.u64.wrap (((rd_T47 x5_1 0).f0) - (rd l0 x6_1))) - 1)) - (rd l0 (ji12)))) - 1), IntKind.u64.wrap ((IntKind.u64.wrap (((rd_T47 x5_1 0).f0) - (rd l0 x6_1))) - 1)⟩ : S47)] : List (S47))) (inner := [.int .u64 (IntKind.u64.wrap ((IntKind.u64.wrap ((IntKind.u64.wrap ((IntKind.u64.wrap (((rd_T47 x5_1 0).f0) - (rd l0 x6_1))) - 1)) - (rd l0 (ji12)))) - 1)), .int .u64 (IntKind.u64.wrap ((IntKind.u64.wrap (((rd_T47 x5_1 0).f0) - (rd l0 x6_1))) - 1))]) (ok := fun _ => True) (okp := fun _ => True) ?hr ?hp (fun _ hk => hk) trivial (Below.refl _ _) (Nat.le_refl _) (by simp) ?_; (case hd => rfl); (case hg => rfl); (case hr => first | (go_simp; done) | (go_simp; rfl)); (case hp => exact (Reps.c2 (show Kd.M k47 _ _ _ (⟨IntKind.u64.wrap ((IntKind.u64.wrap ((IntKind.u64.wrap ((IntKind.u64.wrap (((rd_T47 x5_1 0).f0) - (rd l0 x6_1))) - 1)) - (rd l0 (ji12)))) - 1), IntKind.u64.wrap ((IntKind.u64.wrap (((rd_T47 x5_1 0).f0) - (rd l0 x6_1))) - 1)⟩ : S47) [.int .u64 (IntKind.u64.wrap ((IntKind.u64.wrap ((IntKind.u64.wrap ((IntKind.u64.wrap (((rd_T47 x5_1 0).f0) - (rd l0 x6_1))) - 1)) - (rd l0 (ji12)))) - 1)), .int .u64 (IntKind.u64.wrap ((IntKind.u64.wrap (((rd_T47 x5_1 0).f0) - (rd l0 x6_1))) - 1))] from (k47_mkM _ _ _ (⟨IntKind.u64.wrap ((IntKind.u64.wrap ((IntKind.u64.wrap ((IntKind.u64.wrap (((rd_T47 x5_1 0).f0) - (rd l0 x6_1))) - 1)) - (rd l0 (ji12)))) - 1), IntKind.u64.wrap ((IntKind.u64.wrap (((rd_T47 x5_1 0).f0) - (rd l0 x6_1))) - 1)⟩ : S47) )) (Reps.none _ _))); intro v351 w19 ho20 hb hg_ hnew_; clear hg_ hnew_; (first | rw [← Ny350.out] at ho20 | (simp only [Int.reduceToNat] at ho20; rw [← Ny350.out] at ho20)); have n0_ := Aside0.mk (Kd.R_elder' (by (with_reducible repeat (first | apply Kd.R_alloc | apply Kd.R_drewN | apply Kd.R_drew)); exact HO_5.out) (Kd.R_base ho20) hb); have n1_ := Aside0.mk (Kd.R_lower (Kd.R_new' ho20 (Kd.R_lt (by (with_reducible repeat (first | apply Kd.R_alloc | apply Kd.R_drewN | apply Kd.R_drew)); exact HO_5.out))) (below_size (by repeat (first | (with_reducible first | exact HB.out | apply below_alloc | apply pw_below_drewN | apply below_drew1) | exact HB.out)))); have n2_ := Aside0.mk (below_step (by repeat (first | (with_reducible first | exact HB.out | apply below_alloc | apply pw_below_drewN | apply below_drew1) | exact HB.out)) hb); clear HO_5; clear HB; have HO_5 := n0_; have HO352 := n1_; have HB := n2_; clear n0_ n1_ n2_; clear hb ho20) | ((with_reducible refine gate_builtin (b := .append) (xs := #[.tmp 76, .tmp 77]) rfl ?_); at_builtin; refine Kd.R_append_rows k47 (w0 := w) w.heap.size rfl (.tmp 76) (.tmp 77) 25 47 (.agg #[(.int .u64 0), (.int .u64 0)]) 16 rfl Try.underlying25 info47 rfl (by decide) (by omega) v351 y350 x5_1 _ _ _ (fun k_ => some k_ ≠ (.slice (some ad344) x5_1.length co18 : Value).ownBlock) (fun _ => False) rfl rfl ?aO ?aR (fun _ _ h => h) (fun _ h => h.elim) ?aF ?aB ?aS ?aL ?_; (case aR => repeat (first | exact (Kd.R_reads' HO_5.out).2.2 | (with_reducible refine Kd.C_alloc ?_ _) | (with_reducible refine Kd.C_drewN ?_ _) | (with_reducible refine Kd.C_drew ?_))); (case aB => exact (by repeat (first | (with_reducible first | exact HB.out | apply below_alloc | apply pw_below_drewN | apply below_drew1) | exact HB.out))); (case aF => exact (fun k_ hk => Kd.fresh' (Kd.R_lt (by (with_reducible repeat (first | apply Kd.R_alloc | apply Kd.R_drewN | apply Kd.R_drew)); exact HO_5.out)) k_ hk)); (case aO => exact (by (with_reducible repeat (first | apply Kd.R_alloc | apply Kd.R_drewN | apply Kd.R_drew)); exact Kd.R_mono HO352.out (fun _ hk => hk.2))); (case aS => exact (below_size (by repeat (first | (with_reducible first | exact HB.out | apply below_alloc | apply pw_below_drewN | apply below_drew1) | exact HB.out)))); (case aL => have := LMc17.out; omega); intro v354 w21 ho hb hg hat; rw [← Ny353.out] at ho; have n0_ := Aside0.mk (Kd.R_after (ok := (fun _ => True)) (by (with_reducible repeat (first | apply Kd.R_alloc | apply Kd.R_drewN | apply Kd.R_drew)); exact HO_5.out) hg hat); have n1_ := Aside0.mk (hb); have n2_ := Aside0.mk (ho); clear HO_5; clear HB; clear HO352; have HO_5 := n0_; have HB := n1_; have HO355 := n2_; clear n0_ n1_ n2_; clear ho hb hg hat))
                            repeat (go_quiet (first | ((with_reducible refine gate_dst (N := 76) rfl ?_); refine Kd.R_lit k47 _ 47 ?hg (N := 76) ?hd (xs := ([(⟨IntKind.u64.wrap ((IntKind.u64.wrap ((IntKind.u64.wrap ((IntKind.u64.wrap (((rd_T47 x5_1 0).f0) - (rd l0 x6_1))) - 1)) - (rd l0 (ji12)))) - 1), IntKind.u64.wrap ((IntKind.u64.wrap (((rd_T47 x5_1 0).f0) - (rd l0 x6_1))) - 1)⟩ : S47)] : List (S47))) (inner := [.int .u64 (IntKind.u64.wrap ((IntKind.u64.wrap ((IntKind.u64.wrap ((IntKind.u64.wrap (((rd_T47 x5_1 0).f0) - (rd l0 x6_1))) - 1)) - (rd l0 (ji12)))) - 1)), .int .u64 (IntKind.u64.wrap ((IntKind.u64.wrap (((rd_T47 x5_1 0).f0) - (rd l0 x6_1))) - 1))]) (ok := fun _ => True) (okp := fun _ => True) ?hr ?hp (fun _ hk => hk) trivial (Below.refl _ _) (Nat.le_refl _) (by simp) ?_; (case hd => rfl); (case hg => rfl); (case hr => first | (go_simp; done) | (go_simp; rfl)); (case hp => exact (Reps.c2 (show Kd.M k47 _ _ _ (⟨IntKind.u64.wrap ((IntKind.u64.wrap ((IntKind.u64.wrap ((IntKind.u64.wrap (((rd_T47 x5_1 0).f0) - (rd l0 x6_1))) - 1)) - (rd l0 (ji12)))) - 1), IntKind.u64.wrap ((IntKind.u64.wrap (((rd_T47 x5_1 0).f0) - (rd l0 x6_1))) - 1)⟩ : S47) [.int .u64 (IntKind.u64.wrap ((IntKind.u64.wrap ((IntKind.u64.wrap ((IntKind.u64.wrap (((rd_T47 x5_1 0).f0) - (rd l0 x6_1))) - 1)) - (rd l0 (ji12)))) - 1)), .int .u64 (IntKind.u64.wrap ((IntKind.u64.wrap (((rd_T47 x5_1 0).f0) - (rd l0 x6_1))) - 1))] from (k47_mkM _ _ _ (⟨IntKind.u64.wrap ((IntKind.u64.wrap ((IntKind.u64.wrap ((IntKind.u64.wrap (((rd_T47 x5_1 0).f0) - (rd l0 x6_1))) - 1)) - (rd l0 (ji12)))) - 1), IntKind.u64.wrap ((IntKind.u64.wrap (((rd_T47 x5_1 0).f0) - (rd l0 x6_1))) - 1)⟩ : S47) )) (Reps.none _ _))); intro v351 w19 ho20 hb hg_ hnew_; clear hg_ hnew_; (first | rw [← Ny350.out] at ho20 | (simp only [Int.reduceToNat] at ho20; rw [← Ny350.out] at ho20)); have n0_ := Aside0.mk (Kd.R_elder' (by (with_reducible repeat (first | apply Kd.R_alloc | apply Kd.R_drewN | apply Kd.R_drew)); exact HO_5.out) (Kd.R_base ho20) hb); have n1_ := Aside0.mk (Kd.R_lower (Kd.R_new' ho20 (Kd.R_lt (by (with_reducible repeat (first | apply Kd.R_alloc | apply Kd.R_drewN | apply Kd.R_drew)); exact HO_5.out))) (below_size (by repeat (first | (with_reducible first | exact HB.out | apply below_alloc | apply pw_below_drewN | apply below_drew1) | exact HB.out)))); have n2_ := Aside0.mk (below_step (by repeat (first | (with_reducible first | exact HB.out | apply below_alloc | apply pw_below_drewN | apply below_drew1) | exact HB.out)) hb); clear HO_5; clear HB; have HO_5 := n0_; have HO352 := n1_; have HB := n2_; clear n0_ n1_ n2_; clear hb ho20) | ((with_reducible refine gate_builtin (b := .append) (xs := #[.tmp 76, .tmp 77]) rfl ?_); at_builtin; refine Kd.R_append_rows k47 (w0 := w) w.heap.size rfl (.tmp 76) (.tmp 77) 25 47 (.agg #[(.int .u64 0), (.int .u64 0)]) 16 rfl Try.underlying25 info47 rfl (by decide) (by omega) v351 y350 x5_1 _ _ _ (fun k_ => some k_ ≠ (.slice (some ad344) x5_1.length co18 : Value).ownBlock) (fun _ => False) rfl rfl ?aO ?aR (fun _ _ h => h) (fun _ h => h.elim) ?aF ?aB ?aS ?aL ?_; (case aR => repeat (first | exact (Kd.R_reads' HO_5.out).2.2 | (with_reducible refine Kd.C_alloc ?_ _) | (with_reducible refine Kd.C_drewN ?_ _) | (with_reducible refine Kd.C_drew ?_))); (case aB => exact (by repeat (first | (with_reducible first | exact HB.out | apply below_alloc | apply pw_below_drewN | apply below_drew1) | exact HB.out))); (case aF => exact (fun k_ hk => Kd.fresh' (Kd.R_lt (by (with_reducible repeat (first | apply Kd.R_alloc | apply Kd.R_drewN | apply Kd.R_drew)); exact HO_5.out)) k_ hk)); (case aO => exact (by (with_reducible repeat (first | apply Kd.R_alloc | apply Kd.R_drewN | apply Kd.R_drew)); exact Kd.R_mono HO352.out (fun _ hk => hk.2))); (case aS => exact (below_size (by repeat (first | (with_reducible first | exact HB.out | apply below_alloc | apply pw_below_drewN | apply below_drew1) | exact HB.out)))); (case aL => have := LMc17.out; omega); intro v354 w21 ho hb hg hat; rw [← Ny353.out] at ho; have n0_ := Aside0.mk (Kd.R_after (ok := (fun _ => True)) (by (with_reducible repeat (first | apply Kd.R_alloc | apply Kd.R_drewN | apply Kd.R_drew)); exact HO_5.out) hg hat); have n1_ := Aside0.mk (hb); have n2_ := Aside0.mk (ho); clear HO_5; clear HB; clear HO352; have HO_5 := n0_; have HB := n1_; have HO355 := n2_; clear n0_ n1_ n2_; clear ho hb hg hat)); try go_wp2_with (first | ((with_reducible refine gate_dst (N := 76) rfl ?_); refine Kd.R_lit k47 _ 47 ?hg (N := 76) ?hd (xs := ([(⟨IntKind.u64.wrap ((IntKind.u64.wrap ((IntKind.u64.wrap ((IntKind.u64.wrap (((rd_T47 x5_1 0).f0) - (rd l0 x6_1))) - 1)) - (rd l0 (ji12)))) - 1), IntKind.u64.wrap ((IntKind.u64.wrap (((rd_T47 x5_1 0).f0) - (rd l0 x6_1))) - 1)⟩ : S47)] : List (S47))) (inner := [.int .u64 (IntKind.u64.wrap ((IntKind.u64.wrap ((IntKind.u64.wrap ((IntKind.u64.wrap (((rd_T47 x5_1 0).f0) - (rd l0 x6_1))) - 1)) - (rd l0 (ji12)))) - 1)), .int .u64 (IntKind.u64.wrap ((IntKind.u64.wrap (((rd_T47 x5_1 0).f0) - (rd l0 x6_1))) - 1))]) (ok := fun _ => True) (okp := fun _ => True) ?hr ?hp (fun _ hk => hk) trivial (Below.refl _ _) (Nat.le_refl _) (by simp) ?_; (case hd => rfl); (case hg => rfl); (case hr => first | (go_simp; done) | (go_simp; rfl)); (case hp => exact (Reps.c2 (show Kd.M k47 _ _ _ (⟨IntKind.u64.wrap ((IntKind.u64.wrap ((IntKind.u64.wrap ((IntKind.u64.wrap (((rd_T47 x5_1 0).f0) - (rd l0 x6_1))) - 1)) - (rd l0 (ji12)))) - 1), IntKind.u64.wrap ((IntKind.u64.wrap (((rd_T47 x5_1 0).f0) - (rd l0 x6_1))) - 1)⟩ : S47) [.int .u64 (IntKind.u64.wrap ((IntKind.u64.wrap ((IntKind.u64.wrap ((IntKind.u64.wrap (((rd_T47 x5_1 0).f0) - (rd l0 x6_1))) - 1)) - (rd l0 (ji12)))) - 1)), .int .u64 (IntKind.u64.wrap ((IntKind.u64.wrap (((rd_T47 x5_1 0).f0) - (rd l0 x6_1))) - 1))] from (k47_mkM _ _ _ (⟨IntKind.u64.wrap ((IntKind.u64.wrap ((IntKind.u64.wrap ((IntKind.u64.wrap (((rd_T47 x5_1 0).f0) - (rd l0 x6_1))) - 1)) - (rd l0 (ji12)))) - 1), IntKind.u64.wrap ((IntKind.u64.wrap (((rd_T47 x5_1 0).f0) - (rd l0 x6_1))) - 1)⟩ : S47) )) (Reps.none _ _))); intro v351 w19 ho20 hb hg_ hnew_; clear hg_ hnew_; (first | rw [← Ny350.out] at ho20 | (simp only [Int.reduceToNat] at ho20; rw [← Ny350.out] at ho20)); have n0_ := Aside0.mk (Kd.R_elder' (by (with_reducible repeat (first | apply Kd.R_alloc | apply Kd.R_drewN | apply Kd.R_drew)); exact HO_5.out) (Kd.R_base ho20) hb); have n1_ := Aside0.mk (Kd.R_lower (Kd.R_new' ho20 (Kd.R_lt (by (with_reducible repeat (first | apply Kd.R_alloc | apply Kd.R_drewN | apply Kd.R_drew)); exact HO_5.out))) (below_size (by repeat (first | (with_reducible first | exact HB.out | apply below_alloc | apply pw_below_drewN | apply below_drew1) | exact HB.out)))); have n2_ := Aside0.mk (below_step (by repeat (first | (with_reducible first | exact HB.out | apply below_alloc | apply pw_below_drewN | apply below_drew1) | exact HB.out)) hb); clear HO_5; clear HB; have HO_5 := n0_; have HO352 := n1_; have HB := n2_; clear n0_ n1_ n2_; clear hb ho20) | ((with_reducible refine gate_builtin (b := .append) (xs := #[.tmp 76, .tmp 77]) rfl ?_); at_builtin; refine Kd.R_append_rows k47 (w0 := w) w.heap.size rfl (.tmp 76) (.tmp 77) 25 47 (.agg #[(.int .u64 0), (.int .u64 0)]) 16 rfl Try.underlying25 info47 rfl (by decide) (by omega) v351 y350 x5_1 _ _ _ (fun k_ => some k_ ≠ (.slice (some ad344) x5_1.length co18 : Value).ownBlock) (fun _ => False) rfl rfl ?aO ?aR (fun _ _ h => h) (fun _ h => h.elim) ?aF ?aB ?aS ?aL ?_; (case aR => repeat (first | exact (Kd.R_reads' HO_5.out).2.2 | (with_reducible refine Kd.C_alloc ?_ _) | (with_reducible refine Kd.C_drewN ?_ _) | (with_reducible refine Kd.C_drew ?_))); (case aB => exact (by repeat (first | (with_reducible first | exact HB.out | apply below_alloc | apply pw_below_drewN | apply below_drew1) | exact HB.out))); (case aF => exact (fun k_ hk => Kd.fresh' (Kd.R_lt (by (with_reducible repeat (first | apply Kd.R_alloc | apply Kd.R_drewN | apply Kd.R_drew)); exact HO_5.out)) k_ hk)); (case aO => exact (by (with_reducible repeat (first | apply Kd.R_alloc | apply Kd.R_drewN | apply Kd.R_drew)); exact Kd.R_mono HO352.out (fun _ hk => hk.2))); (case aS => exact (below_size (by repeat (first | (with_reducible first | exact HB.out | apply below_alloc | apply pw_below_drewN | apply below_drew1) | exact HB.out)))); (case aL => have := LMc17.out; omega); intro v354 w21 ho hb hg hat; rw [← Ny353.out] at ho; have n0_ := Aside0.mk (Kd.R_after (ok := (fun _ => True)) (by (with_reducible repeat (first | apply Kd.R_alloc | apply Kd.R_drewN | apply Kd.R_drew)); exact HO_5.out) hg hat); have n1_ := Aside0.mk (hb); have n2_ := Aside0.mk (ho); clear HO_5; clear HB; clear HO352; have HO_5 := n0_; have HB := n1_; have HO355 := n2_; clear n0_ n1_ n2_; clear ho hb hg hat)))
                            go_roundg k1
                            case measure => have := HK1.out; omega
                            case rel => exact ⟨(y353), (wrap64 (x6_1 + 2)), (by first | rfl | (simp; done) | (simp [*]; done)), H', ⟨by have := HK1.out; omega⟩, ⟨by (with_reducible repeat (first | apply Kd.R_alloc | apply Kd.R_drewN | apply Kd.R_drew)); exact Kd.R_mono HO355.out (fun _ hk => trivial)⟩, ⟨by repeat (first | (with_reducible first | exact HB.out | apply below_alloc | apply pw_below_drewN | apply below_drew1) | exact HB.out)⟩⟩
                          · rw [if_neg c17] at H
                            exact absurd H (by simp)
                      · rw [if_neg c14] at H
                        exact absurd H (by simp)
                    · rw [if_neg c13] at H
                      exact absurd H (by simp)
                · rw [if_neg c9] at H
                  exact absurd H (by simp)
              · rw [if_neg c8] at H
                exact absurd H (by simp)
            · rw [if_neg c7] at H
              have c7b0 : decide (x6_1 < (l0.length : Int)) = false := decide_eq_false c7
              clear c7
              simp only [Option.some.injEq, Prod.mk.injEq] at H
              obtain ⟨rfl, rfl⟩ := H
              go_wp2
              repeat (go_quiet (fail); try go_wp2)
              go_ret2
              exact ⟨_, by first | rfl | (simp [errW_none, errW_some] <;> rfl) | (simp [*, errW_none, errW_some] <;> rfl), by (with_reducible repeat (first | apply Kd.R_alloc | apply Kd.R_drewN | apply Kd.R_drew)); exact HO_5.out, by repeat (first | (with_reducible first | exact HB.out | apply below_alloc | apply pw_below_drewN | apply below_drew1) | exact HB.out)⟩
    · rw [if_neg c3] at H
      exact absurd H (by simp)
  · rw [if_neg c2] at H
    exact absurd H (by simp)
attribute [local go_sem] max2_int min2_int max_two min_two max_three min_three max_four min_four   -- for this text's walks alone
set_option linter.unusedVariables false
set_option linter.unusedSimpArgs false
def wigwagref05_count.f (a0 : Int) : Option (Int) := if a0 = 4 then (some 3) else (if a0 = 6 then (some 3) else (if a0 = 14 then (some 3) else (if a0 = 5 then (some 2) else (if a0 = 17 then (some 2) else (if a0 = 21 then (some 2) else (if a0 = 16 then (some 1) else (if a0 = 18 then (some 1) else (if a0 = 20 then (some 1) else (if a0 = 28 then (some 1) else (some 0))))))))))
set_option maxHeartbeats 8000000 in
set_option maxRecDepth 100000 in
theorem wigwagref05_count.calls (a0 : Int) (r : Int) (w : World) (h : wigwagref05_count.f a0 = some r) :
    Calls Try.prog 47 #[.int .i64 a0] w fun e w' => e = .returned (.int .i64 r) ∧ Drawn0 w w' := by
  have H : (if a0 = 4 then (some 3) else (if a0 = 6 then (some 3) else (if a0 = 14 then (some 3) else (if a0 = 5 then (some 2) else (if a0 = 17 then (some 2) else (if a0 = 21 then (some 2) else (if a0 = 16 then (some 1) else (if a0 = 18 then (some 1) else (if a0 = 20 then (some 1) else (if a0 = 28 then (some 1) else (some 0))))))))))) = some r := h
  clear h
  by_cases c2 : a0 = 4
  · rw [if_pos c2] at H
    have c2b0 : (a0 == 4) = true := beq_iff_eq.mpr c2
    have c2b1 : (a0 != 4) = false := bne_eq_false_iff_eq.mpr c2
    clear c2
    obtain rfl := Option.some.inj H
    go_enter Try.func47, Try.ntmps47
    go_wp2
    go_ret
    exact ⟨by first | rfl | (simp; done) | (simp [*]; done), by repeat (first | exact Drawn0.refl _ | apply Drawn0.step)⟩
  · rw [if_neg c2] at H
    have c2b0 : (a0 == 4) = false := beq_eq_false_iff_ne.mpr c2
    have c2b1 : (a0 != 4) = true := bne_iff_ne.mpr c2
    by_cases c3 : a0 = 6
    · rw [if_pos c3] at H
      have c3b0 : (a0 == 6) = true := beq_iff_eq.mpr c3
      have c3b1 : (a0 != 6) = false := bne_eq_false_iff_eq.mpr c3
      clear c3
      obtain rfl := Option.some.inj H
      go_enter Try.func47, Try.ntmps47
      go_wp2
      go_ret
      exact ⟨by first | rfl | (simp; done) | (simp [*]; done), by repeat (first | exact Drawn0.refl _ | apply Drawn0.step)⟩
    · rw [if_neg c3] at H
      have c3b0 : (a0 == 6) = false := beq_eq_false_iff_ne.mpr c3
      have c3b1 : (a0 != 6) = true := bne_iff_ne.mpr c3
      by_cases c4 : a0 = 14
      · rw [if_pos c4] at H
        have c4b0 : (a0 == 14) = true := beq_iff_eq.mpr c4
        have c4b1 : (a0 != 14) = false := bne_eq_false_iff_eq.mpr c4
        clear c4
        obtain rfl := Option.some.inj H
        go_enter Try.func47, Try.ntmps47
        go_wp2
        go_ret
        exact ⟨by first | rfl | (simp; done) | (simp [*]; done), by repeat (first | exact Drawn0.refl _ | apply Drawn0.step)⟩
      · rw [if_neg c4] at H
        have c4b0 : (a0 == 14) = false := beq_eq_false_iff_ne.mpr c4
        have c4b1 : (a0 != 14) = true := bne_iff_ne.mpr c4
        by_cases c5 : a0 = 5
        · rw [if_pos c5] at H
          have c5b0 : (a0 == 5) = true := beq_iff_eq.mpr c5
          have c5b1 : (a0 != 5) = false := bne_eq_false_iff_eq.mpr c5
          clear c5
          obtain rfl := Option.some.inj H
          go_enter Try.func47, Try.ntmps47
          go_wp2
          go_ret
          exact ⟨by first | rfl | (simp; done) | (simp [*]; done), by repeat (first | exact Drawn0.refl _ | apply Drawn0.step)⟩
        · rw [if_neg c5] at H
          have c5b0 : (a0 == 5) = false := beq_eq_false_iff_ne.mpr c5
          have c5b1 : (a0 != 5) = true := bne_iff_ne.mpr c5
          by_cases c6 : a0 = 17
          · rw [if_pos c6] at H
            have c6b0 : (a0 == 17) = true := beq_iff_eq.mpr c6
            have c6b1 : (a0 != 17) = false := bne_eq_false_iff_eq.mpr c6
            clear c6
            obtain rfl := Option.some.inj H
            go_enter Try.func47, Try.ntmps47
            go_wp2
            go_ret
            exact ⟨by first | rfl | (simp; done) | (simp [*]; done), by repeat (first | exact Drawn0.refl _ | apply Drawn0.step)⟩
          · rw [if_neg c6] at H
            have c6b0 : (a0 == 17) = false := beq_eq_false_iff_ne.mpr c6
            have c6b1 : (a0 != 17) = true := bne_iff_ne.mpr c6
            by_cases c7 : a0 = 21
            · rw [if_pos c7] at H
              have c7b0 : (a0 == 21) = true := beq_iff_eq.mpr c7
              have c7b1 : (a0 != 21) = false := bne_eq_false_iff_eq.mpr c7
              clear c7
              obtain rfl := Option.some.inj H
              go_enter Try.func47, Try.ntmps47
              go_wp2
              go_ret
              exact ⟨by first | rfl | (simp; done) | (simp [*]; done), by repeat (first | exact Drawn0.refl _ | apply Drawn0.step)⟩
            · rw [if_neg c7] at H
              have c7b0 : (a0 == 21) = false := beq_eq_false_iff_ne.mpr c7
              have c7b1 : (a0 != 21) = true := bne_iff_ne.mpr c7
              by_cases c8 : a0 = 16
              · rw [if_pos c8] at H
                have c8b0 : (a0 == 16) = true := beq_iff_eq.mpr c8
                have c8b1 : (a0 != 16) = false := bne_eq_false_iff_eq.mpr c8
                clear c8
                obtain rfl := Option.some.inj H
                go_enter Try.func47, Try.ntmps47
                go_wp2
                go_ret
                exact ⟨by first | rfl | (simp; done) | (simp [*]; done), by repeat (first | exact Drawn0.refl _ | apply Drawn0.step)⟩
              · rw [if_neg c8] at H
                have c8b0 : (a0 == 16) = false := beq_eq_false_iff_ne.mpr c8
                have c8b1 : (a0 != 16) = true := bne_iff_ne.mpr c8
                by_cases c9 : a0 = 18
                · rw [if_pos c9] at H
                  have c9b0 : (a0 == 18) = true := beq_iff_eq.mpr c9
                  have c9b1 : (a0 != 18) = false := bne_eq_false_iff_eq.mpr c9
                  clear c9
                  obtain rfl := Option.some.inj H
                  go_enter Try.func47, Try.ntmps47
                  go_wp2
                  go_ret
                  exact ⟨by first | rfl | (simp; done) | (simp [*]; done), by repeat (first | exact Drawn0.refl _ | apply Drawn0.step)⟩
                · rw [if_neg c9] at H
                  have c9b0 : (a0 == 18) = false := beq_eq_false_iff_ne.mpr c9
                  have c9b1 : (a0 != 18) = true := bne_iff_ne.mpr c9
                  by_cases c10 : a0 = 20
                  · rw [if_pos c10] at H
                    have c10b0 : (a0 == 20) = true := beq_iff_eq.mpr c10
                    have c10b1 : (a0 != 20) = false := bne_eq_false_iff_eq.mpr c10
                    clear c10
                    obtain rfl := Option.some.inj H
                    go_enter Try.func47, Try.ntmps47
                    go_wp2
                    go_ret
                    exact ⟨by first | rfl | (simp; done) | (simp [*]; done), by repeat (first | exact Drawn0.refl _ | apply Drawn0.step)⟩
                  · rw [if_neg c10] at H
                    have c10b0 : (a0 == 20) = false := beq_eq_false_iff_ne.mpr c10
                    have c10b1 : (a0 != 20) = true := bne_iff_ne.mpr c10
                    by_cases c11 : a0 = 28
                    · rw [if_pos c11] at H
                      have c11b0 : (a0 == 28) = true := beq_iff_eq.mpr c11
                      have c11b1 : (a0 != 28) = false := bne_eq_false_iff_eq.mpr c11
                      clear c11
                      obtain rfl := Option.some.inj H
                      go_enter Try.func47, Try.ntmps47
                      go_wp2
                      go_ret
                      exact ⟨by first | rfl | (simp; done) | (simp [*]; done), by repeat (first | exact Drawn0.refl _ | apply Drawn0.step)⟩
                    · rw [if_neg c11] at H
                      have c11b0 : (a0 == 28) = false := beq_eq_false_iff_ne.mpr c11
                      have c11b1 : (a0 != 28) = true := bne_iff_ne.mpr c11
                      obtain rfl := Option.some.inj H
                      go_enter Try.func47, Try.ntmps47
                      go_wp2
                      go_ret
                      exact ⟨by first | rfl | (simp; done) | (simp [*]; done), by repeat (first | exact Drawn0.refl _ | apply Drawn0.step)⟩
end Go.Proofs.Ytphakdfholkbdaa.PFra
end
section
namespace Go.Proofs.Ytphakdfholkbdaa.PFra
open Go.RowKit Go.Proofs.YtphakdfholkbdaaW.PrintWords Go.Proofs.YtphakdfholkbdaaW.PrintLast Go.Proofs.YtphakdfholkbdaaW.PrintMore
set_option linter.unusedVariables false
set_option linter.unusedSimpArgs false
set_option maxRecDepth 100000
set_option maxHeartbeats 4000000
theorem wigwagref05_plain.way4 (x0 : Int) (x1 : Int) (x2 : Int) (L : List Int) (r0 : rd L 0 = x0) (r1 : rd L 1 = x1) (r2 : rd L 2 = x2) (A : Option Addr) (c : Nat) (w : World) (hn : 3 ≤ L.length) (hr : Kd.C (Kd.int .u64) w A L.length L) :
    Calls Try.prog 48 #[.int .i64 4, .slice A L.length c] w fun e w' => e = .returned (.agg #[.int .i64 4, .int .u64 x0, .int .u64 0, .int .u64 x2, .int .u64 x1, .int .u64 0, .int .u64 0, .bool false, .slice none 0 0, .slice none 0 0]) ∧ Below w.heap.size w w' := by
  have hu27 := Try.underlying27
  obtain ⟨ad, e0, c0⟩ := Kd.at_int hr 0 (by omega) (by omega)
  cases e0
  rw [show ((0 : Int)).toNat = 0 from rfl, Addr.add_zero', r0] at c0
  obtain ⟨ad1, e1, c1⟩ := Kd.at_int hr 1 (by omega) (by omega)
  obtain rfl : ad = ad1 := (by injection e1)
  rw [r1] at c1
  clear e1
  replace c1 : w.cell? ⟨ad.block, ad.off + 1, none⟩ = some (.int .u64 x1) := c1
  obtain ⟨ad2, e2, c2⟩ := Kd.at_int hr 2 (by omega) (by omega)
  obtain rfl : ad = ad2 := (by injection e2)
  rw [r2] at c2
  clear e2
  replace c2 : w.cell? ⟨ad.block, ad.off + 2, none⟩ = some (.int .u64 x2) := c2
  have s0 : (0 < (L.length : Int)) = True := eq_true (by omega)
  have s0' : (0 < L.length) = True := eq_true (by omega)
  clear r0
  have s1 : (1 < (L.length : Int)) = True := eq_true (by omega)
  have s1' : (1 < L.length) = True := eq_true (by omega)
  clear r1
  have s2 : (2 < (L.length : Int)) = True := eq_true (by omega)
  have s2' : (2 < L.length) = True := eq_true (by omega)
  clear r2
  have b0 : ad.block < w.heap.size := World.block_lt_of_cell? w _ c0
  have b1 : (ad.block == w.heap.size) = false := beq_eq_false_iff_ne.mpr (by omega)
  clear hr hn
  go_enter Try.func48, Try.ntmps48
  go_wp2
  exact bodyPost_ret (v := .agg #[.int .i64 4, .int .u64 x0, .int .u64 0, .int .u64 x2, .int .u64 x1, .int .u64 0, .int .u64 0, .bool false, .slice none 0 0, .slice none 0 0]) (by simp [results, Try.results48, go_sem]) rfl ⟨rfl, by repeat (first | (with_reducible exact Below.refl _ _) | (with_reducible refine below_set ?_ (by simp)) | (with_reducible apply pw_below_drewN) | (with_reducible apply below_alloc))⟩
theorem wigwagref05_plain.way5 (x0 : Int) (x1 : Int) (L : List Int) (r0 : rd L 0 = x0) (r1 : rd L 1 = x1) (A : Option Addr) (c : Nat) (w : World) (hn : 2 ≤ L.length) (hr : Kd.C (Kd.int .u64) w A L.length L) :
    Calls Try.prog 48 #[.int .i64 5, .slice A L.length c] w fun e w' => e = .returned (.agg #[.int .i64 5, .int .u64 x0, .int .u64 0, .int .u64 0, .int .u64 x1, .int .u64 0, .int .u64 0, .bool false, .slice none 0 0, .slice none 0 0]) ∧ Below w.heap.size w w' := by
  have hu27 := Try.underlying27
  obtain ⟨ad, e0, c0⟩ := Kd.at_int hr 0 (by omega) (by omega)
  cases e0
  rw [show ((0 : Int)).toNat = 0 from rfl, Addr.add_zero', r0] at c0
  obtain ⟨ad1, e1, c1⟩ := Kd.at_int hr 1 (by omega) (by omega)
  obtain rfl : ad = ad1 := (by injection e1)
  rw [r1] at c1
  clear e1
  replace c1 : w.cell? ⟨ad.block, ad.off + 1, none⟩ = some (.int .u64 x1) := c1
  have s0 : (0 < (L.length : Int)) = True := eq_true (by omega)
  have s0' : (0 < L.length) = True := eq_true (by omega)
  clear r0
  have s1 : (1 < (L.length : Int)) = True := eq_true (by omega)
  have s1' : (1 < L.length) = True := eq_true (by omega)
  clear r1
  have b0 : ad.block < w.heap.size := World.block_lt_of_cell? w _ c0
  have b1 : (ad.block == w.heap.size) = false := beq_eq_false_iff_ne.mpr (by omega)
  clear hr hn
  go_enter Try.func48, Try.ntmps48
  go_wp2
  exact bodyPost_ret (v := .agg #[.int .i64 5, .int .u64 x0, .int .u64 0, .int .u64 0, .int .u64 x1, .int .u64 0, .int .u64 0, .bool false, .slice none 0 0, .slice none 0 0]) (by simp [results, Try.results48, go_sem]) rfl ⟨rfl, by repeat (first | (with_reducible exact Below.refl _ _) | (with_reducible refine below_set ?_ (by simp)) | (with_reducible apply pw_below_drewN) | (with_reducible apply below_alloc))⟩
theorem wigwagref05_plain.way6 (x0 : Int) (x1 : Int) (x2 : Int) (L : List Int) (r0 : rd L 0 = x0) (r1 : rd L 1 = x1) (r2 : rd L 2 = x2) (A : Option Addr) (c : Nat) (w : World) (hn : 3 ≤ L.length) (hr : Kd.C (Kd.int .u64) w A L.length L) :
    Calls Try.prog 48 #[.int .i64 6, .slice A L.length c] w fun e w' => e = .returned (.agg #[.int .i64 6, .int .u64 x2, .int .u64 x1, .int .u64 x0, .int .u64 0, .int .u64 0, .int .u64 0, .bool false, .slice none 0 0, .slice none 0 0]) ∧ Below w.heap.size w w' := by
  have hu27 := Try.underlying27
  obtain ⟨ad, e0, c0⟩ := Kd.at_int hr 0 (by omega) (by omega)
  cases e0
  rw [show ((0 : Int)).toNat = 0 from rfl, Addr.add_zero', r0] at c0
  obtain ⟨ad1, e1, c1⟩ := Kd.at_int hr 1 (by omega) (by omega)
  obtain rfl : ad = ad1 := (by injection e1)
  rw [r1] at c1
  clear e1
  replace c1 : w.cell? ⟨ad.block, ad.off + 1, none⟩ = some (.int .u64 x1) := c1
  obtain ⟨ad2, e2, c2⟩ := Kd.at_int hr 2 (by omega) (by omega)
  obtain rfl : ad = ad2 := (by injection e2)
  rw [r2] at c2
  clear e2
  replace c2 : w.cell? ⟨ad.block, ad.off + 2, none⟩ = some (.int .u64 x2) := c2
  have s0 : (0 < (L.length : Int)) = True := eq_true (by omega)
  have s0' : (0 < L.length) = True := eq_true (by omega)
  clear r0
  have s1 : (1 < (L.length : Int)) = True := eq_true (by omega)
  have s1' : (1 < L.length) = True := eq_true (by omega)
  clear r1
  have s2 : (2 < (L.length : Int)) = True := eq_true (by omega)
  have s2' : (2 < L.length) = True := eq_true (by omega)
  clear r2
  have b0 : ad.block < w.heap.size := World.block_lt_of_cell? w _ c0
  have b1 : (ad.block == w.heap.size) = false := beq_eq_false_iff_ne.mpr (by omega)
  clear hr hn
  go_enter Try.func48, Try.ntmps48
  go_wp2
  exact bodyPost_ret (v := .agg #[.int .i64 6, .int .u64 x2, .int .u64 x1, .int .u64 x0, .int .u64 0, .int .u64 0, .int .u64 0, .bool false, .slice none 0 0, .slice none 0 0]) (by simp [results, Try.results48, go_sem]) rfl ⟨rfl, by repeat (first | (with_reducible exact Below.refl _ _) | (with_reducible refine below_set ?_ (by simp)) | (with_reducible apply pw_below_drewN) | (with_reducible apply below_alloc))⟩
theorem wigwagref05_plain.way14 (x0 : Int) (x1 : Int) (L : List Int) (r0 : rd L 0 = x0) (r1 : rd L 1 = x1) (A : Option Addr) (c : Nat) (w : World) (hn : 2 ≤ L.length) (hr : Kd.C (Kd.int .u64) w A L.length L) :
    Calls Try.prog 48 #[.int .i64 14, .slice A L.length c] w fun e w' => e = .returned (.agg #[.int .i64 14, .int .u64 x0, .int .u64 x1, .int .u64 0, .int .u64 0, .int .u64 0, .int .u64 0, .bool false, .slice none 0 0, .slice none 0 0]) ∧ Below w.heap.size w w' := by
  have hu27 := Try.underlying27
  obtain ⟨ad, e0, c0⟩ := Kd.at_int hr 0 (by omega) (by omega)
  cases e0
  rw [show ((0 : Int)).toNat = 0 from rfl, Addr.add_zero', r0] at c0
  obtain ⟨ad1, e1, c1⟩ := Kd.at_int hr 1 (by omega) (by omega)
  obtain rfl : ad = ad1 := (by injection e1)
  rw [r1] at c1
  clear e1
  replace c1 : w.cell? ⟨ad.block, ad.off + 1, none⟩ = some (.int .u64 x1) := c1
  have s0 : (0 < (L.length : Int)) = True := eq_true (by omega)
  have s0' : (0 < L.length) = True := eq_true (by omega)
  clear r0
  have s1 : (1 < (L.length : Int)) = True := eq_true (by omega)
  have s1' : (1 < L.length) = True := eq_true (by omega)
  clear r1
  have b0 : ad.block < w.heap.size := World.block_lt_of_cell? w _ c0
  have b1 : (ad.block == w.heap.size) = false := beq_eq_false_iff_ne.mpr (by omega)
  clear hr hn
  go_enter Try.func48, Try.ntmps48
  go_wp2
  exact bodyPost_ret (v := .agg #[.int .i64 14, .int .u64 x0, .int .u64 x1, .int .u64 0, .int .u64 0, .int .u64 0, .int .u64 0, .bool false, .slice none 0 0, .slice none 0 0]) (by simp [results, Try.results48, go_sem]) rfl ⟨rfl, by repeat (first | (with_reducible exact Below.refl _ _) | (with_reducible refine below_set ?_ (by simp)) | (with_reducible apply pw_below_drewN) | (with_reducible apply below_alloc))⟩
theorem wigwagref05_plain.way16 (x0 : Int) (L : List Int) (r0 : rd L 0 = x0) (A : Option Addr) (c : Nat) (w : World) (hn : 1 ≤ L.length) (hr : Kd.C (Kd.int .u64) w A L.length L) :
    Calls Try.prog 48 #[.int .i64 16, .slice A L.length c] w fun e w' => e = .returned (.agg #[.int .i64 16, .int .u64 0, .int .u64 0, .int .u64 x0, .int .u64 0, .int .u64 0, .int .u64 0, .bool false, .slice none 0 0, .slice none 0 0]) ∧ Below w.heap.size w w' := by
  have hu27 := Try.underlying27
  obtain ⟨ad, e0, c0⟩ := Kd.at_int hr 0 (by omega) (by omega)
  cases e0
  rw [show ((0 : Int)).toNat = 0 from rfl, Addr.add_zero', r0] at c0
  have s0 : (0 < (L.length : Int)) = True := eq_true (by omega)
  have s0' : (0 < L.length) = True := eq_true (by omega)
  clear r0
  have b0 : ad.block < w.heap.size := World.block_lt_of_cell? w _ c0
  have b1 : (ad.block == w.heap.size) = false := beq_eq_false_iff_ne.mpr (by omega)
  clear hr hn
  go_enter Try.func48, Try.ntmps48
  go_wp2
  exact bodyPost_ret (v := .agg #[.int .i64 16, .int .u64 0, .int .u64 0, .int .u64 x0, .int .u64 0, .int .u64 0, .int .u64 0, .bool false, .slice none 0 0, .slice none 0 0]) (by simp [results, Try.results48, go_sem]) rfl ⟨rfl, by repeat (first | (with_reducible exact Below.refl _ _) | (with_reducible refine below_set ?_ (by simp)) | (with_reducible apply pw_below_drewN) | (with_reducible apply below_alloc))⟩
theorem wigwagref05_plain.way18 (x0 : Int) (L : List Int) (r0 : rd L 0 = x0) (A : Option Addr) (c : Nat) (w : World) (hn : 1 ≤ L.length) (hr : Kd.C (Kd.int .u64) w A L.length L) :
    Calls Try.prog 48 #[.int .i64 18, .slice A L.length c] w fun e w' => e = .returned (.agg #[.int .i64 18, .int .u64 0, .int .u64 0, .int .u64 x0, .int .u64 0, .int .u64 0, .int .u64 0, .bool false, .slice none 0 0, .slice none 0 0]) ∧ Below w.heap.size w w' := by
  have hu27 := Try.underlying27
  obtain ⟨ad, e0, c0⟩ := Kd.at_int hr 0 (by omega) (by omega)
  cases e0
  rw [show ((0 : Int)).toNat = 0 from rfl, Addr.add_zero', r0] at c0
  have s0 : (0 < (L.length : Int)) = True := eq_true (by omega)
  have s0' : (0 < L.length) = True := eq_true (by omega)
  clear r0
  have b0 : ad.block < w.heap.size := World.block_lt_of_cell? w _ c0
  have b1 : (ad.block == w.heap.size) = false := beq_eq_false_iff_ne.mpr (by omega)
  clear hr hn
  go_enter Try.func48, Try.ntmps48
  go_wp2
  exact bodyPost_ret (v := .agg #[.int .i64 18, .int .u64 0, .int .u64 0, .int .u64 x0, .int .u64 0, .int .u64 0, .int .u64 0, .bool false, .slice none 0 0, .slice none 0 0]) (by simp [results, Try.results48, go_sem]) rfl ⟨rfl, by repeat (first | (with_reducible exact Below.refl _ _) | (with_reducible refine below_set ?_ (by simp)) | (with_reducible apply pw_below_drewN) | (with_reducible apply below_alloc))⟩
theorem wigwagref05_plain.way20 (x0 : Int) (L : List Int) (r0 : rd L 0 = x0) (A : Option Addr) (c : Nat) (w : World) (hn : 1 ≤ L.length) (hr : Kd.C (Kd.int .u64) w A L.length L) :
    Calls Try.prog 48 #[.int .i64 20, .slice A L.length c] w fun e w' => e = .returned (.agg #[.int .i64 20, .int .u64 0, .int .u64 0, .int .u64 x0, .int .u64 0, .int .u64 0, .int .u64 0, .bool false, .slice none 0 0, .slice none 0 0]) ∧ Below w.heap.size w w' := by
  have hu27 := Try.underlying27
  obtain ⟨ad, e0, c0⟩ := Kd.at_int hr 0 (by omega) (by omega)
  cases e0
  rw [show ((0 : Int)).toNat = 0 from rfl, Addr.add_zero', r0] at c0
  have s0 : (0 < (L.length : Int)) = True := eq_true (by omega)
  have s0' : (0 < L.length) = True := eq_true (by omega)
  clear r0
  have b0 : ad.block < w.heap.size := World.block_lt_of_cell? w _ c0
  have b1 : (ad.block == w.heap.size) = false := beq_eq_false_iff_ne.mpr (by omega)
  clear hr hn
  go_enter Try.func48, Try.ntmps48
  go_wp2
  exact bodyPost_ret (v := .agg #[.int .i64 20, .int .u64 0, .int .u64 0, .int .u64 x0, .int .u64 0, .int .u64 0, .int .u64 0, .bool false, .slice none 0 0, .slice none 0 0]) (by simp [results, Try.results48, go_sem]) rfl ⟨rfl, by repeat (first | (with_reducible exact Below.refl _ _) | (with_reducible refine below_set ?_ (by simp)) | (with_reducible apply pw_below_drewN) | (with_reducible apply below_alloc))⟩
theorem wigwagref05_plain.way17 (x0 : Int) (x1 : Int) (L : List Int) (r0 : rd L 0 = x0) (r1 : rd L 1 = x1) (A : Option Addr) (c : Nat) (w : World) (hn : 2 ≤ L.length) (hr : Kd.C (Kd.int .u64) w A L.length L) :
    Calls Try.prog 48 #[.int .i64 17, .slice A L.length c] w fun e w' => e = .returned (.agg #[.int .i64 17, .int .u64 x0, .int .u64 0, .int .u64 x1, .int .u64 0, .int .u64 0, .int .u64 0, .bool false, .slice none 0 0, .slice none 0 0]) ∧ Below w.heap.size w w' := by
  have hu27 := Try.underlying27
  obtain ⟨ad, e0, c0⟩ := Kd.at_int hr 0 (by omega) (by omega)
  cases e0
  rw [show ((0 : Int)).toNat = 0 from rfl, Addr.add_zero', r0] at c0
  obtain ⟨ad1, e1, c1⟩ := Kd.at_int hr 1 (by omega) (by omega)
  obtain rfl : ad = ad1 := (by injection e1)
  rw [r1] at c1
  clear e1
  replace c1 : w.cell? ⟨ad.block, ad.off + 1, none⟩ = some (.int .u64 x1) := c1
  have s0 : (0 < (L.length : Int)) = True := eq_true (by omega)
  have s0' : (0 < L.length) = True := eq_true (by omega)
  clear r0
  have s1 : (1 < (L.length : Int)) = True := eq_true (by omega)
  have s1' : (1 < L.length) = True := eq_true (by omega)
  clear r1
  have b0 : ad.block < w.heap.size := World.block_lt_of_cell? w _ c0
  have b1 : (ad.block == w.heap.size) = false := beq_eq_false_iff_ne.mpr (by omega)
  clear hr hn
  go_enter Try.func48, Try.ntmps48
  go_wp2
  exact bodyPost_ret (v := .agg #[.int .i64 17, .int .u64 x0, .int .u64 0, .int .u64 x1, .int .u64 0, .int .u64 0, .int .u64 0, .bool false, .slice none 0 0, .slice none 0 0]) (by simp [results, Try.results48, go_sem]) rfl ⟨rfl, by repeat (first | (with_reducible exact Below.refl _ _) | (with_reducible refine below_set ?_ (by simp)) | (with_reducible apply pw_below_drewN) | (with_reducible apply below_alloc))⟩
theorem wigwagref05_plain.way21 (x0 : Int) (x1 : Int) (L : List Int) (r0 : rd L 0 = x0) (r1 : rd L 1 = x1) (A : Option Addr) (c : Nat) (w : World) (hn : 2 ≤ L.length) (hr : Kd.C (Kd.int .u64) w A L.length L) :
    Calls Try.prog 48 #[.int .i64 21, .slice A L.length c] w fun e w' => e = .returned (.agg #[.int .i64 21, .int .u64 x0, .int .u64 0, .int .u64 x1, .int .u64 0, .int .u64 0, .int .u64 0, .bool false, .slice none 0 0, .slice none 0 0]) ∧ Below w.heap.size w w' := by
  have hu27 := Try.underlying27
  obtain ⟨ad, e0, c0⟩ := Kd.at_int hr 0 (by omega) (by omega)
  cases e0
  rw [show ((0 : Int)).toNat = 0 from rfl, Addr.add_zero', r0] at c0
  obtain ⟨ad1, e1, c1⟩ := Kd.at_int hr 1 (by omega) (by omega)
  obtain rfl : ad = ad1 := (by injection e1)
  rw [r1] at c1
  clear e1
  replace c1 : w.cell? ⟨ad.block, ad.off + 1, none⟩ = some (.int .u64 x1) := c1
  have s0 : (0 < (L.length : Int)) = True := eq_true (by omega)
  have s0' : (0 < L.length) = True := eq_true (by omega)
  clear r0
  have s1 : (1 < (L.length : Int)) = True := eq_true (by omega)
  have s1' : (1 < L.length) = True := eq_true (by omega)
  clear r1
  have b0 : ad.block < w.heap.size := World.block_lt_of_cell? w _ c0
  have b1 : (ad.block == w.heap.size) = false := beq_eq_false_iff_ne.mpr (by omega)
  clear hr hn
  go_enter Try.func48, Try.ntmps48
  go_wp2
  exact bodyPost_ret (v := .agg #[.int .i64 21, .int .u64 x0, .int .u64 0, .int .u64 x1, .int .u64 0, .int .u64 0, .int .u64 0, .bool false, .slice none 0 0, .slice none 0 0]) (by simp [results, Try.results48, go_sem]) rfl ⟨rfl, by repeat (first | (with_reducible exact Below.refl _ _) | (with_reducible refine below_set ?_ (by simp)) | (with_reducible apply pw_below_drewN) | (with_reducible apply below_alloc))⟩
theorem wigwagref05_plain.way28 (x0 : Int) (L : List Int) (r0 : rd L 0 = x0) (A : Option Addr) (c : Nat) (w : World) (hn : 1 ≤ L.length) (hr : Kd.C (Kd.int .u64) w A L.length L) :
    Calls Try.prog 48 #[.int .i64 28, .slice A L.length c] w fun e w' => e = .returned (.agg #[.int .i64 28, .int .u64 0, .int .u64 0, .int .u64 0, .int .u64 x0, .int .u64 0, .int .u64 0, .bool false, .slice none 0 0, .slice none 0 0]) ∧ Below w.heap.size w w' := by
  have hu27 := Try.underlying27
  obtain ⟨ad, e0, c0⟩ := Kd.at_int hr 0 (by omega) (by omega)
  cases e0
  rw [show ((0 : Int)).toNat = 0 from rfl, Addr.add_zero', r0] at c0
  have s0 : (0 < (L.length : Int)) = True := eq_true (by omega)
  have s0' : (0 < L.length) = True := eq_true (by omega)
  clear r0
  have b0 : ad.block < w.heap.size := World.block_lt_of_cell? w _ c0
  have b1 : (ad.block == w.heap.size) = false := beq_eq_false_iff_ne.mpr (by omega)
  clear hr hn
  go_enter Try.func48, Try.ntmps48
  go_wp2
  exact bodyPost_ret (v := .agg #[.int .i64 28, .int .u64 0, .int .u64 0, .int .u64 0, .int .u64 x0, .int .u64 0, .int .u64 0, .bool false, .slice none 0 0, .slice none 0 0]) (by simp [results, Try.results48, go_sem]) rfl ⟨rfl, by repeat (first | (with_reducible exact Below.refl _ _) | (with_reducible refine below_set ?_ (by simp)) | (with_reducible apply pw_below_drewN) | (with_reducible apply below_alloc))⟩
theorem wigwagref05_plain.way_ (K : Int) (L : List Int) (A : Option Addr) (c : Nat) (w : World) (hr : Kd.C (Kd.int .u64) w A L.length L) (n4 : ¬ K = 4) (n5 : ¬ K = 5) (n6 : ¬ K = 6) (n14 : ¬ K = 14) (n16 : ¬ K = 16) (n18 : ¬ K = 18) (n20 : ¬ K = 20) (n17 : ¬ K = 17) (n21 : ¬ K = 21) (n28 : ¬ K = 28) :
    Calls Try.prog 48 #[.int .i64 K, .slice A L.length c] w fun e w' => e = .returned (.agg #[.int .i64 K, .int .u64 0, .int .u64 0, .int .u64 0, .int .u64 0, .int .u64 0, .int .u64 0, .bool false, .slice none 0 0, .slice none 0 0]) ∧ Below w.heap.size w w' := by
  have hu27 := Try.underlying27
  have m4 : (K == 4) = false := beq_eq_false_iff_ne.mpr n4
  have m5 : (K == 5) = false := beq_eq_false_iff_ne.mpr n5
  have m6 : (K == 6) = false := beq_eq_false_iff_ne.mpr n6
  have m14 : (K == 14) = false := beq_eq_false_iff_ne.mpr n14
  have m16 : (K == 16) = false := beq_eq_false_iff_ne.mpr n16
  have m18 : (K == 18) = false := beq_eq_false_iff_ne.mpr n18
  have m20 : (K == 20) = false := beq_eq_false_iff_ne.mpr n20
  have m17 : (K == 17) = false := beq_eq_false_iff_ne.mpr n17
  have m21 : (K == 21) = false := beq_eq_false_iff_ne.mpr n21
  have m28 : (K == 28) = false := beq_eq_false_iff_ne.mpr n28
  clear n4 n5 n6 n14 n16 n18 n20 n17 n21 n28
  clear hr
  go_enter Try.func48, Try.ntmps48
  go_wp2
  exact bodyPost_ret (v := .agg #[.int .i64 K, .int .u64 0, .int .u64 0, .int .u64 0, .int .u64 0, .int .u64 0, .int .u64 0, .bool false, .slice none 0 0, .slice none 0 0]) (by simp [results, Try.results48, go_sem]) rfl ⟨rfl, by repeat (first | (with_reducible exact Below.refl _ _) | (with_reducible refine below_set ?_ (by simp)) | (with_reducible apply pw_below_drewN) | (with_reducible apply below_alloc))⟩
def wigwagref05_plain.f (a0 : Int) (l1 : List Int) : Option (Int × Int × Int × Int × Int × Int × Int × Bool × List Int × (List (S47))) := if a0 = 4 then (if 3 ≤ l1.length then some (a0, rd l1 0, 0, rd l1 2, rd l1 1, 0, 0, false, [], []) else none) else if a0 = 5 then (if 2 ≤ l1.length then some (a0, rd l1 0, 0, 0, rd l1 1, 0, 0, false, [], []) else none) else if a0 = 6 then (if 3 ≤ l1.length then some (a0, rd l1 2, rd l1 1, rd l1 0, 0, 0, 0, false, [], []) else none) else if a0 = 14 then (if 2 ≤ l1.length then some (a0, rd l1 0, rd l1 1, 0, 0, 0, 0, false, [], []) else none) else if a0 = 16 then (if 1 ≤ l1.length then some (a0, 0, 0, rd l1 0, 0, 0, 0, false, [], []) else none) else if a0 = 18 then (if 1 ≤ l1.length then some (a0, 0, 0, rd l1 0, 0, 0, 0, false, [], []) else none) else if a0 = 20 then (if 1 ≤ l1.length then some (a0, 0, 0, rd l1 0, 0, 0, 0, false, [], []) else none) else if a0 = 17 then (if 2 ≤ l1.length then some (a0, rd l1 0, 0, rd l1 1, 0, 0, 0, false, [], []) else none) else if a0 = 21 then (if 2 ≤ l1.length then some (a0, rd l1 0, 0, rd l1 1, 0, 0, 0, false, [], []) else none) else if a0 = 28 then (if 1 ≤ l1.length then some (a0, 0, 0, 0, rd l1 0, 0, 0, false, [], []) else none) else some (a0, 0, 0, 0, 0, 0, 0, false, [], [])
theorem wigwagref05_plain.calls (a0 : Int) (A1 : Option Addr) (c1 : Nat) (l1 : List Int) (r1 : Int) (r2 : Int) (r3 : Int) (r4 : Int) (r5 : Int) (r6 : Int) (r7 : Int) (r8 : Bool) (r9 : List Int) (r10 : List (S47)) (w : World) (hr1 : Kd.C (Kd.int .u64) w A1 l1.length l1) (hc1 : l1.length ≤ c1) (h : wigwagref05_plain.f a0 l1 = some (r1, r2, r3, r4, r5, r6, r7, r8, r9, r10)) :
    Calls Try.prog 48 #[.int .i64 a0, .slice A1 l1.length c1] w fun e w' => ∃ v8_ v9_ : Value, e = .returned (.agg #[.int .i64 r1, .int .u64 r2, .int .u64 r3, .int .u64 r4, .int .u64 r5, .int .u64 r6, .int .u64 r7, .bool r8, v8_, v9_]) ∧ Kd.R (Kd.int .u8) 5 w' w.heap.size (fun _ => True) v8_ r9 ∧ Kd.R k47 47 w' w.heap.size (fun _ => True) v9_ r10 ∧ Below w.heap.size w w' := by
  unfold wigwagref05_plain.f at h
  by_cases h4 : a0 = 4
  · rw [if_pos h4] at h; by_cases hn : 3 ≤ l1.length
    · rw [if_pos hn] at h; simp only [Option.some.injEq, Prod.mk.injEq] at h; obtain ⟨rfl, rfl, rfl, rfl, rfl, rfl, rfl, rfl, rfl, rfl⟩ := h; subst h4; exact (wigwagref05_plain.way4 _ _ _ l1 rfl rfl rfl A1 c1 w hn hr1).mono fun e w' ⟨he, hb⟩ => ⟨_, _, he, Kd.R_nil _ _ _ _ _, Kd.R_nil _ _ _ _ _, hb⟩
    · rw [if_neg hn] at h; cases h
  rw [if_neg h4] at h
  by_cases h5 : a0 = 5
  · rw [if_pos h5] at h; by_cases hn : 2 ≤ l1.length
    · rw [if_pos hn] at h; simp only [Option.some.injEq, Prod.mk.injEq] at h; obtain ⟨rfl, rfl, rfl, rfl, rfl, rfl, rfl, rfl, rfl, rfl⟩ := h; subst h5; exact (wigwagref05_plain.way5 _ _ l1 rfl rfl A1 c1 w hn hr1).mono fun e w' ⟨he, hb⟩ => ⟨_, _, he, Kd.R_nil _ _ _ _ _, Kd.R_nil _ _ _ _ _, hb⟩
    · rw [if_neg hn] at h; cases h
  rw [if_neg h5] at h
  by_cases h6 : a0 = 6
  · rw [if_pos h6] at h; by_cases hn : 3 ≤ l1.length
    · rw [if_pos hn] at h; simp only [Option.some.injEq, Prod.mk.injEq] at h; obtain ⟨rfl, rfl, rfl, rfl, rfl, rfl, rfl, rfl, rfl, rfl⟩ := h; subst h6; exact (wigwagref05_plain.way6 _ _ _ l1 rfl rfl rfl A1 c1 w hn hr1).mono fun e w' ⟨he, hb⟩ => ⟨_, _, he, Kd.R_nil _ _ _ _ _, Kd.R_nil _ _ _ _ _, hb⟩
    · rw [if_neg hn] at h; cases h
  rw [if_neg h6] at h
  by_cases h14 : a0 = 14
  · rw [if_pos h14] at h; by_cases hn : 2 ≤ l1.length
    · rw [if_pos hn] at h; simp only [Option.some.injEq, Prod.mk.injEq] at h; obtain ⟨rfl, rfl, rfl, rfl, rfl, rfl, rfl, rfl, rfl, rfl⟩ := h; subst h14; exact (wigwagref05_plain.way14 _ _ l1 rfl rfl A1 c1 w hn hr1).mono fun e w' ⟨he, hb⟩ => ⟨_, _, he, Kd.R_nil _ _ _ _ _, Kd.R_nil _ _ _ _ _, hb⟩
    · rw [if_neg hn] at h; cases h
  rw [if_neg h14] at h
  by_cases h16 : a0 = 16
  · rw [if_pos h16] at h; by_cases hn : 1 ≤ l1.length
    · rw [if_pos hn] at h; simp only [Option.some.injEq, Prod.mk.injEq] at h; obtain ⟨rfl, rfl, rfl, rfl, rfl, rfl, rfl, rfl, rfl, rfl⟩ := h; subst h16; exact (wigwagref05_plain.way16 _ l1 rfl A1 c1 w hn hr1).mono fun e w' ⟨he, hb⟩ => ⟨_, _, he, Kd.R_nil _ _ _ _ _, Kd.R_nil _ _ _ _ _, hb⟩
    · rw [if_neg hn] at h; cases h
  rw [if_neg h16] at h
  by_cases h18 : a0 = 18
  · rw [if_pos h18] at h; by_cases hn : 1 ≤ l1.length
    · rw [if_pos hn] at h; simp only [Option.some.injEq, Prod.mk.injEq] at h; obtain ⟨rfl, rfl, rfl, rfl, rfl, rfl, rfl, rfl, rfl, rfl⟩ := h; subst h18; exact (wigwagref05_plain.way18 _ l1 rfl A1 c1 w hn hr1).mono fun e w' ⟨he, hb⟩ => ⟨_, _, he, Kd.R_nil _ _ _ _ _, Kd.R_nil _ _ _ _ _, hb⟩
    · rw [if_neg hn] at h; cases h
  rw [if_neg h18] at h
  by_cases h20 : a0 = 20
  · rw [if_pos h20] at h; by_cases hn : 1 ≤ l1.length
    · rw [if_pos hn] at h; simp only [Option.some.injEq, Prod.mk.injEq] at h; obtain ⟨rfl, rfl, rfl, rfl, rfl, rfl, rfl, rfl, rfl, rfl⟩ := h; subst h20; exact (wigwagref05_plain.way20 _ l1 rfl A1 c1 w hn hr1).mono fun e w' ⟨he, hb⟩ => ⟨_, _, he, Kd.R_nil _ _ _ _ _, Kd.R_nil _ _ _ _ _, hb⟩
    · rw [if_neg hn] at h; cases h
  rw [if_neg h20] at h
  by_cases h17 : a0 = 17
  · rw [if_pos h17] at h; by_cases hn : 2 ≤ l1.length
    · rw [if_pos hn] at h; simp only [Option.some.injEq, Prod.mk.injEq] at h; obtain ⟨rfl, rfl, rfl, rfl, rfl, rfl, rfl, rfl, rfl, rfl⟩ := h; subst h17; exact (wigwagref05_plain.way17 _ _ l1 rfl rfl A1 c1 w hn hr1).mono fun e w' ⟨he, hb⟩ => ⟨_, _, he, Kd.R_nil _ _ _ _ _, Kd.R_nil _ _ _ _ _, hb⟩
    · rw [if_neg hn] at h; cases h
  rw [if_neg h17] at h
  by_cases h21 : a0 = 21
  · rw [if_pos h21] at h; by_cases hn : 2 ≤ l1.length
    · rw [if_pos hn] at h; simp only [Option.some.injEq, Prod.mk.injEq] at h; obtain ⟨rfl, rfl, rfl, rfl, rfl, rfl, rfl, rfl, rfl, rfl⟩ := h; subst h21; exact (wigwagref05_plain.way21 _ _ l1 rfl rfl A1 c1 w hn hr1).mono fun e w' ⟨he, hb⟩ => ⟨_, _, he, Kd.R_nil _ _ _ _ _, Kd.R_nil _ _ _ _ _, hb⟩
    · rw [if_neg hn] at h; cases h
  rw [if_neg h21] at h
  by_cases h28 : a0 = 28
  · rw [if_pos h28] at h; by_cases hn : 1 ≤ l1.length
    · rw [if_pos hn] at h; simp only [Option.some.injEq, Prod.mk.injEq] at h; obtain ⟨rfl, rfl, rfl, rfl, rfl, rfl, rfl, rfl, rfl, rfl⟩ := h; subst h28; exact (wigwagref05_plain.way28 _ l1 rfl A1 c1 w hn hr1).mono fun e w' ⟨he, hb⟩ => ⟨_, _, he, Kd.R_nil _ _ _ _ _, Kd.R_nil _ _ _ _ _, hb⟩
    · rw [if_neg hn] at h; cases h
  rw [if_neg h28] at h
  simp only [Option.some.injEq, Prod.mk.injEq] at h; obtain ⟨rfl, rfl, rfl, rfl, rfl, rfl, rfl, rfl, rfl, rfl⟩ := h; exact (wigwagref05_plain.way_ a0 l1 A1 c1 w hr1 h4 h5 h6 h14 h16 h18 h20 h17 h21 h28).mono fun e w' ⟨he, hb⟩ => ⟨_, _, he, Kd.R_nil _ _ _ _ _, Kd.R_nil _ _ _ _ _, hb⟩
end Go.Proofs.Ytphakdfholkbdaa.PFra
end
