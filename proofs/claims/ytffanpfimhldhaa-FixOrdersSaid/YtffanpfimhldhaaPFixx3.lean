-- Written by a program of this session (wip/tools/xprint.py) for this claim.
import Derived.Test.YtffanpfimhldhaaPFixx0
import Derived.Test.YtffanpfimhldhaaPFixx1
import Derived.Test.YtffanpfimhldhaaPFixx2
namespace Go.Proofs.Ytffanpfimhldhaa.PFix
open Go.RowKit Go.Proofs.YtffanpfimhldhaaW.PrintWords Go.Proofs.YtffanpfimhldhaaW.PrintLast Go.Proofs.YtffanpfimhldhaaW.PrintMore
attribute [local go_sem] max2_int min2_int max_two min_two max_three min_three max_four min_four   -- for this text's walks alone
set_option linter.unusedVariables false
set_option linter.unusedSimpArgs false

/-! ### wigwagref01_MulDiv: function 18 -/
mutual
def wigwagref01_MulDiv.j0 : Nat → Int → Int → Int → Bool → Option (Int)
  | 0, _, _, _, _ => none
  | k + 1, x2, x7, x8, x24 => if x24 = true then (some 0) else (if x7 ≥ x2 then (some 18446744073709551615) else (wigwagref01_MulDiv.l0 k x2 x8 x7 0 63))
def wigwagref01_MulDiv.l0 : Nat → Int → Int → Int → Int → Int → Option (Int)
  | 0, _, _, _, _, _ => none
  | k + 1, x2, x8, x9, x10, x11 => if x11 ≥ 0 then (if 0 ≤ (IntKind.u64.wrap (x11)) then (if (x9 / 9223372036854775808) = 1 then (wigwagref01_MulDiv.l0 k x2 x8 (IntKind.u64.wrap ((IntKind.u64.wrap ((IntKind.u64.wrap (x9 * 2)) + (Go.bits .and .u64 (shr .u64 x8 (IntKind.u64.wrap (x11))) 1))) - x2)) (IntKind.u64.wrap ((IntKind.u64.wrap (x10 * 2)) + 1)) (wrap64 (x11 - 1))) else (if (IntKind.u64.wrap ((IntKind.u64.wrap (x9 * 2)) + (Go.bits .and .u64 (shr .u64 x8 (IntKind.u64.wrap (x11))) 1))) ≥ x2 then (wigwagref01_MulDiv.l0 k x2 x8 (IntKind.u64.wrap ((IntKind.u64.wrap ((IntKind.u64.wrap (x9 * 2)) + (Go.bits .and .u64 (shr .u64 x8 (IntKind.u64.wrap (x11))) 1))) - x2)) (IntKind.u64.wrap ((IntKind.u64.wrap (x10 * 2)) + 1)) (wrap64 (x11 - 1))) else (wigwagref01_MulDiv.l0 k x2 x8 (IntKind.u64.wrap ((IntKind.u64.wrap (x9 * 2)) + (Go.bits .and .u64 (shr .u64 x8 (IntKind.u64.wrap (x11))) 1))) (IntKind.u64.wrap (x10 * 2)) (wrap64 (x11 - 1))))) else (none)) else (some x10)
end
def wigwagref01_MulDiv.f (k : Nat) (a0 : Int) (a1 : Int) (a2 : Int) : Option (Int) := (wigwagref01_wide.f a0 a1).bind fun bt117 => (if bt117.1 = 0 then (wigwagref01_MulDiv.j0 k a2 bt117.1 bt117.2 (bt117.2 == 0)) else (wigwagref01_MulDiv.j0 k a2 bt117.1 bt117.2 false))
theorem wigwagref01_MulDiv.mono_l : ∀ k, (∀ y0 y1 y2 y3, LeO (wigwagref01_MulDiv.j0 k y0 y1 y2 y3) (wigwagref01_MulDiv.j0 (k + 1) y0 y1 y2 y3)) ∧ (∀ y0 y1 y2 y3 y4, LeO (wigwagref01_MulDiv.l0 k y0 y1 y2 y3 y4) (wigwagref01_MulDiv.l0 (k + 1) y0 y1 y2 y3 y4))
  | 0 => ⟨fun _ _ _ _ r h => by simp [wigwagref01_MulDiv.j0] at h, fun _ _ _ _ _ r h => by simp [wigwagref01_MulDiv.l0] at h⟩
  | k + 1 => by
    obtain ⟨ih0, ih1⟩ := wigwagref01_MulDiv.mono_l k
    refine ⟨?_, ?_⟩
    · intro y0 y1 y2 y3
      unfold wigwagref01_MulDiv.j0
      repeat' first
      | (with_reducible exact ih0 _ _ _ _)
      | (with_reducible exact ih1 _ _ _ _ _)
      | (with_reducible exact LeO.refl _)
      | (with_reducible exact LeO.none _)
      | (with_reducible refine LeO.ite ?_ ?_)
      | (with_reducible refine LeO.bind ?_ (fun _ => ?_))
      | exact ih0 _ _ _ _
      | exact ih1 _ _ _ _ _
      | exact LeO.none _
      | refine LeO.ite ?_ ?_
      | refine LeO.bind ?_ (fun _ => ?_)
    · intro y0 y1 y2 y3 y4
      unfold wigwagref01_MulDiv.l0
      repeat' first
      | (with_reducible exact ih0 _ _ _ _)
      | (with_reducible exact ih1 _ _ _ _ _)
      | (with_reducible exact LeO.refl _)
      | (with_reducible exact LeO.none _)
      | (with_reducible refine LeO.ite ?_ ?_)
      | (with_reducible refine LeO.bind ?_ (fun _ => ?_))
      | exact ih0 _ _ _ _
      | exact ih1 _ _ _ _ _
      | exact LeO.none _
      | refine LeO.ite ?_ ?_
      | refine LeO.bind ?_ (fun _ => ?_)
theorem wigwagref01_MulDiv.mono : ∀ a0 a1 a2 k, LeO (wigwagref01_MulDiv.f k a0 a1 a2) (wigwagref01_MulDiv.f (k + 1) a0 a1 a2) := by
  intro a0 a1 a2 k
  obtain ⟨ih0, ih1⟩ := wigwagref01_MulDiv.mono_l k
  unfold wigwagref01_MulDiv.f
  repeat' first
      | (with_reducible exact ih0 _ _ _ _)
      | (with_reducible exact ih1 _ _ _ _ _)
      | (with_reducible exact LeO.refl _)
      | (with_reducible exact LeO.none _)
      | (with_reducible refine LeO.ite ?_ ?_)
      | (with_reducible refine LeO.bind ?_ (fun _ => ?_))
      | exact ih0 _ _ _ _
      | exact ih1 _ _ _ _ _
      | exact LeO.none _
      | refine LeO.ite ?_ ?_
      | refine LeO.bind ?_ (fun _ => ?_)
set_option maxHeartbeats 8000000 in
set_option maxRecDepth 100000 in
theorem wigwagref01_MulDiv.calls (k : Nat) (a0 : Int) (a1 : Int) (a2 : Int) (r : Int) (w : World) (h : wigwagref01_MulDiv.f k a0 a1 a2 = some r) :
    Calls Try.prog 18 #[.int .u64 a0, .int .u64 a1, .int .u64 a2] w fun e w' => e = .returned (.int .u64 r) ∧ Drawn0 w w' := by
  have H : ((wigwagref01_wide.f a0 a1).bind fun bt117 => (if bt117.1 = 0 then (wigwagref01_MulDiv.j0 k a2 bt117.1 bt117.2 (bt117.2 == 0)) else (wigwagref01_MulDiv.j0 k a2 bt117.1 bt117.2 false))) = some r := h
  clear h
  replace H := Option.bind_eq_some_iff.mp H
  obtain ⟨⟨t117, t118⟩, A40, H⟩ := H
  replace H : (if t117 = 0 then (wigwagref01_MulDiv.j0 k a2 t117 t118 (t118 == 0)) else (wigwagref01_MulDiv.j0 k a2 t117 t118 false)) = some r := H
  have A4 := Aside0.mk A40
  clear A40
  have HC5 := Aside0.mk H
  clear H
  go_enter Try.func18, Try.ntmps18
  go_upto_region 2 with (first | ((with_reducible refine gate_callee (f := 26) rfl ?_); refine goesL_ (some 16) rfl rfl Try.func26 (by kernel_rfl) rfl #[.int .u64 a0, .int .u64 a1] rfl (by (try simp only [List.map_toArray, List.map_cons, List.map_nil]); first | done | rfl | (simp only [List.length_drop, List.length_take]; rfl)) ?_; (with_reducible refine (wigwagref01_wide.calls a0 a1 t117 t118 _ A4.out).mono ?_); rintro e w' ⟨rfl, ⟨nd, rfl⟩⟩; refine ⟨_, rfl, ?_⟩))
  (try simp only [Act.put, List.setIfInBounds_toArray, List.set_cons_zero, List.set_cons_succ])
  go_cut [24] (fun v24 wc => ∃ (kq : Nat) (x24_4 : Bool), v24 = .bool x24_4 ∧ Aside0 (wigwagref01_MulDiv.j0 kq a2 t117 t118 x24_4 = some r) ∧ Aside0 (kq ≤ k) ∧ Drawn0 w wc)
  case first =>
    have H := HC5.out
    clear HC5
    by_cases c6 : t117 = 0
    · rw [if_pos c6] at H
      have c6b0 : (t117 == 0) = true := beq_iff_eq.mpr c6
      have c6b1 : (t117 != 0) = false := bne_eq_false_iff_eq.mpr c6
      clear c6
      (first | rw [c6b0] | (simp only [i64_w, i32_w]; rw [c6b0]) | skip)
      have H' := Aside0.mk H
      clear H
      go_wp2
      go_meet
      case rel => exact ⟨_, ((t118 == 0)), (by first | rfl | (simp; done) | (simp [*]; done)), H', ⟨by first | omega | exact Nat.le_refl _⟩, by repeat (first | exact Drawn0.refl _ | apply Drawn0.step)⟩
    · rw [if_neg c6] at H
      have c6b0 : (t117 == 0) = false := beq_eq_false_iff_ne.mpr c6
      have c6b1 : (t117 != 0) = true := bne_iff_ne.mpr c6
      (first | rw [c6b0] | (simp only [i64_w, i32_w]; rw [c6b0]) | skip)
      have H' := Aside0.mk H
      clear H
      go_wp2
      go_meet
      case rel => exact ⟨_, (false), (by first | rfl | (simp; done) | (simp [*]; done)), H', ⟨by first | omega | exact Nat.le_refl _⟩, by repeat (first | exact Drawn0.refl _ | apply Drawn0.step)⟩
  case rest =>
    clear HC5
    try clear c1
    try clear c2
    try clear p2
    try clear c6
    try clear c6b0
    try clear c6b1
    obtain ⟨kq, x24_4, rfl, HA, HJ4, ⟨mc4, rfl⟩⟩ := hcut
    cases kq with
    | zero => exact absurd HA.out (by simp [wigwagref01_MulDiv.j0])
    | succ kj4 =>
      have H := HA.out
      clear HA
      simp only [wigwagref01_MulDiv.j0] at H
      by_cases c7 : x24_4 = true
      · subst c7
        have H1 : (some 0) = some r := by rw [if_pos rfl] at H; exact H
        clear H
        have H := H1
        clear H1
        obtain rfl := Option.some.inj H
        go_wp2
        go_ret
        exact ⟨by first | rfl | (simp; done) | (simp [*]; done), by repeat (first | exact Drawn0.refl _ | apply Drawn0.step)⟩
      · replace c7 := Bool.eq_false_iff.mpr c7
        subst c7
        have H1 : (if t117 ≥ a2 then (some 18446744073709551615) else (wigwagref01_MulDiv.l0 kj4 a2 t118 t117 0 63)) = some r := by rw [if_neg (show ¬ (false = true) by decide)] at H; exact H
        clear H
        have H := H1
        clear H1
        by_cases c8 : t117 ≥ a2
        · rw [if_pos c8] at H
          have c8b0 : decide (a2 ≤ t117) = true := decide_eq_true c8
          clear c8
          obtain rfl := Option.some.inj H
          go_wp2
          go_ret
          exact ⟨by first | rfl | (simp; done) | (simp [*]; done), by repeat (first | exact Drawn0.refl _ | apply Drawn0.step)⟩
        · rw [if_neg c8] at H
          have c8b0 : decide (a2 ≤ t117) = false := decide_eq_false c8
          clear c8
          have H' := Aside0.mk H
          clear H
          go_wp2
          go_loopg [9, 10, 11] kj4 (fun kq v9 v10 v11 w' => ∃ (x9_2 : Int) (x10_2 : Int) (x11_2 : Int), v9 = .int .u64 x9_2 ∧ v10 = .int .u64 x10_2 ∧ v11 = .int .i64 x11_2 ∧ Aside0 (wigwagref01_MulDiv.l0 kq a2 t118 x9_2 x10_2 x11_2 = some r) ∧ Aside0 (kq ≤ kj4) ∧ Drawn0 w w')
          case atStart => exact ⟨(t117), (0), (63), (by first | rfl | (simp; done) | (simp [*]; done)), (by first | rfl | (simp; done) | (simp [*]; done)), (by first | rfl | (simp; done) | (simp [*]; done)), H', ⟨Nat.le_refl _⟩, by repeat (first | exact Drawn0.refl _ | apply Drawn0.step)⟩
          case round =>
            clear H'
            try clear c1
            try clear c2
            try clear p2
            try clear c4
            try clear c6
            try clear c6b0
            try clear c6b1
            try clear c7
            try clear c8
            try clear c8b0
            try clear p2
            obtain ⟨x9_2, x10_2, x11_2, rfl, rfl, rfl, HA, HK2, ⟨m2, rfl⟩⟩ := hrel
            cases gk with
            | zero => exact absurd HA.out (by simp [wigwagref01_MulDiv.l0])
            | succ k2 =>
              have H := HA.out
              clear HA
              simp only [wigwagref01_MulDiv.l0] at H
              by_cases c9 : x11_2 ≥ 0
              · rw [if_pos c9] at H
                have c9b0 : decide (0 ≤ x11_2) = true := decide_eq_true c9
                clear c9
                obtain ⟨ji10, hji10⟩ : ∃ j_ : Int, (IntKind.u64.wrap (x11_2)) = j_ := ⟨_, rfl⟩
                replace H : (if 0 ≤ (ji10) then (if (x9_2 / 9223372036854775808) = 1 then (wigwagref01_MulDiv.l0 k2 a2 t118 (IntKind.u64.wrap ((IntKind.u64.wrap ((IntKind.u64.wrap (x9_2 * 2)) + (Go.bits .and .u64 (shr .u64 t118 (ji10)) 1))) - a2)) (IntKind.u64.wrap ((IntKind.u64.wrap (x10_2 * 2)) + 1)) (wrap64 (x11_2 - 1))) else (if (IntKind.u64.wrap ((IntKind.u64.wrap (x9_2 * 2)) + (Go.bits .and .u64 (shr .u64 t118 (ji10)) 1))) ≥ a2 then (wigwagref01_MulDiv.l0 k2 a2 t118 (IntKind.u64.wrap ((IntKind.u64.wrap ((IntKind.u64.wrap (x9_2 * 2)) + (Go.bits .and .u64 (shr .u64 t118 (ji10)) 1))) - a2)) (IntKind.u64.wrap ((IntKind.u64.wrap (x10_2 * 2)) + 1)) (wrap64 (x11_2 - 1))) else (wigwagref01_MulDiv.l0 k2 a2 t118 (IntKind.u64.wrap ((IntKind.u64.wrap (x9_2 * 2)) + (Go.bits .and .u64 (shr .u64 t118 (ji10)) 1))) (IntKind.u64.wrap (x10_2 * 2)) (wrap64 (x11_2 - 1))))) else (none)) = some r := by first | (rw [hji10] at H; exact H) | (simp only [hji10] at H ⊢; exact H)
                by_cases c11 : 0 ≤ (ji10)
                · rw [if_pos c11] at H
                  have c11b0 := eq_true c11
                  have c11b1 : decide (0 ≤ (ji10)) = true := decide_eq_true c11
                  clear c11
                  obtain ⟨ji12, hji12⟩ : ∃ j_ : Int, (shr .u64 t118 (ji10)) = j_ := ⟨_, rfl⟩
                  replace H : (if (x9_2 / 9223372036854775808) = 1 then (wigwagref01_MulDiv.l0 k2 a2 t118 (IntKind.u64.wrap ((IntKind.u64.wrap ((IntKind.u64.wrap (x9_2 * 2)) + (Go.bits .and .u64 (ji12) 1))) - a2)) (IntKind.u64.wrap ((IntKind.u64.wrap (x10_2 * 2)) + 1)) (wrap64 (x11_2 - 1))) else (if (IntKind.u64.wrap ((IntKind.u64.wrap (x9_2 * 2)) + (Go.bits .and .u64 (ji12) 1))) ≥ a2 then (wigwagref01_MulDiv.l0 k2 a2 t118 (IntKind.u64.wrap ((IntKind.u64.wrap ((IntKind.u64.wrap (x9_2 * 2)) + (Go.bits .and .u64 (ji12) 1))) - a2)) (IntKind.u64.wrap ((IntKind.u64.wrap (x10_2 * 2)) + 1)) (wrap64 (x11_2 - 1))) else (wigwagref01_MulDiv.l0 k2 a2 t118 (IntKind.u64.wrap ((IntKind.u64.wrap (x9_2 * 2)) + (Go.bits .and .u64 (ji12) 1))) (IntKind.u64.wrap (x10_2 * 2)) (wrap64 (x11_2 - 1))))) = some r := by first | (rw [hji12] at H; exact H) | (simp only [hji12] at H ⊢; exact H)
                  have hji12_ : (t118 / 2 ^ min (ji10).toNat 64) = ji12 := hji12
                  have hji12z : (ji10) ≤ 64 → (t118 / 2 ^ (ji10).toNat) = ji12 := shr_small hji12
                  by_cases c13 : (x9_2 / 9223372036854775808) = 1
                  · rw [if_pos c13] at H
                    have c13b0 : ((x9_2 / 9223372036854775808) == 1) = true := beq_iff_eq.mpr c13
                    have c13b1 : ((x9_2 / 9223372036854775808) != 1) = false := bne_eq_false_iff_eq.mpr c13
                    clear c13
                    have H' := Aside0.mk H
                    clear H
                    go_wp2
                    go_roundg k2
                    case measure => have := HJ4.out; have := HK2.out; omega
                    case rel => exact ⟨(IntKind.u64.wrap ((IntKind.u64.wrap ((IntKind.u64.wrap (x9_2 * 2)) + (Go.bits .and .u64 (ji12) 1))) - a2)), (IntKind.u64.wrap ((IntKind.u64.wrap (x10_2 * 2)) + 1)), (wrap64 (x11_2 - 1)), (by first | rfl | (simp; done) | (simp only [← hji12] <;> (first | rfl | simp)) | (simp [*]; done)), (by first | rfl | (simp; done) | (simp [*]; done)), (by first | rfl | (simp; done) | (simp [*]; done)), H', ⟨by have := HJ4.out; have := HK2.out; omega⟩, by repeat (first | exact Drawn0.refl _ | apply Drawn0.step)⟩
                  · rw [if_neg c13] at H
                    have c13b0 : ((x9_2 / 9223372036854775808) == 1) = false := beq_eq_false_iff_ne.mpr c13
                    have c13b1 : ((x9_2 / 9223372036854775808) != 1) = true := bne_iff_ne.mpr c13
                    by_cases c14 : (IntKind.u64.wrap ((IntKind.u64.wrap (x9_2 * 2)) + (Go.bits .and .u64 (ji12) 1))) ≥ a2
                    · rw [if_pos c14] at H
                      have c14b0 : decide (a2 ≤ (IntKind.u64.wrap ((IntKind.u64.wrap (x9_2 * 2)) + (Go.bits .and .u64 (ji12) 1)))) = true := decide_eq_true c14
                      clear c14
                      have H' := Aside0.mk H
                      clear H
                      go_wp2
                      go_roundg k2
                      case measure => have := HJ4.out; have := HK2.out; omega
                      case rel => exact ⟨(IntKind.u64.wrap ((IntKind.u64.wrap ((IntKind.u64.wrap (x9_2 * 2)) + (Go.bits .and .u64 (ji12) 1))) - a2)), (IntKind.u64.wrap ((IntKind.u64.wrap (x10_2 * 2)) + 1)), (wrap64 (x11_2 - 1)), (by first | rfl | (simp; done) | (simp only [← hji12] <;> (first | rfl | simp)) | (simp [*]; done)), (by first | rfl | (simp; done) | (simp [*]; done)), (by first | rfl | (simp; done) | (simp [*]; done)), H', ⟨by have := HJ4.out; have := HK2.out; omega⟩, by repeat (first | exact Drawn0.refl _ | apply Drawn0.step)⟩
                    · rw [if_neg c14] at H
                      have c14b0 : decide (a2 ≤ (IntKind.u64.wrap ((IntKind.u64.wrap (x9_2 * 2)) + (Go.bits .and .u64 (ji12) 1)))) = false := decide_eq_false c14
                      clear c14
                      have H' := Aside0.mk H
                      clear H
                      go_wp2
                      go_roundg k2
                      case measure => have := HJ4.out; have := HK2.out; omega
                      case rel => exact ⟨(IntKind.u64.wrap ((IntKind.u64.wrap (x9_2 * 2)) + (Go.bits .and .u64 (ji12) 1))), (IntKind.u64.wrap (x10_2 * 2)), (wrap64 (x11_2 - 1)), (by first | rfl | (simp; done) | (simp only [← hji12] <;> (first | rfl | simp)) | (simp [*]; done)), (by first | rfl | (simp; done) | (simp [*]; done)), (by first | rfl | (simp; done) | (simp [*]; done)), H', ⟨by have := HJ4.out; have := HK2.out; omega⟩, by repeat (first | exact Drawn0.refl _ | apply Drawn0.step)⟩
                · rw [if_neg c11] at H
                  exact absurd H (by simp)
              · rw [if_neg c9] at H
                have c9b0 : decide (0 ≤ x11_2) = false := decide_eq_false c9
                clear c9
                obtain rfl := Option.some.inj H
                go_wp2
                go_ret
                exact ⟨by first | rfl | (simp; done) | (simp [*]; done), by repeat (first | exact Drawn0.refl _ | apply Drawn0.step)⟩

/-! ### wigwagref01_MulDivT: function 18, told anew -/
theorem wide_tells (a b : Int) (h1 : W64 a) (h2 : W64 b) : wigwagref01_wide.f a b = some (a * b / 18446744073709551616, a * b % 18446744073709551616) := by
  obtain ⟨ah, hah⟩ : ∃ z, a / 4294967296 = z := ⟨_, rfl⟩
  obtain ⟨al, hal⟩ : ∃ z, a % 4294967296 = z := ⟨_, rfl⟩
  obtain ⟨bh, hbh⟩ : ∃ z, b / 4294967296 = z := ⟨_, rfl⟩
  obtain ⟨bl, hbl⟩ : ∃ z, b % 4294967296 = z := ⟨_, rfl⟩
  have hab : a * b = ah * bh * 18446744073709551616 + (ah * bl + al * bh) * 4294967296 + al * bl := by
    have ea : a = ah * 4294967296 + al := by omega
    have eb : b = bh * 4294967296 + bl := by omega
    rw [ea, eb, Int.add_mul, Int.mul_add, Int.mul_add]
    have e1 : ah * 4294967296 * (bh * 4294967296) = ah * bh * 18446744073709551616 := by
      rw [Int.mul_assoc, Int.mul_left_comm 4294967296, ← Int.mul_assoc, Int.mul_comm 4294967296 4294967296]; rfl
    have e2 : ah * 4294967296 * bl = ah * bl * 4294967296 := by rw [Int.mul_assoc, Int.mul_comm 4294967296, ← Int.mul_assoc]
    have e3 : al * (bh * 4294967296) = al * bh * 4294967296 := by rw [Int.mul_assoc]
    omega
  have p1 := mul_bd (a := ah) (b := bh) (A := 4294967295) (B := 4294967295) (by omega) (by omega) (by omega) (by omega)
  have p2 := mul_bd (a := ah) (b := bl) (A := 4294967295) (B := 4294967295) (by omega) (by omega) (by omega) (by omega)
  have p3 := mul_bd (a := al) (b := bh) (A := 4294967295) (B := 4294967295) (by omega) (by omega) (by omega) (by omega)
  have p4 := mul_bd (a := al) (b := bl) (A := 4294967295) (B := 4294967295) (by omega) (by omega) (by omega) (by omega)
  unfold wigwagref01_wide.f
  rw [and_mask a h1, and_mask b h2, hah, hal, hbh, hbl, hab]
  generalize ah * bh = m1 at *
  generalize ah * bl = m2 at *
  generalize al * bh = m3 at *
  generalize al * bl = m4 at *
  rw [w64 (x := m1) (by omega), w64 (x := m2) (by omega), w64 (x := m3) (by omega), w64 (x := m4) (by omega), and_mask m2 (by omega), and_mask m3 (by omega), and_mask m4 (by omega)]
  clear hab hah hal hbh hbl h1 h2
  rw [w64 (x := m4 / 4294967296 + m2 % 4294967296) (by omega), w64 (x := m4 / 4294967296 + m2 % 4294967296 + m3 % 4294967296) (by omega)]
  rw [w64 (x := m1 + m2 / 4294967296) (by omega), w64 (x := m1 + m2 / 4294967296 + m3 / 4294967296) (by omega), w64 (x := m1 + m2 / 4294967296 + m3 / 4294967296 + (m4 / 4294967296 + m2 % 4294967296 + m3 % 4294967296) / 4294967296) (by omega)]
  rw [ww, ww]
  congr 2 <;> omega
theorem and_one (x : Int) (h : W64 x) : Go.bits .and .u64 x 1 = x % 2 := by
  rw [u64_and x 1 h.1 (by omega) (by omega) (by omega)]
  have e : (1 : Int).toNat = 1 := rfl
  rw [e, Nat.and_one_is_mod]
  omega
theorem refdiv_l0 (c lo : Int) (hc : 0 < c) (hc' : c ≤ 18446744073709551615) (hlo : W64 lo) : ∀ (n k : Nat) (X : Int), 0 ≤ X → n ≤ 64 → n < k →
    wigwagref01_MulDiv.l0 k c lo (X % c) (X / c % 18446744073709551616) ((n : Int) - 1) = some ((X * 2 ^ n + lo % 2 ^ n) / c % 18446744073709551616)
  | 0, k, X, hX, hn, hk => by
    obtain ⟨k, rfl⟩ : ∃ m, k = m + 1 := ⟨k - 1, by omega⟩
    simp only [wigwagref01_MulDiv.l0]
    rw [if_neg (by omega)]
    simp [Int.emod_one]
  | n + 1, k, X, hX, hn, hk => by
    obtain ⟨k, rfl⟩ : ∃ m, k = m + 1 := ⟨k - 1, by omega⟩
    have hp : (0 : Int) < 2 ^ n := Int.pow_pos (by omega)
    have ew : IntKind.u64.wrap ((n + 1 : Nat) - 1 : Int) = n := by rw [w64 (by omega)]; omega
    have es : shr .u64 lo (n : Int) = lo / 2 ^ n := by
      unfold shr
      rw [Int.toNat_natCast, Nat.min_eq_left (by show n ≤ 64; omega)]
    have hd0 : 0 ≤ lo / 2 ^ n := Int.ediv_nonneg hlo.1 (by omega)
    have hd1 : lo / 2 ^ n ≤ lo := Int.ediv_le_self _ hlo.1
    have hr0 := Int.emod_nonneg X (b := c) (by omega)
    have hr1 := Int.emod_lt_of_pos X hc
    have hX0 := Int.emod_add_mul_ediv X c
    have hq0 : 0 ≤ X / c := Int.ediv_nonneg hX (by omega)
    have ei : wrap64 (((n + 1 : Nat) : Int) - 1 - 1) = (n : Int) - 1 := by unfold wrap64; omega
    obtain ⟨bit, hbit⟩ : ∃ z, lo / 2 ^ n % 2 = z := ⟨_, rfl⟩
    have hb : bit = 0 ∨ bit = 1 := by omega
    -- what is left of lo
    have hlow : lo % 2 ^ (n + 1) = bit * 2 ^ n + lo % 2 ^ n := by
      have e1 := Int.emod_add_mul_ediv lo (2 ^ n)
      have e2 := Int.emod_nonneg lo (b := 2 ^ n) (by omega)
      have e3 := Int.emod_lt_of_pos lo hp
      have e4 : lo = (bit * 2 ^ n + lo % 2 ^ n) + 2 ^ (n + 1) * (lo / 2 ^ n / 2) := by
        have e5 : lo / 2 ^ n = 2 * (lo / 2 ^ n / 2) + bit := by omega
        have e6 : 2 ^ n * (lo / 2 ^ n) = 2 ^ (n + 1) * (lo / 2 ^ n / 2) + bit * 2 ^ n := by
          rw [Int.pow_succ]
          generalize lo / 2 ^ n / 2 = z at *
          rw [e5, Int.mul_add, Int.mul_assoc, Int.mul_comm bit]
        omega
      have hP : (2 : Int) ^ (n + 1) = 2 ^ n + 2 ^ n := by rw [Int.pow_succ]; omega
      have hlt : 0 ≤ bit * 2 ^ n + lo % 2 ^ n ∧ bit * 2 ^ n + lo % 2 ^ n < 2 ^ (n + 1) := by
        rcases hb with rfl | rfl <;> omega
      rw [e4, Int.add_mul_emod_self_left, Int.emod_eq_of_lt hlt.1 hlt.2, ← e4]
    have efin : X * 2 ^ (n + 1) + lo % 2 ^ (n + 1) = (2 * X + bit) * 2 ^ n + lo % 2 ^ n := by
      rw [hlow, Int.pow_succ, Int.add_mul, ← Int.mul_assoc, Int.mul_comm 2 X, Int.mul_assoc X 2, Int.mul_comm 2 (2 ^ n), Int.mul_assoc]
      omega
    rw [efin]
    have ih := refdiv_l0 c lo hc hc' hlo n k (2 * X + bit) (by omega) (by omega) (by omega)
    have hand : Go.bits .and .u64 (shr .u64 lo (IntKind.u64.wrap ((n + 1 : Nat) - 1 : Int))) 1 = bit := by rw [ew, es, and_one _ (by omega), hbit]
    simp only [wigwagref01_MulDiv.l0]
    rw [if_pos (by omega), if_pos (by rw [ew]; omega), hand, ei]
    -- the two ways
    have hout : ∀ Q : Int, (X / c % 18446744073709551616 * 2 % 18446744073709551616 + Q) % 18446744073709551616 = (2 * (X / c) + Q) % 18446744073709551616 := by intro Q; omega
    have hyes : c ≤ 2 * (X % c) + bit → (2 * X + bit) / c = 2 * (X / c) + 1 ∧ (2 * X + bit) % c = 2 * (X % c) + bit - c := by
      intro hge
      have e : 2 * X + bit = (2 * (X % c) + bit - c) + c * (2 * (X / c) + 1) := by rw [Int.mul_add, Int.mul_left_comm]; omega
      constructor
      · rw [e, Int.add_mul_ediv_left _ _ (by omega), Int.ediv_eq_zero_of_lt (by omega) (by omega)]; omega
      · rw [e, Int.add_mul_emod_self_left, Int.emod_eq_of_lt (by omega) (by omega)]
    have hno : 2 * (X % c) + bit < c → (2 * X + bit) / c = 2 * (X / c) ∧ (2 * X + bit) % c = 2 * (X % c) + bit := by
      intro hlt
      have e : 2 * X + bit = (2 * (X % c) + bit) + c * (2 * (X / c)) := by rw [Int.mul_left_comm]; omega
      constructor
      · rw [e, Int.add_mul_ediv_left _ _ (by omega), Int.ediv_eq_zero_of_lt (by omega) (by omega)]; omega
      · rw [e, Int.add_mul_emod_self_left, Int.emod_eq_of_lt (by omega) (by omega)]
    generalize X / c = Q at *
    generalize X % c = L at *
    generalize (2 * X + bit) / c = Q' at *
    generalize (2 * X + bit) % c = L' at *
    simp only [ww]
    by_cases hov : L / 9223372036854775808 = 1
    · obtain ⟨rfl, rfl⟩ := hyes (by omega)
      rw [if_pos hov, ← ih, hout]
      congr 1
      omega
    · rw [if_neg hov]
      by_cases hge : c ≤ 2 * L + bit
      · obtain ⟨rfl, rfl⟩ := hyes hge
        rw [if_pos (by omega), ← ih, hout]
        congr 1
        omega
      · obtain ⟨rfl, rfl⟩ := hno (by omega)
        rw [if_neg (by omega), ← ih]
        congr 1 <;> omega
theorem refdiv_tells (a b c : Int) (h1 : W64 a) (h2 : W64 b) (h3 : W64 c) : ∃ k, wigwagref01_MulDiv.f k a b c = some (uMulDiv a b c) := by
  have hp := Int.mul_nonneg h1.1 h2.1
  have hp' := mul_bd (A := 18446744073709551615) (B := 18446744073709551615) h1.1 h1.2 h2.1 h2.2
  refine ⟨66, ?_⟩
  unfold wigwagref01_MulDiv.f uMulDiv
  rw [wide_tells a b h1 h2]
  simp only [Option.bind_some]
  generalize a * b = p at *
  by_cases hz : p = 0
  · subst hz
    simp [wigwagref01_MulDiv.j0]
  · have e : ∀ z, (z = true → False) → wigwagref01_MulDiv.j0 66 c (p / 18446744073709551616) (p % 18446744073709551616) z = some (if c * 18446744073709551616 ≤ p then 18446744073709551615 else p / c) := by
      intro z hz'
      simp only [wigwagref01_MulDiv.j0]
      rw [if_neg hz']
      by_cases hc : c * 18446744073709551616 ≤ p
      · rw [if_pos (by omega), if_pos hc]
      · rw [if_neg (by omega), if_neg hc]
        have hlt : p / 18446744073709551616 < c := by omega
        have h := refdiv_l0 c (p % 18446744073709551616) (by omega) (by omega) (w64_mod p) 64 65 (p / 18446744073709551616) (by omega) (by omega) (by omega)
        rw [Int.emod_eq_of_lt (by omega) hlt, Int.ediv_eq_zero_of_lt (by omega) hlt] at h
        have e1 : p / 18446744073709551616 * 2 ^ 64 + p % 18446744073709551616 % 2 ^ 64 = p := by omega
        rw [e1] at h
        have hq0 : 0 ≤ p / c := Int.ediv_nonneg hp h3.1
        have hq1 : p / c < 18446744073709551616 := (Int.ediv_lt_iff_lt_mul (by omega)).2 (by omega)
        refine h.trans ?_
        congr 1
        omega
    rw [if_neg hz]
    split
    · exact e _ (by simp; omega)
    · exact e _ (by simp)
def wigwagref01_MulDivT.f (a0 : Int) (a1 : Int) (a2 : Int) : Option Int := if W64 a0 ∧ W64 a1 ∧ W64 a2 then some (uMulDiv a0 a1 a2) else none
theorem wigwagref01_MulDivT.calls (a0 : Int) (a1 : Int) (a2 : Int) (r : Int) (w : World) (h : wigwagref01_MulDivT.f a0 a1 a2 = some r) :
    Calls Try.prog 18 #[.int .u64 a0, .int .u64 a1, .int .u64 a2] w fun e w' => e = .returned (.int .u64 r) ∧ Drawn0 w w' := by
  unfold wigwagref01_MulDivT.f at h
  split at h
  · rename_i hw
    obtain ⟨k, hk⟩ := refdiv_tells a0 a1 a2 hw.1 hw.2.1 hw.2.2
    exact wigwagref01_MulDiv.calls k a0 a1 a2 r w (hk.trans h)
  · cases h


/-! ### wigwagref01_Gain: function 20 -/
def wigwagref01_Gain.f (a0 : Int) (a1 : Int) : Option (Int) := (wigwagref01_MulDivT.f a0 a1 256).bind fun t119 => (some t119)
set_option maxHeartbeats 8000000 in
set_option maxRecDepth 100000 in
theorem wigwagref01_Gain.calls (a0 : Int) (a1 : Int) (r : Int) (w : World) (h : wigwagref01_Gain.f a0 a1 = some r) :
    Calls Try.prog 20 #[.int .u64 a0, .int .u64 a1] w fun e w' => e = .returned (.int .u64 r) ∧ Drawn0 w w' := by
  have H : ((wigwagref01_MulDivT.f a0 a1 256).bind fun t119 => (some t119)) = some r := h
  clear h
  replace H := Option.bind_eq_some_iff.mp H
  obtain ⟨t119, A30, H⟩ := H
  replace H : (some t119) = some r := H
  have A3 := Aside0.mk A30
  clear A30
  obtain rfl := Option.some.inj H
  go_enter Try.func20, Try.ntmps20
  go_wp2_with (first | ((with_reducible refine gate_callee (f := 18) rfl ?_); refine goesL_ (some 7) rfl rfl Try.func18 (by kernel_rfl) rfl #[.int .u64 a0, .int .u64 a1, .int .u64 256] rfl (by (try simp only [List.map_toArray, List.map_cons, List.map_nil]); first | done | rfl | (simp only [List.length_drop, List.length_take]; rfl)) ?_; (with_reducible refine (wigwagref01_MulDivT.calls a0 a1 256 t119 _ A3.out).mono ?_); rintro e w' ⟨rfl, ⟨nd, rfl⟩⟩; refine ⟨_, rfl, ?_⟩))
  go_ret
  exact ⟨by first | rfl | (simp; done) | (simp [*]; done), by repeat (first | exact Drawn0.refl _ | apply Drawn0.step)⟩

/-! ### wigwagref01_Cbrt: function 22 -/
def wigwagref01_Cbrt.l0 : Nat → Int → Int → Int → Option (Int)
  | 0, _, _, _ => none
  | k + 1, x0, x3, x4 => if x4 ≥ 0 then (if 0 ≤ (IntKind.u64.wrap (x4)) then (if (IntKind.u64.wrap (x3 + (shl .u64 1 (IntKind.u64.wrap (x4))))) ≤ 2642245 then (if (IntKind.u64.wrap ((IntKind.u64.wrap ((IntKind.u64.wrap (x3 + (shl .u64 1 (IntKind.u64.wrap (x4))))) * (IntKind.u64.wrap (x3 + (shl .u64 1 (IntKind.u64.wrap (x4))))))) * (IntKind.u64.wrap (x3 + (shl .u64 1 (IntKind.u64.wrap (x4))))))) ≤ x0 then (wigwagref01_Cbrt.l0 k x0 (IntKind.u64.wrap (x3 + (shl .u64 1 (IntKind.u64.wrap (x4))))) (wrap64 (x4 - 1))) else (wigwagref01_Cbrt.l0 k x0 x3 (wrap64 (x4 - 1)))) else (wigwagref01_Cbrt.l0 k x0 x3 (wrap64 (x4 - 1)))) else (none)) else (some x3)
def wigwagref01_Cbrt.f (k : Nat) (a0 : Int) : Option (Int) := wigwagref01_Cbrt.l0 k a0 0 21
theorem wigwagref01_Cbrt.mono_l : ∀ k, (∀ y0 y1 y2, LeO (wigwagref01_Cbrt.l0 k y0 y1 y2) (wigwagref01_Cbrt.l0 (k + 1) y0 y1 y2))
  | 0 => fun _ _ _ r h => by simp [wigwagref01_Cbrt.l0] at h
  | k + 1 => by
    have ih0 := wigwagref01_Cbrt.mono_l k
    · intro y0 y1 y2
      unfold wigwagref01_Cbrt.l0
      repeat' first
      | (with_reducible exact ih0 _ _ _)
      | (with_reducible exact LeO.refl _)
      | (with_reducible exact LeO.none _)
      | (with_reducible refine LeO.ite ?_ ?_)
      | (with_reducible refine LeO.bind ?_ (fun _ => ?_))
      | exact ih0 _ _ _
      | exact LeO.none _
      | refine LeO.ite ?_ ?_
      | refine LeO.bind ?_ (fun _ => ?_)
theorem wigwagref01_Cbrt.mono : ∀ a0 k, LeO (wigwagref01_Cbrt.f k a0) (wigwagref01_Cbrt.f (k + 1) a0) := by
  intro a0 k
  have ih0 := wigwagref01_Cbrt.mono_l k
  unfold wigwagref01_Cbrt.f
  repeat' first
      | (with_reducible exact ih0 _ _ _)
      | (with_reducible exact LeO.refl _)
      | (with_reducible exact LeO.none _)
      | (with_reducible refine LeO.ite ?_ ?_)
      | (with_reducible refine LeO.bind ?_ (fun _ => ?_))
      | exact ih0 _ _ _
      | exact LeO.none _
      | refine LeO.ite ?_ ?_
      | refine LeO.bind ?_ (fun _ => ?_)
set_option maxHeartbeats 8000000 in
set_option maxRecDepth 100000 in
theorem wigwagref01_Cbrt.calls (k : Nat) (a0 : Int) (r : Int) (w : World) (h : wigwagref01_Cbrt.f k a0 = some r) :
    Calls Try.prog 22 #[.int .u64 a0] w fun e w' => e = .returned (.int .u64 r) ∧ Drawn0 w w' := by
  have H : (wigwagref01_Cbrt.l0 k a0 0 21) = some r := h
  clear h
  have H' := Aside0.mk H
  clear H
  go_enter Try.func22, Try.ntmps22
  go_wp2
  go_loopg [3, 4] k (fun kq v3 v4 w' => ∃ (x3_1 : Int) (x4_1 : Int), v3 = .int .u64 x3_1 ∧ v4 = .int .i64 x4_1 ∧ Aside0 (wigwagref01_Cbrt.l0 kq a0 x3_1 x4_1 = some r) ∧ Aside0 (kq ≤ k) ∧ Drawn0 w w')
  case atStart => exact ⟨(0), (21), (by first | rfl | (simp; done) | (simp [*]; done)), (by first | rfl | (simp; done) | (simp [*]; done)), H', ⟨Nat.le_refl _⟩, by repeat (first | exact Drawn0.refl _ | apply Drawn0.step)⟩
  case round =>
    clear H'
    obtain ⟨x3_1, x4_1, rfl, rfl, HA, HK1, ⟨m1, rfl⟩⟩ := hrel
    cases gk with
    | zero => exact absurd HA.out (by simp [wigwagref01_Cbrt.l0])
    | succ k1 =>
      have H := HA.out
      clear HA
      simp only [wigwagref01_Cbrt.l0] at H
      by_cases c2 : x4_1 ≥ 0
      · rw [if_pos c2] at H
        have c2b0 : decide (0 ≤ x4_1) = true := decide_eq_true c2
        clear c2
        obtain ⟨ji3, hji3⟩ : ∃ j_ : Int, (IntKind.u64.wrap (x4_1)) = j_ := ⟨_, rfl⟩
        replace H : (if 0 ≤ (ji3) then (if (IntKind.u64.wrap (x3_1 + (shl .u64 1 (ji3)))) ≤ 2642245 then (if (IntKind.u64.wrap ((IntKind.u64.wrap ((IntKind.u64.wrap (x3_1 + (shl .u64 1 (ji3)))) * (IntKind.u64.wrap (x3_1 + (shl .u64 1 (ji3)))))) * (IntKind.u64.wrap (x3_1 + (shl .u64 1 (ji3)))))) ≤ a0 then (wigwagref01_Cbrt.l0 k1 a0 (IntKind.u64.wrap (x3_1 + (shl .u64 1 (ji3)))) (wrap64 (x4_1 - 1))) else (wigwagref01_Cbrt.l0 k1 a0 x3_1 (wrap64 (x4_1 - 1)))) else (wigwagref01_Cbrt.l0 k1 a0 x3_1 (wrap64 (x4_1 - 1)))) else (none)) = some r := by first | (rw [hji3] at H; exact H) | (simp only [hji3] at H ⊢; exact H)
        by_cases c4 : 0 ≤ (ji3)
        · rw [if_pos c4] at H
          have c4b0 := eq_true c4
          have c4b1 : decide (0 ≤ (ji3)) = true := decide_eq_true c4
          clear c4
          obtain ⟨ji5, hji5⟩ : ∃ j_ : Int, (shl .u64 1 (ji3)) = j_ := ⟨_, rfl⟩
          replace H : (if (IntKind.u64.wrap (x3_1 + (ji5))) ≤ 2642245 then (if (IntKind.u64.wrap ((IntKind.u64.wrap ((IntKind.u64.wrap (x3_1 + (ji5))) * (IntKind.u64.wrap (x3_1 + (ji5))))) * (IntKind.u64.wrap (x3_1 + (ji5))))) ≤ a0 then (wigwagref01_Cbrt.l0 k1 a0 (IntKind.u64.wrap (x3_1 + (ji5))) (wrap64 (x4_1 - 1))) else (wigwagref01_Cbrt.l0 k1 a0 x3_1 (wrap64 (x4_1 - 1)))) else (wigwagref01_Cbrt.l0 k1 a0 x3_1 (wrap64 (x4_1 - 1)))) = some r := by first | (rw [hji5] at H; exact H) | (simp only [hji5] at H ⊢; exact H)
          have hji5_ : (IntKind.u64.wrap (1 * 2 ^ min (ji3).toNat 64)) = ji5 := hji5
          have hji5z : (ji3) ≤ 64 → (IntKind.u64.wrap (1 * 2 ^ (ji3).toNat)) = ji5 := shl_small hji5
          have hji5u : (IntKind.u64.wrap (2 ^ min (ji3).toNat 64)) = ji5 := by have h_ := hji5_; rw [Int.one_mul] at h_; exact h_
          have hji5v : (ji3) ≤ 64 → (IntKind.u64.wrap (2 ^ (ji3).toNat)) = ji5 := fun hle_ => by have h_ := hji5z hle_; rw [Int.one_mul] at h_; exact h_
          by_cases c6 : (IntKind.u64.wrap (x3_1 + (ji5))) ≤ 2642245
          · rw [if_pos c6] at H
            have c6b0 : decide ((IntKind.u64.wrap (x3_1 + (ji5))) ≤ 2642245) = true := decide_eq_true c6
            clear c6
            by_cases c7 : (IntKind.u64.wrap ((IntKind.u64.wrap ((IntKind.u64.wrap (x3_1 + (ji5))) * (IntKind.u64.wrap (x3_1 + (ji5))))) * (IntKind.u64.wrap (x3_1 + (ji5))))) ≤ a0
            · rw [if_pos c7] at H
              have c7b0 : decide ((IntKind.u64.wrap ((IntKind.u64.wrap ((IntKind.u64.wrap (x3_1 + (ji5))) * (IntKind.u64.wrap (x3_1 + (ji5))))) * (IntKind.u64.wrap (x3_1 + (ji5))))) ≤ a0) = true := decide_eq_true c7
              clear c7
              have H' := Aside0.mk H
              clear H
              go_wp2
              go_roundg k1
              case measure => have := HK1.out; omega
              case rel => exact ⟨(IntKind.u64.wrap (x3_1 + (ji5))), (wrap64 (x4_1 - 1)), (by first | rfl | (simp; done) | (simp only [← hji5] <;> (first | rfl | simp)) | (simp [*]; done)), (by first | rfl | (simp; done) | (simp [*]; done)), H', ⟨by have := HK1.out; omega⟩, by repeat (first | exact Drawn0.refl _ | apply Drawn0.step)⟩
            · rw [if_neg c7] at H
              have c7b0 : decide ((IntKind.u64.wrap ((IntKind.u64.wrap ((IntKind.u64.wrap (x3_1 + (ji5))) * (IntKind.u64.wrap (x3_1 + (ji5))))) * (IntKind.u64.wrap (x3_1 + (ji5))))) ≤ a0) = false := decide_eq_false c7
              clear c7
              have H' := Aside0.mk H
              clear H
              go_wp2
              go_roundg k1
              case measure => have := HK1.out; omega
              case rel => exact ⟨(x3_1), (wrap64 (x4_1 - 1)), (by first | rfl | (simp; done) | (simp [*]; done)), (by first | rfl | (simp; done) | (simp [*]; done)), H', ⟨by have := HK1.out; omega⟩, by repeat (first | exact Drawn0.refl _ | apply Drawn0.step)⟩
          · rw [if_neg c6] at H
            have c6b0 : decide ((IntKind.u64.wrap (x3_1 + (ji5))) ≤ 2642245) = false := decide_eq_false c6
            clear c6
            have H' := Aside0.mk H
            clear H
            go_wp2
            go_roundg k1
            case measure => have := HK1.out; omega
            case rel => exact ⟨(x3_1), (wrap64 (x4_1 - 1)), (by first | rfl | (simp; done) | (simp [*]; done)), (by first | rfl | (simp; done) | (simp [*]; done)), H', ⟨by have := HK1.out; omega⟩, by repeat (first | exact Drawn0.refl _ | apply Drawn0.step)⟩
        · rw [if_neg c4] at H
          exact absurd H (by simp)
      · rw [if_neg c2] at H
        have c2b0 : decide (0 ≤ x4_1) = false := decide_eq_false c2
        clear c2
        obtain rfl := Option.some.inj H
        go_wp2
        go_ret
        exact ⟨by first | rfl | (simp; done) | (simp [*]; done), by repeat (first | exact Drawn0.refl _ | apply Drawn0.step)⟩

/-! ### wigwagref01_CbrtT: function 22, told anew -/
theorem refcb_l0 (a : Int) : ∀ (n k : Nat) (out : Int), 0 ≤ out → out ≤ 2642245 → n ≤ 22 → n < k →
    wigwagref01_Cbrt.l0 k a out ((n : Int) - 1) = some (cbAux a n out)
  | 0, k, out, h0, h1, hn, hk => by
    obtain ⟨k, rfl⟩ : ∃ m, k = m + 1 := ⟨k - 1, by omega⟩
    simp only [wigwagref01_Cbrt.l0, cbAux]
    rw [if_neg (by omega)]
  | n + 1, k, out, h0, h1, hn, hk => by
    obtain ⟨k, rfl⟩ : ∃ m, k = m + 1 := ⟨k - 1, by omega⟩
    have hp : (0 : Int) < 2 ^ n := Int.pow_pos (by omega)
    have hpn : (2 : Nat) ^ n ≤ 2 ^ 21 := Nat.pow_le_pow_right (by omega) (by omega)
    have hpi : (2 : Int) ^ n ≤ 2097152 := by
      have : ((2 ^ n : Nat) : Int) ≤ ((2 ^ 21 : Nat) : Int) := by exact_mod_cast hpn
      rw [Int.natCast_pow] at this
      simpa using this
    have ew : IntKind.u64.wrap ((n + 1 : Nat) - 1 : Int) = n := by rw [w64 (by omega)]; omega
    have es : shl .u64 1 (n : Int) = 2 ^ n := by
      unfold shl
      rw [Int.toNat_natCast, Nat.min_eq_left (by show n ≤ 64; omega), Int.one_mul, w64 (by omega)]
    have ei : wrap64 (((n + 1 : Nat) : Int) - 1 - 1) = (n : Int) - 1 := by unfold wrap64; omega
    simp only [wigwagref01_Cbrt.l0, cbAux]
    rw [if_pos (by omega), ew, if_pos (by omega), es, ei, w64 (x := out + 2 ^ n) (by omega)]
    unfold cbStep
    by_cases hx : out + 2 ^ n ≤ 2642245
    · have e1 := mul_bd (a := out + 2 ^ n) (b := out + 2 ^ n) (A := 2642245) (B := 2642245) (by omega) hx (by omega) hx
      have e2 := mul_bd (a := (out + 2 ^ n) * (out + 2 ^ n)) (b := out + 2 ^ n) (A := 6981458640025) (B := 2642245) (by omega) (by omega) (by omega) hx
      rw [if_pos hx, w64 (x := (out + 2 ^ n) * (out + 2 ^ n)) (by omega), w64 (x := (out + 2 ^ n) * (out + 2 ^ n) * (out + 2 ^ n)) (by omega)]
      by_cases hf : (out + 2 ^ n) * (out + 2 ^ n) * (out + 2 ^ n) ≤ a
      · rw [if_pos hf, if_pos ⟨hf, hx⟩]
        exact refcb_l0 a n k _ (by omega) hx (by omega) (by omega)
      · rw [if_neg hf, if_neg (fun h => hf h.1)]
        exact refcb_l0 a n k _ h0 h1 (by omega) (by omega)
    · rw [if_neg hx, if_neg (fun h => hx h.2)]
      exact refcb_l0 a n k _ h0 h1 (by omega) (by omega)
def wigwagref01_CbrtT.f (a0 : Int) : Option Int := if W64 a0 then some (uCbrt a0) else none
theorem wigwagref01_CbrtT.calls (a0 : Int) (r : Int) (w : World) (h : wigwagref01_CbrtT.f a0 = some r) :
    Calls Try.prog 22 #[.int .u64 a0] w fun e w' => e = .returned (.int .u64 r) ∧ Drawn0 w w' := by
  unfold wigwagref01_CbrtT.f at h
  split at h
  · exact wigwagref01_Cbrt.calls 23 a0 r w ((refcb_l0 a0 22 23 0 (by omega) (by omega) (by omega) (by omega)).trans h)
  · cases h


/-! ### wigwaglaw01_FixTells: function 3 -/
def wigwaglaw01_FixTells.j0 : Nat → Int → Int → Int → Bool → Bool → Option (Bool)
  | 0, _, _, _, _, _ => none
  | k + 1, x0, x1, x2, x7, x8 => if x7 = true then (if x8 = true then ((fix_MulDivT.f x0 x1 x2).bind fun t127 => ((wigwagref01_MulDivT.f x0 x1 x2).bind fun t128 => (if t127 = t128 then ((fix_Gain.f x0 x1).bind fun t129 => ((wigwagref01_Gain.f x0 x1).bind fun t130 => (if t129 = t130 then ((fix_Cbrt.f x0).bind fun t131 => ((wigwagref01_CbrtT.f x0).bind fun t132 => (some (t131 == t132)))) else (some false)))) else (some false)))) else (some false)) else (some false)
def wigwaglaw01_FixTells.f (k : Nat) (a0 : Int) (a1 : Int) (a2 : Int) : Option (Bool) := (wigwaglaw01_awake.f).bind fun t120 => ((fix_Add.f a0 a1).bind fun t121 => ((wigwagref01_AddT.f a0 a1).bind fun t122 => (if t121 = t122 then ((fix_SubT.f a0 a1).bind fun t123 => ((wigwagref01_SubT.f a0 a1).bind fun t124 => (if t123 = t124 then ((fix_MulT.f a0 a1).bind fun t125 => ((wigwagref01_MulT.f a0 a1).bind fun t126 => (wigwaglaw01_FixTells.j0 k a0 a1 a2 t120 (t125 == t126)))) else (wigwaglaw01_FixTells.j0 k a0 a1 a2 t120 false)))) else (wigwaglaw01_FixTells.j0 k a0 a1 a2 t120 false))))
theorem wigwaglaw01_FixTells.mono_l : ∀ k, (∀ y0 y1 y2 y3 y4, LeO (wigwaglaw01_FixTells.j0 k y0 y1 y2 y3 y4) (wigwaglaw01_FixTells.j0 (k + 1) y0 y1 y2 y3 y4))
  | 0 => fun _ _ _ _ _ r h => by simp [wigwaglaw01_FixTells.j0] at h
  | k + 1 => by
    have ih0 := wigwaglaw01_FixTells.mono_l k
    · intro y0 y1 y2 y3 y4
      unfold wigwaglaw01_FixTells.j0
      repeat' first
      | (with_reducible exact ih0 _ _ _ _ _)
      | (with_reducible exact LeO.refl _)
      | (with_reducible exact LeO.none _)
      | (with_reducible refine LeO.ite ?_ ?_)
      | (with_reducible refine LeO.bind ?_ (fun _ => ?_))
      | exact ih0 _ _ _ _ _
      | exact LeO.none _
      | refine LeO.ite ?_ ?_
      | refine LeO.bind ?_ (fun _ => ?_)
theorem wigwaglaw01_FixTells.mono : ∀ a0 a1 a2 k, LeO (wigwaglaw01_FixTells.f k a0 a1 a2) (wigwaglaw01_FixTells.f (k + 1) a0 a1 a2) := by
  intro a0 a1 a2 k
  have ih0 := wigwaglaw01_FixTells.mono_l k
  unfold wigwaglaw01_FixTells.f
  repeat' first
      | (with_reducible exact ih0 _ _ _ _ _)
      | (with_reducible exact LeO.refl _)
      | (with_reducible exact LeO.none _)
      | (with_reducible refine LeO.ite ?_ ?_)
      | (with_reducible refine LeO.bind ?_ (fun _ => ?_))
      | exact ih0 _ _ _ _ _
      | exact LeO.none _
      | refine LeO.ite ?_ ?_
      | refine LeO.bind ?_ (fun _ => ?_)
set_option maxHeartbeats 8000000 in
set_option maxRecDepth 100000 in
theorem wigwaglaw01_FixTells.calls (k : Nat) (a0 : Int) (a1 : Int) (a2 : Int) (r : Bool) (w : World) (h : wigwaglaw01_FixTells.f k a0 a1 a2 = some r) :
    Calls Try.prog 3 #[.int .u64 a0, .int .u64 a1, .int .u64 a2] w fun e w' => e = .returned (.bool r) ∧ Below w.heap.size w w' := by
  have HB := Aside0.mk (Below.refl w.heap.size w)
  have H : ((wigwaglaw01_awake.f).bind fun t120 => ((fix_Add.f a0 a1).bind fun t121 => ((wigwagref01_AddT.f a0 a1).bind fun t122 => (if t121 = t122 then ((fix_SubT.f a0 a1).bind fun t123 => ((wigwagref01_SubT.f a0 a1).bind fun t124 => (if t123 = t124 then ((fix_MulT.f a0 a1).bind fun t125 => ((wigwagref01_MulT.f a0 a1).bind fun t126 => (wigwaglaw01_FixTells.j0 k a0 a1 a2 t120 (t125 == t126)))) else (wigwaglaw01_FixTells.j0 k a0 a1 a2 t120 false)))) else (wigwaglaw01_FixTells.j0 k a0 a1 a2 t120 false))))) = some r := h
  clear h
  replace H := Option.bind_eq_some_iff.mp H
  obtain ⟨t120, A40, H⟩ := H
  replace H : ((fix_Add.f a0 a1).bind fun t121 => ((wigwagref01_AddT.f a0 a1).bind fun t122 => (if t121 = t122 then ((fix_SubT.f a0 a1).bind fun t123 => ((wigwagref01_SubT.f a0 a1).bind fun t124 => (if t123 = t124 then ((fix_MulT.f a0 a1).bind fun t125 => ((wigwagref01_MulT.f a0 a1).bind fun t126 => (wigwaglaw01_FixTells.j0 k a0 a1 a2 t120 (t125 == t126)))) else (wigwaglaw01_FixTells.j0 k a0 a1 a2 t120 false)))) else (wigwaglaw01_FixTells.j0 k a0 a1 a2 t120 false)))) = some r := H
  have A4 := Aside0.mk A40
  clear A40
  have HC5 := Aside0.mk H
  clear H
  go_enter Try.func3, Try.ntmps3
  go_upto_region 2 with (first | ((with_reducible refine gate_callee (f := 10) rfl ?_); refine goesL_ (some 9) rfl rfl Try.func10 (by kernel_rfl) rfl #[] rfl (by (try simp only [List.map_toArray, List.map_cons, List.map_nil]); first | done | rfl | (simp only [List.length_drop, List.length_take]; rfl)) ?_; (with_reducible refine (wigwaglaw01_awake.calls  t120 _ A4.out).mono ?_); rintro e w6 ⟨rfl, hb⟩; refine ⟨_, rfl, ?_⟩; have n0_ := Aside0.mk (below_step (by repeat (first | (with_reducible first | exact HB.out | apply below_alloc | apply pw_below_drewN | apply below_drew1) | exact HB.out)) hb); clear HB; have HB := n0_; clear n0_; (try clear hb); (try clear hb2); (try clear hk); (try clear hi)))
  (try simp only [Act.put, List.setIfInBounds_toArray, List.set_cons_zero, List.set_cons_succ])
  go_cut [8] (fun v8 wc => ∃ (kq : Nat) (x8_4 : Bool), v8 = .bool x8_4 ∧ Aside0 (wigwaglaw01_FixTells.j0 kq a0 a1 a2 t120 x8_4 = some r) ∧ Aside0 (kq ≤ k) ∧ Aside0 (Below w.heap.size w wc))
  case first =>
    have H := HC5.out
    clear HC5
    replace H := Option.bind_eq_some_iff.mp H
    obtain ⟨t121, A70, H⟩ := H
    replace H : ((wigwagref01_AddT.f a0 a1).bind fun t122 => (if t121 = t122 then ((fix_SubT.f a0 a1).bind fun t123 => ((wigwagref01_SubT.f a0 a1).bind fun t124 => (if t123 = t124 then ((fix_MulT.f a0 a1).bind fun t125 => ((wigwagref01_MulT.f a0 a1).bind fun t126 => (wigwaglaw01_FixTells.j0 k a0 a1 a2 t120 (t125 == t126)))) else (wigwaglaw01_FixTells.j0 k a0 a1 a2 t120 false)))) else (wigwaglaw01_FixTells.j0 k a0 a1 a2 t120 false))) = some r := H
    have A7 := Aside0.mk A70
    clear A70
    replace H := Option.bind_eq_some_iff.mp H
    obtain ⟨t122, A80, H⟩ := H
    replace H : (if t121 = t122 then ((fix_SubT.f a0 a1).bind fun t123 => ((wigwagref01_SubT.f a0 a1).bind fun t124 => (if t123 = t124 then ((fix_MulT.f a0 a1).bind fun t125 => ((wigwagref01_MulT.f a0 a1).bind fun t126 => (wigwaglaw01_FixTells.j0 k a0 a1 a2 t120 (t125 == t126)))) else (wigwaglaw01_FixTells.j0 k a0 a1 a2 t120 false)))) else (wigwaglaw01_FixTells.j0 k a0 a1 a2 t120 false)) = some r := H
    have A8 := Aside0.mk A80
    clear A80
    by_cases c9 : t121 = t122
    · rw [if_pos c9] at H
      have c9b0 : (t121 == t122) = true := beq_iff_eq.mpr c9
      have c9b1 : (t121 != t122) = false := bne_eq_false_iff_eq.mpr c9
      clear c9
      (first | rw [c9b0] | (simp only [i64_w, i32_w]; rw [c9b0]) | skip)
      replace H := Option.bind_eq_some_iff.mp H
      obtain ⟨t123, A100, H⟩ := H
      replace H : ((wigwagref01_SubT.f a0 a1).bind fun t124 => (if t123 = t124 then ((fix_MulT.f a0 a1).bind fun t125 => ((wigwagref01_MulT.f a0 a1).bind fun t126 => (wigwaglaw01_FixTells.j0 k a0 a1 a2 t120 (t125 == t126)))) else (wigwaglaw01_FixTells.j0 k a0 a1 a2 t120 false))) = some r := H
      have A10 := Aside0.mk A100
      clear A100
      replace H := Option.bind_eq_some_iff.mp H
      obtain ⟨t124, A110, H⟩ := H
      replace H : (if t123 = t124 then ((fix_MulT.f a0 a1).bind fun t125 => ((wigwagref01_MulT.f a0 a1).bind fun t126 => (wigwaglaw01_FixTells.j0 k a0 a1 a2 t120 (t125 == t126)))) else (wigwaglaw01_FixTells.j0 k a0 a1 a2 t120 false)) = some r := H
      have A11 := Aside0.mk A110
      clear A110
      by_cases c12 : t123 = t124
      · rw [if_pos c12] at H
        have c12b0 : (t123 == t124) = true := beq_iff_eq.mpr c12
        have c12b1 : (t123 != t124) = false := bne_eq_false_iff_eq.mpr c12
        clear c12
        replace H := Option.bind_eq_some_iff.mp H
        obtain ⟨t125, A130, H⟩ := H
        replace H : ((wigwagref01_MulT.f a0 a1).bind fun t126 => (wigwaglaw01_FixTells.j0 k a0 a1 a2 t120 (t125 == t126))) = some r := H
        have A13 := Aside0.mk A130
        clear A130
        replace H := Option.bind_eq_some_iff.mp H
        obtain ⟨t126, A140, H⟩ := H
        replace H : (wigwaglaw01_FixTells.j0 k a0 a1 a2 t120 (t125 == t126)) = some r := H
        have A14 := Aside0.mk A140
        clear A140
        have H' := Aside0.mk H
        clear H
        go_wp2_with (first | ((with_reducible refine gate_callee (f := 11) rfl ?_); refine goesL_ (some 12) rfl rfl Try.func11 (by kernel_rfl) rfl #[.int .u64 a0, .int .u64 a1] rfl (by (try simp only [List.map_toArray, List.map_cons, List.map_nil]); first | done | rfl | (simp only [List.length_drop, List.length_take]; rfl)) ?_; (with_reducible refine (fix_Add.calls a0 a1 t121 _ A7.out).mono ?_); rintro e w' ⟨rfl, ⟨nd, rfl⟩⟩; refine ⟨_, rfl, ?_⟩) | ((with_reducible refine gate_callee (f := 12) rfl ?_); refine goesL_ (some 15) rfl rfl Try.func12 (by kernel_rfl) rfl #[.int .u64 a0, .int .u64 a1] rfl (by (try simp only [List.map_toArray, List.map_cons, List.map_nil]); first | done | rfl | (simp only [List.length_drop, List.length_take]; rfl)) ?_; (with_reducible refine (wigwagref01_AddT.calls a0 a1 t122 _ A8.out).mono ?_); rintro e w' ⟨rfl, ⟨nd, rfl⟩⟩; refine ⟨_, rfl, ?_⟩) | (go_at_call 13; (with_reducible refine (fix_SubT.calls a0 a1 t123 _ A10.out).mono ?_); rintro e w15 ⟨rfl, hb⟩; have n0_ := Aside0.mk (below_step (by repeat (first | (with_reducible first | exact HB.out | apply below_alloc | apply pw_below_drewN | apply below_drew1) | exact HB.out)) hb); clear HB; have HB := n0_; clear n0_; (try clear hb); (try clear hb2); (try clear hk); (try clear hi)) | (go_at_call 14; (with_reducible refine (wigwagref01_SubT.calls a0 a1 t124 _ A11.out).mono ?_); rintro e w' ⟨rfl, ⟨nd, rfl⟩⟩) | (go_at_call 15; (with_reducible refine (fix_MulT.calls a0 a1 t125 _ A13.out).mono ?_); rintro e w' ⟨rfl, ⟨nd, rfl⟩⟩) | (go_at_call 16; (with_reducible refine (wigwagref01_MulT.calls a0 a1 t126 _ A14.out).mono ?_); rintro e w' ⟨rfl, ⟨nd, rfl⟩⟩))
        go_meet
        case rel => exact ⟨_, ((t125 == t126)), (by first | rfl | (simp; done) | (simp [*]; done)), H', ⟨by first | omega | exact Nat.le_refl _⟩, ⟨by repeat (first | (with_reducible first | exact HB.out | apply below_alloc | apply pw_below_drewN | apply below_drew1) | exact HB.out)⟩⟩
      · rw [if_neg c12] at H
        have c12b0 : (t123 == t124) = false := beq_eq_false_iff_ne.mpr c12
        have c12b1 : (t123 != t124) = true := bne_iff_ne.mpr c12
        have H' := Aside0.mk H
        clear H
        go_wp2_with (first | ((with_reducible refine gate_callee (f := 11) rfl ?_); refine goesL_ (some 12) rfl rfl Try.func11 (by kernel_rfl) rfl #[.int .u64 a0, .int .u64 a1] rfl (by (try simp only [List.map_toArray, List.map_cons, List.map_nil]); first | done | rfl | (simp only [List.length_drop, List.length_take]; rfl)) ?_; (with_reducible refine (fix_Add.calls a0 a1 t121 _ A7.out).mono ?_); rintro e w' ⟨rfl, ⟨nd, rfl⟩⟩; refine ⟨_, rfl, ?_⟩) | ((with_reducible refine gate_callee (f := 12) rfl ?_); refine goesL_ (some 15) rfl rfl Try.func12 (by kernel_rfl) rfl #[.int .u64 a0, .int .u64 a1] rfl (by (try simp only [List.map_toArray, List.map_cons, List.map_nil]); first | done | rfl | (simp only [List.length_drop, List.length_take]; rfl)) ?_; (with_reducible refine (wigwagref01_AddT.calls a0 a1 t122 _ A8.out).mono ?_); rintro e w' ⟨rfl, ⟨nd, rfl⟩⟩; refine ⟨_, rfl, ?_⟩) | (go_at_call 13; (with_reducible refine (fix_SubT.calls a0 a1 t123 _ A10.out).mono ?_); rintro e w16 ⟨rfl, hb⟩; have n0_ := Aside0.mk (below_step (by repeat (first | (with_reducible first | exact HB.out | apply below_alloc | apply pw_below_drewN | apply below_drew1) | exact HB.out)) hb); clear HB; have HB := n0_; clear n0_; (try clear hb); (try clear hb2); (try clear hk); (try clear hi)) | (go_at_call 14; (with_reducible refine (wigwagref01_SubT.calls a0 a1 t124 _ A11.out).mono ?_); rintro e w' ⟨rfl, ⟨nd, rfl⟩⟩))
        go_meet
        case rel => exact ⟨_, (false), (by first | rfl | (simp; done) | (simp [*]; done)), H', ⟨by first | omega | exact Nat.le_refl _⟩, ⟨by repeat (first | (with_reducible first | exact HB.out | apply below_alloc | apply pw_below_drewN | apply below_drew1) | exact HB.out)⟩⟩
    · rw [if_neg c9] at H
      have c9b0 : (t121 == t122) = false := beq_eq_false_iff_ne.mpr c9
      have c9b1 : (t121 != t122) = true := bne_iff_ne.mpr c9
      (first | rw [c9b0] | (simp only [i64_w, i32_w]; rw [c9b0]) | skip)
      have H' := Aside0.mk H
      clear H
      go_wp2_with (first | ((with_reducible refine gate_callee (f := 11) rfl ?_); refine goesL_ (some 12) rfl rfl Try.func11 (by kernel_rfl) rfl #[.int .u64 a0, .int .u64 a1] rfl (by (try simp only [List.map_toArray, List.map_cons, List.map_nil]); first | done | rfl | (simp only [List.length_drop, List.length_take]; rfl)) ?_; (with_reducible refine (fix_Add.calls a0 a1 t121 _ A7.out).mono ?_); rintro e w' ⟨rfl, ⟨nd, rfl⟩⟩; refine ⟨_, rfl, ?_⟩) | ((with_reducible refine gate_callee (f := 12) rfl ?_); refine goesL_ (some 15) rfl rfl Try.func12 (by kernel_rfl) rfl #[.int .u64 a0, .int .u64 a1] rfl (by (try simp only [List.map_toArray, List.map_cons, List.map_nil]); first | done | rfl | (simp only [List.length_drop, List.length_take]; rfl)) ?_; (with_reducible refine (wigwagref01_AddT.calls a0 a1 t122 _ A8.out).mono ?_); rintro e w' ⟨rfl, ⟨nd, rfl⟩⟩; refine ⟨_, rfl, ?_⟩))
      go_meet
      case rel => exact ⟨_, (false), (by first | rfl | (simp; done) | (simp [*]; done)), H', ⟨by first | omega | exact Nat.le_refl _⟩, ⟨by repeat (first | (with_reducible first | exact HB.out | apply below_alloc | apply pw_below_drewN | apply below_drew1) | exact HB.out)⟩⟩
  case rest =>
    clear HC5
    try clear c1
    try clear p2
    try clear c3
    try clear c9
    try clear c9b0
    try clear c9b1
    try clear c10
    try clear c11
    try clear c12
    try clear c12b0
    try clear c12b1
    obtain ⟨kq, x8_4, rfl, HA, HJ4, HB⟩ := hcut
    cases kq with
    | zero => exact absurd HA.out (by simp [wigwaglaw01_FixTells.j0])
    | succ kj4 =>
      have H := HA.out
      clear HA
      simp only [wigwaglaw01_FixTells.j0] at H
      by_cases c17 : t120 = true
      · subst c17
        have H1 : (if x8_4 = true then ((fix_MulDivT.f a0 a1 a2).bind fun t127 => ((wigwagref01_MulDivT.f a0 a1 a2).bind fun t128 => (if t127 = t128 then ((fix_Gain.f a0 a1).bind fun t129 => ((wigwagref01_Gain.f a0 a1).bind fun t130 => (if t129 = t130 then ((fix_Cbrt.f a0).bind fun t131 => ((wigwagref01_CbrtT.f a0).bind fun t132 => (some (t131 == t132)))) else (some false)))) else (some false)))) else (some false)) = some r := by rw [if_pos rfl] at H; exact H
        clear H
        have H := H1
        clear H1
        by_cases c18 : x8_4 = true
        · subst c18
          have H1 : ((fix_MulDivT.f a0 a1 a2).bind fun t127 => ((wigwagref01_MulDivT.f a0 a1 a2).bind fun t128 => (if t127 = t128 then ((fix_Gain.f a0 a1).bind fun t129 => ((wigwagref01_Gain.f a0 a1).bind fun t130 => (if t129 = t130 then ((fix_Cbrt.f a0).bind fun t131 => ((wigwagref01_CbrtT.f a0).bind fun t132 => (some (t131 == t132)))) else (some false)))) else (some false)))) = some r := by rw [if_pos rfl] at H; exact H
          clear H
          have H := H1
          clear H1
          replace H := Option.bind_eq_some_iff.mp H
          obtain ⟨t127, A190, H⟩ := H
          replace H : ((wigwagref01_MulDivT.f a0 a1 a2).bind fun t128 => (if t127 = t128 then ((fix_Gain.f a0 a1).bind fun t129 => ((wigwagref01_Gain.f a0 a1).bind fun t130 => (if t129 = t130 then ((fix_Cbrt.f a0).bind fun t131 => ((wigwagref01_CbrtT.f a0).bind fun t132 => (some (t131 == t132)))) else (some false)))) else (some false))) = some r := H
          have A19 := Aside0.mk A190
          clear A190
          replace H := Option.bind_eq_some_iff.mp H
          obtain ⟨t128, A200, H⟩ := H
          replace H : (if t127 = t128 then ((fix_Gain.f a0 a1).bind fun t129 => ((wigwagref01_Gain.f a0 a1).bind fun t130 => (if t129 = t130 then ((fix_Cbrt.f a0).bind fun t131 => ((wigwagref01_CbrtT.f a0).bind fun t132 => (some (t131 == t132)))) else (some false)))) else (some false)) = some r := H
          have A20 := Aside0.mk A200
          clear A200
          by_cases c21 : t127 = t128
          · rw [if_pos c21] at H
            have c21b0 : (t127 == t128) = true := beq_iff_eq.mpr c21
            have c21b1 : (t127 != t128) = false := bne_eq_false_iff_eq.mpr c21
            clear c21
            replace H := Option.bind_eq_some_iff.mp H
            obtain ⟨t129, A220, H⟩ := H
            replace H : ((wigwagref01_Gain.f a0 a1).bind fun t130 => (if t129 = t130 then ((fix_Cbrt.f a0).bind fun t131 => ((wigwagref01_CbrtT.f a0).bind fun t132 => (some (t131 == t132)))) else (some false))) = some r := H
            have A22 := Aside0.mk A220
            clear A220
            replace H := Option.bind_eq_some_iff.mp H
            obtain ⟨t130, A230, H⟩ := H
            replace H : (if t129 = t130 then ((fix_Cbrt.f a0).bind fun t131 => ((wigwagref01_CbrtT.f a0).bind fun t132 => (some (t131 == t132)))) else (some false)) = some r := H
            have A23 := Aside0.mk A230
            clear A230
            by_cases c24 : t129 = t130
            · rw [if_pos c24] at H
              have c24b0 : (t129 == t130) = true := beq_iff_eq.mpr c24
              have c24b1 : (t129 != t130) = false := bne_eq_false_iff_eq.mpr c24
              clear c24
              replace H := Option.bind_eq_some_iff.mp H
              obtain ⟨t131, A250, H⟩ := H
              replace H : ((wigwagref01_CbrtT.f a0).bind fun t132 => (some (t131 == t132))) = some r := H
              have A25 := Aside0.mk A250
              clear A250
              replace H := Option.bind_eq_some_iff.mp H
              obtain ⟨t132, A260, H⟩ := H
              replace H : (some (t131 == t132)) = some r := H
              have A26 := Aside0.mk A260
              clear A260
              obtain rfl := Option.some.inj H
              go_wp2_with (first | (go_at_call 17; (with_reducible refine (fix_MulDivT.calls a0 a1 a2 t127 _ A19.out).mono ?_); rintro e w' ⟨rfl, ⟨nd, rfl⟩⟩) | (go_at_call 18; (with_reducible refine (wigwagref01_MulDivT.calls a0 a1 a2 t128 _ A20.out).mono ?_); rintro e w' ⟨rfl, ⟨nd, rfl⟩⟩) | (go_at_call 19; (with_reducible refine (fix_Gain.calls a0 a1 t129 _ A22.out).mono ?_); rintro e w' ⟨rfl, ⟨nd, rfl⟩⟩) | (go_at_call 20; (with_reducible refine (wigwagref01_Gain.calls a0 a1 t130 _ A23.out).mono ?_); rintro e w' ⟨rfl, ⟨nd, rfl⟩⟩) | (go_at_call 21; (with_reducible refine (fix_Cbrt.calls a0 t131 _ A25.out).mono ?_); rintro e w27 ⟨rfl, hb⟩; have n0_ := Aside0.mk (below_step (by repeat (first | (with_reducible first | exact HB.out | apply below_alloc | apply pw_below_drewN | apply below_drew1) | exact HB.out)) hb); clear HB; have HB := n0_; clear n0_; (try clear hb); (try clear hb2); (try clear hk); (try clear hi)) | (go_at_call 22; (with_reducible refine (wigwagref01_CbrtT.calls a0 t132 _ A26.out).mono ?_); rintro e w' ⟨rfl, ⟨nd, rfl⟩⟩))
              go_ret
              exact ⟨by first | rfl | (simp [errW_none, errW_some] <;> rfl) | (simp [*, errW_none, errW_some] <;> rfl), by repeat (first | (with_reducible first | exact HB.out | apply below_alloc | apply pw_below_drewN | apply below_drew1) | exact HB.out)⟩
            · rw [if_neg c24] at H
              have c24b0 : (t129 == t130) = false := beq_eq_false_iff_ne.mpr c24
              have c24b1 : (t129 != t130) = true := bne_iff_ne.mpr c24
              obtain rfl := Option.some.inj H
              go_wp2_with (first | (go_at_call 17; (with_reducible refine (fix_MulDivT.calls a0 a1 a2 t127 _ A19.out).mono ?_); rintro e w' ⟨rfl, ⟨nd, rfl⟩⟩) | (go_at_call 18; (with_reducible refine (wigwagref01_MulDivT.calls a0 a1 a2 t128 _ A20.out).mono ?_); rintro e w' ⟨rfl, ⟨nd, rfl⟩⟩) | (go_at_call 19; (with_reducible refine (fix_Gain.calls a0 a1 t129 _ A22.out).mono ?_); rintro e w' ⟨rfl, ⟨nd, rfl⟩⟩) | (go_at_call 20; (with_reducible refine (wigwagref01_Gain.calls a0 a1 t130 _ A23.out).mono ?_); rintro e w' ⟨rfl, ⟨nd, rfl⟩⟩))
              go_ret
              exact ⟨by first | rfl | (simp [errW_none, errW_some] <;> rfl) | (simp [*, errW_none, errW_some] <;> rfl), by repeat (first | (with_reducible first | exact HB.out | apply below_alloc | apply pw_below_drewN | apply below_drew1) | exact HB.out)⟩
          · rw [if_neg c21] at H
            have c21b0 : (t127 == t128) = false := beq_eq_false_iff_ne.mpr c21
            have c21b1 : (t127 != t128) = true := bne_iff_ne.mpr c21
            obtain rfl := Option.some.inj H
            go_wp2_with (first | (go_at_call 17; (with_reducible refine (fix_MulDivT.calls a0 a1 a2 t127 _ A19.out).mono ?_); rintro e w' ⟨rfl, ⟨nd, rfl⟩⟩) | (go_at_call 18; (with_reducible refine (wigwagref01_MulDivT.calls a0 a1 a2 t128 _ A20.out).mono ?_); rintro e w' ⟨rfl, ⟨nd, rfl⟩⟩))
            go_ret
            exact ⟨by first | rfl | (simp [errW_none, errW_some] <;> rfl) | (simp [*, errW_none, errW_some] <;> rfl), by repeat (first | (with_reducible first | exact HB.out | apply below_alloc | apply pw_below_drewN | apply below_drew1) | exact HB.out)⟩
        · replace c18 := Bool.eq_false_iff.mpr c18
          subst c18
          have H1 : (some false) = some r := by rw [if_neg (show ¬ (false = true) by decide)] at H; exact H
          clear H
          have H := H1
          clear H1
          obtain rfl := Option.some.inj H
          go_wp2
          go_ret
          exact ⟨by first | rfl | (simp [errW_none, errW_some] <;> rfl) | (simp [*, errW_none, errW_some] <;> rfl), by repeat (first | (with_reducible first | exact HB.out | apply below_alloc | apply pw_below_drewN | apply below_drew1) | exact HB.out)⟩
      · replace c17 := Bool.eq_false_iff.mpr c17
        subst c17
        have H1 : (some false) = some r := by rw [if_neg (show ¬ (false = true) by decide)] at H; exact H
        clear H
        have H := H1
        clear H1
        obtain rfl := Option.some.inj H
        go_wp2
        go_ret
        exact ⟨by first | rfl | (simp [errW_none, errW_some] <;> rfl) | (simp [*, errW_none, errW_some] <;> rfl), by repeat (first | (with_reducible first | exact HB.out | apply below_alloc | apply pw_below_drewN | apply below_drew1) | exact HB.out)⟩

/-- THE ONE PURE STATEMENT of wigwaglaw01_FixTells: yours. -/
def wigwaglaw01_FixTells.Pure : Prop := ∀ (a0 : Int) (a1 : Int) (a2 : Int), (Lit.int .u64 a0).wf = true → (Lit.int .u64 a1).wf = true → (Lit.int .u64 a2).wf = true → ∃ k, wigwaglaw01_FixTells.f k a0 a1 a2 = some true
theorem wigwaglaw01_FixTells.walk (P : wigwaglaw01_FixTells.Pure) (a0 : Int) (a1 : Int) (a2 : Int) (w : World) (w0 : (Lit.int .u64 a0).wf = true) (w1 : (Lit.int .u64 a1).wf = true) (w2 : (Lit.int .u64 a2).wf = true) :
    Calls Try.prog 3 #[.int .u64 a0, .int .u64 a1, .int .u64 a2] w fun e w' => e = .returned (.bool true) ∧ Below w.heap.size w w' := by
  obtain ⟨k, h⟩ := P a0 a1 a2 w0 w1 w2
  refine (wigwaglaw01_FixTells.calls k a0 a1 a2 true w h).mono ?_
  rintro e w' ⟨rfl, hd⟩
  exact ⟨rfl, hd⟩

end Go.Proofs.Ytffanpfimhldhaa.PFix
