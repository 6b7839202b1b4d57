/- Several texts of this claim in one: PFrax17 PFrax18 PFrax19 PFrax20 PFrax21 -/
import Derived.Test.YtphakdfholkbdaaKA
import Derived.Test.YtphakdfholkbdaaKB
section
namespace Go.Proofs.Ytphakdfholkbdaa.PFra
open Go.RowKit Go.Proofs.YtphakdfholkbdaaW.PrintWords Go.Proofs.YtphakdfholkbdaaW.PrintLast Go.Proofs.YtphakdfholkbdaaW.PrintMore
attribute [local go_sem] max2_int min2_int max_two min_two max_three min_three max_four min_four   -- for this text's walks alone
set_option linter.unusedVariables false
set_option linter.unusedSimpArgs false
def wigwagref05_spans.l0 : Nat → List (S47) → Int → Option (Bool)
  | 0, _, _ => none
  | k + 1, x0, x3 => if x3 < (x0.length : Int) then (if 0 ≤ x3 then (if ((rd_T47 x0 x3).f0) ≥ ((rd_T47 x0 x3).f1) then (some false) else (if ((rd_T47 x0 x3).f1) > 4611686018427387904 then (some false) else (if x3 > 0 then (if 0 ≤ (wrap64 (x3 - 1)) then (if (wrap64 (x3 - 1)) < (x0.length : Int) then (if ((rd_T47 x0 x3).f0) ≤ ((rd_T47 x0 (wrap64 (x3 - 1))).f1) then (some false) else (wigwagref05_spans.l0 k x0 (wrap64 (x3 + 1)))) else (none)) else (none)) else (wigwagref05_spans.l0 k x0 (wrap64 (x3 + 1)))))) else (none)) else (some true)
def wigwagref05_spans.f (k : Nat) (l0 : List (S47)) : Option (Bool) := if (l0.length : Int) < 1 then (some false) else (if (l0.length : Int) > 32 then (some false) else (wigwagref05_spans.l0 k l0 0))
set_option maxHeartbeats 8000000 in
set_option maxRecDepth 100000 in
theorem wigwagref05_spans.calls (k : Nat) (A0 : Option Addr) (c0 : Nat) (l0 : List (S47)) (r : Bool) (w : World) (hr0 : Kd.C k47 w A0 l0.length l0) (hc0 : l0.length ≤ c0) (h : wigwagref05_spans.f k l0 = some r) :
    Calls Try.prog 31 #[.slice A0 l0.length c0] w fun e w' => e = .returned (.bool r) ∧ Drawn0 w w' := by
  have HR0 := Aside0.mk hr0
  have HC0 := Aside0.mk hc0
  clear hr0 hc0
  have H : (if (l0.length : Int) < 1 then (some false) else (if (l0.length : Int) > 32 then (some false) else (wigwagref05_spans.l0 k l0 0))) = some r := h
  clear h
  by_cases c2 : (l0.length : Int) < 1
  · rw [if_pos c2] at H
    have c2b0 : decide ((l0.length : Int) < 1) = true := decide_eq_true c2
    have c2b1 : decide (l0.length < 1) = true := decide_eq_true (by omega)
    clear c2
    obtain rfl := Option.some.inj H
    go_enter Try.func31, Try.ntmps31
    go_wp2
    repeat (go_quiet (fail); try go_wp2)
    go_ret
    exact ⟨by first | rfl | (simp; done) | (simp [*]; done), by repeat (first | exact Drawn0.refl _ | apply Drawn0.step)⟩
  · rw [if_neg c2] at H
    have c2b0 : decide ((l0.length : Int) < 1) = false := decide_eq_false c2
    have c2b1 : decide (l0.length < 1) = false := decide_eq_false (by omega)
    clear c2
    by_cases c3 : (l0.length : Int) > 32
    · rw [if_pos c3] at H
      have c3b0 : decide (32 < (l0.length : Int)) = true := decide_eq_true c3
      have c3b1 : decide (32 < l0.length) = true := decide_eq_true (by omega)
      clear c3
      obtain rfl := Option.some.inj H
      go_enter Try.func31, Try.ntmps31
      go_wp2
      repeat (go_quiet (fail); try go_wp2)
      go_ret
      exact ⟨by first | rfl | (simp; done) | (simp [*]; done), by repeat (first | exact Drawn0.refl _ | apply Drawn0.step)⟩
    · rw [if_neg c3] at H
      have c3b0 : decide (32 < (l0.length : Int)) = false := decide_eq_false c3
      have c3b1 : decide (32 < l0.length) = false := decide_eq_false (by omega)
      clear c3
      have H' := Aside0.mk H
      clear H
      go_enter Try.func31, Try.ntmps31
      go_wp2
      repeat (go_quiet (fail); try go_wp2)
      go_loopg [3] k (fun kq v3 w' => ∃ (x3_1 : Int), v3 = .int .i64 x3_1 ∧ Aside0 (wigwagref05_spans.l0 kq l0 x3_1 = some r) ∧ Aside0 (kq ≤ k) ∧ Drawn0 w w')
      case atStart => exact ⟨(0), (by first | rfl | (simp; done) | (simp [*]; done)), H', ⟨Nat.le_refl _⟩, by repeat (first | exact Drawn0.refl _ | apply Drawn0.step)⟩
      case round =>
        clear H'
        try clear c2
        try clear c2b0
        try clear c2b1
        try clear p2
        try clear c3
        try clear c3b0
        try clear c3b1
        obtain ⟨x3_1, rfl, HA, HK1, ⟨m1, rfl⟩⟩ := hrel
        cases gk with
        | zero => exact absurd HA.out (by simp [wigwagref05_spans.l0])
        | succ k1 =>
          have H := HA.out
          clear HA
          simp only [wigwagref05_spans.l0] at H
          by_cases c4 : x3_1 < (l0.length : Int)
          · rw [if_pos c4] at H
            have c4b0 : decide (x3_1 < (l0.length : Int)) = true := decide_eq_true c4
            clear c4
            by_cases c5 : 0 ≤ x3_1
            · rw [if_pos c5] at H
              have c5b0 : decide (0 ≤ x3_1) = true := decide_eq_true c5
              clear c5
              by_cases c6 : ((rd_T47 l0 x3_1).f0) ≥ ((rd_T47 l0 x3_1).f1)
              · rw [if_pos c6] at H
                have c6b0 : decide (((rd_T47 l0 x3_1).f1) ≤ ((rd_T47 l0 x3_1).f0)) = true := decide_eq_true c6
                clear c6
                obtain rfl := Option.some.inj H
                have p213 : 0 ≤ (x3_1 : Int) := of_decide_eq_true (by first | (with_reducible assumption) | assumption)
                have q213 : x3_1 < (l0.length : Int) := of_decide_eq_true (by first | (with_reducible assumption) | assumption)
                obtain ⟨ad213, e213, hx213_0, hx213_1⟩ := at_T47 HR0.out x3_1 p213 q213
                cases e213
                replace p213 := eq_true p213
                replace q213 := eq_true q213
                have p214 : 0 ≤ (x3_1 : Int) := of_decide_eq_true (by first | (with_reducible assumption) | assumption)
                have q214 : x3_1 < (l0.length : Int) := of_decide_eq_true (by first | (with_reducible assumption) | assumption)
                obtain ⟨ad214, e214, hx214_0, hx214_1⟩ := at_T47 HR0.out x3_1 p214 q214
                obtain rfl : ad213 = ad214 := (by injection e214)
                replace p214 := eq_true p214
                replace q214 := eq_true q214
                go_wp2
                repeat (go_quiet (fail); try go_wp2)
                go_ret
                exact ⟨by first | rfl | (simp; done) | (simp [*]; done), by repeat (first | exact Drawn0.refl _ | apply Drawn0.step)⟩
              · rw [if_neg c6] at H
                have c6b0 : decide (((rd_T47 l0 x3_1).f1) ≤ ((rd_T47 l0 x3_1).f0)) = false := decide_eq_false c6
                clear c6
                by_cases c7 : ((rd_T47 l0 x3_1).f1) > 4611686018427387904
                · rw [if_pos c7] at H
                  have c7b0 : decide (4611686018427387904 < ((rd_T47 l0 x3_1).f1)) = true := decide_eq_true c7
                  clear c7
                  obtain rfl := Option.some.inj H
                  have p213 : 0 ≤ (x3_1 : Int) := of_decide_eq_true (by first | (with_reducible assumption) | assumption)
                  have q213 : x3_1 < (l0.length : Int) := of_decide_eq_true (by first | (with_reducible assumption) | assumption)
                  obtain ⟨ad213, e213, hx213_0, hx213_1⟩ := at_T47 HR0.out x3_1 p213 q213
                  cases e213
                  replace p213 := eq_true p213
                  replace q213 := eq_true q213
                  have p214 : 0 ≤ (x3_1 : Int) := of_decide_eq_true (by first | (with_reducible assumption) | assumption)
                  have q214 : x3_1 < (l0.length : Int) := of_decide_eq_true (by first | (with_reducible assumption) | assumption)
                  obtain ⟨ad214, e214, hx214_0, hx214_1⟩ := at_T47 HR0.out x3_1 p214 q214
                  obtain rfl : ad213 = ad214 := (by injection e214)
                  replace p214 := eq_true p214
                  replace q214 := eq_true q214
                  have p215 : 0 ≤ (x3_1 : Int) := of_decide_eq_true (by first | (with_reducible assumption) | assumption)
                  have q215 : x3_1 < (l0.length : Int) := of_decide_eq_true (by first | (with_reducible assumption) | assumption)
                  obtain ⟨ad215, e215, hx215_0, hx215_1⟩ := at_T47 HR0.out x3_1 p215 q215
                  obtain rfl : ad213 = ad215 := (by injection e215)
                  replace p215 := eq_true p215
                  replace q215 := eq_true q215
                  go_wp2
                  repeat (go_quiet (fail); try go_wp2)
                  go_ret
                  exact ⟨by first | rfl | (simp; done) | (simp [*]; done), by repeat (first | exact Drawn0.refl _ | apply Drawn0.step)⟩
                · rw [if_neg c7] at H
                  have c7b0 : decide (4611686018427387904 < ((rd_T47 l0 x3_1).f1)) = false := decide_eq_false c7
                  clear c7
                  by_cases c8 : x3_1 > 0
                  · rw [if_pos c8] at H
                    have c8b0 : decide (0 < x3_1) = true := decide_eq_true c8
                    clear c8
                    obtain ⟨ji9, hji9⟩ : ∃ j_ : Int, (wrap64 (x3_1 - 1)) = j_ := ⟨_, rfl⟩
                    replace H : (if 0 ≤ (ji9) then (if (ji9) < (l0.length : Int) then (if ((rd_T47 l0 x3_1).f0) ≤ ((rd_T47 l0 (ji9)).f1) then (some false) else (wigwagref05_spans.l0 k1 l0 (wrap64 (x3_1 + 1)))) else (none)) else (none)) = some r := by first | (rw [hji9] at H; exact H) | (simp only [hji9] at H ⊢; exact H)
                    have hji9w : (IntKind.i64.wrap (x3_1 - 1)) = ji9 := (i64_w _).trans hji9
                    by_cases c10 : 0 ≤ (ji9)
                    · rw [if_pos c10] at H
                      have c10b0 : decide (0 ≤ (ji9)) = true := decide_eq_true c10
                      clear c10
                      by_cases c11 : (ji9) < (l0.length : Int)
                      · rw [if_pos c11] at H
                        have c11b0 : decide ((ji9) < (l0.length : Int)) = true := decide_eq_true c11
                        clear c11
                        by_cases c12 : ((rd_T47 l0 x3_1).f0) ≤ ((rd_T47 l0 (ji9)).f1)
                        · rw [if_pos c12] at H
                          have c12b0 : decide (((rd_T47 l0 x3_1).f0) ≤ ((rd_T47 l0 (ji9)).f1)) = true := decide_eq_true c12
                          clear c12
                          obtain rfl := Option.some.inj H
                          have p213 : 0 ≤ (x3_1 : Int) := of_decide_eq_true (by first | (with_reducible assumption) | assumption)
                          have q213 : x3_1 < (l0.length : Int) := of_decide_eq_true (by first | (with_reducible assumption) | assumption)
                          obtain ⟨ad213, e213, hx213_0, hx213_1⟩ := at_T47 HR0.out x3_1 p213 q213
                          cases e213
                          replace p213 := eq_true p213
                          replace q213 := eq_true q213
                          have p214 : 0 ≤ (x3_1 : Int) := of_decide_eq_true (by first | (with_reducible assumption) | assumption)
                          have q214 : x3_1 < (l0.length : Int) := of_decide_eq_true (by first | (with_reducible assumption) | assumption)
                          obtain ⟨ad214, e214, hx214_0, hx214_1⟩ := at_T47 HR0.out x3_1 p214 q214
                          obtain rfl : ad213 = ad214 := (by injection e214)
                          replace p214 := eq_true p214
                          replace q214 := eq_true q214
                          have p215 : 0 ≤ (x3_1 : Int) := of_decide_eq_true (by first | (with_reducible assumption) | assumption)
                          have q215 : x3_1 < (l0.length : Int) := of_decide_eq_true (by first | (with_reducible assumption) | assumption)
                          obtain ⟨ad215, e215, hx215_0, hx215_1⟩ := at_T47 HR0.out x3_1 p215 q215
                          obtain rfl : ad213 = ad215 := (by injection e215)
                          replace p215 := eq_true p215
                          replace q215 := eq_true q215
                          have p216 : 0 ≤ (x3_1 : Int) := of_decide_eq_true (by first | (with_reducible assumption) | assumption)
                          have q216 : x3_1 < (l0.length : Int) := of_decide_eq_true (by first | (with_reducible assumption) | assumption)
                          obtain ⟨ad216, e216, hx216_0, hx216_1⟩ := at_T47 HR0.out x3_1 p216 q216
                          obtain rfl : ad213 = ad216 := (by injection e216)
                          replace p216 := eq_true p216
                          replace q216 := eq_true q216
                          have p217 : 0 ≤ ((ji9) : Int) := of_decide_eq_true (by first | (with_reducible assumption) | assumption)
                          have q217 : (ji9) < (l0.length : Int) := of_decide_eq_true (by first | (with_reducible assumption) | assumption)
                          obtain ⟨ad217, e217, hx217_0, hx217_1⟩ := at_T47 HR0.out (ji9) p217 q217
                          obtain rfl : ad213 = ad217 := (by injection e217)
                          replace p217 := eq_true p217
                          replace q217 := eq_true q217
                          go_wp2
                          repeat (go_quiet (fail); try go_wp2)
                          go_ret
                          exact ⟨by first | rfl | (simp; done) | (simp only [← hji9] <;> (first | rfl | simp)) | (simp [*]; done), by repeat (first | exact Drawn0.refl _ | apply Drawn0.step)⟩
                        · rw [if_neg c12] at H
                          have c12b0 : decide (((rd_T47 l0 x3_1).f0) ≤ ((rd_T47 l0 (ji9)).f1)) = false := decide_eq_false c12
                          clear c12
                          have H' := Aside0.mk H
                          clear H
                          have p213 : 0 ≤ (x3_1 : Int) := of_decide_eq_true (by first | (with_reducible assumption) | assumption)
                          have q213 : x3_1 < (l0.length : Int) := of_decide_eq_true (by first | (with_reducible assumption) | assumption)
                          obtain ⟨ad213, e213, hx213_0, hx213_1⟩ := at_T47 HR0.out x3_1 p213 q213
                          cases e213
                          replace p213 := eq_true p213
                          replace q213 := eq_true q213
                          have p214 : 0 ≤ (x3_1 : Int) := of_decide_eq_true (by first | (with_reducible assumption) | assumption)
                          have q214 : x3_1 < (l0.length : Int) := of_decide_eq_true (by first | (with_reducible assumption) | assumption)
                          obtain ⟨ad214, e214, hx214_0, hx214_1⟩ := at_T47 HR0.out x3_1 p214 q214
                          obtain rfl : ad213 = ad214 := (by injection e214)
                          replace p214 := eq_true p214
                          replace q214 := eq_true q214
                          have p215 : 0 ≤ (x3_1 : Int) := of_decide_eq_true (by first | (with_reducible assumption) | assumption)
                          have q215 : x3_1 < (l0.length : Int) := of_decide_eq_true (by first | (with_reducible assumption) | assumption)
                          obtain ⟨ad215, e215, hx215_0, hx215_1⟩ := at_T47 HR0.out x3_1 p215 q215
                          obtain rfl : ad213 = ad215 := (by injection e215)
                          replace p215 := eq_true p215
                          replace q215 := eq_true q215
                          have p216 : 0 ≤ (x3_1 : Int) := of_decide_eq_true (by first | (with_reducible assumption) | assumption)
                          have q216 : x3_1 < (l0.length : Int) := of_decide_eq_true (by first | (with_reducible assumption) | assumption)
                          obtain ⟨ad216, e216, hx216_0, hx216_1⟩ := at_T47 HR0.out x3_1 p216 q216
                          obtain rfl : ad213 = ad216 := (by injection e216)
                          replace p216 := eq_true p216
                          replace q216 := eq_true q216
                          have p217 : 0 ≤ ((ji9) : Int) := of_decide_eq_true (by first | (with_reducible assumption) | assumption)
                          have q217 : (ji9) < (l0.length : Int) := of_decide_eq_true (by first | (with_reducible assumption) | assumption)
                          obtain ⟨ad217, e217, hx217_0, hx217_1⟩ := at_T47 HR0.out (ji9) p217 q217
                          obtain rfl : ad213 = ad217 := (by injection e217)
                          replace p217 := eq_true p217
                          replace q217 := eq_true q217
                          go_wp2
                          repeat (go_quiet (fail); try go_wp2)
                          go_roundg k1
                          case measure => have := HK1.out; omega
                          case rel => exact ⟨(wrap64 (x3_1 + 1)), (by first | rfl | (simp; done) | (simp [*]; done)), H', ⟨by have := HK1.out; omega⟩, by repeat (first | exact Drawn0.refl _ | apply Drawn0.step)⟩
                      · rw [if_neg c11] at H
                        exact absurd H (by simp)
                    · rw [if_neg c10] at H
                      exact absurd H (by simp)
                  · rw [if_neg c8] at H
                    have c8b0 : decide (0 < x3_1) = false := decide_eq_false c8
                    clear c8
                    have H' := Aside0.mk H
                    clear H
                    have p213 : 0 ≤ (x3_1 : Int) := of_decide_eq_true (by first | (with_reducible assumption) | assumption)
                    have q213 : x3_1 < (l0.length : Int) := of_decide_eq_true (by first | (with_reducible assumption) | assumption)
                    obtain ⟨ad213, e213, hx213_0, hx213_1⟩ := at_T47 HR0.out x3_1 p213 q213
                    cases e213
                    replace p213 := eq_true p213
                    replace q213 := eq_true q213
                    have p214 : 0 ≤ (x3_1 : Int) := of_decide_eq_true (by first | (with_reducible assumption) | assumption)
                    have q214 : x3_1 < (l0.length : Int) := of_decide_eq_true (by first | (with_reducible assumption) | assumption)
                    obtain ⟨ad214, e214, hx214_0, hx214_1⟩ := at_T47 HR0.out x3_1 p214 q214
                    obtain rfl : ad213 = ad214 := (by injection e214)
                    replace p214 := eq_true p214
                    replace q214 := eq_true q214
                    have p215 : 0 ≤ (x3_1 : Int) := of_decide_eq_true (by first | (with_reducible assumption) | assumption)
                    have q215 : x3_1 < (l0.length : Int) := of_decide_eq_true (by first | (with_reducible assumption) | assumption)
                    obtain ⟨ad215, e215, hx215_0, hx215_1⟩ := at_T47 HR0.out x3_1 p215 q215
                    obtain rfl : ad213 = ad215 := (by injection e215)
                    replace p215 := eq_true p215
                    replace q215 := eq_true q215
                    go_wp2
                    repeat (go_quiet (fail); try go_wp2)
                    go_roundg k1
                    case measure => have := HK1.out; omega
                    case rel => exact ⟨(wrap64 (x3_1 + 1)), (by first | rfl | (simp; done) | (simp [*]; done)), H', ⟨by have := HK1.out; omega⟩, by repeat (first | exact Drawn0.refl _ | apply Drawn0.step)⟩
            · rw [if_neg c5] at H
              exact absurd H (by simp)
          · rw [if_neg c4] at H
            have c4b0 : decide (x3_1 < (l0.length : Int)) = false := decide_eq_false c4
            clear c4
            obtain rfl := Option.some.inj H
            go_wp2
            repeat (go_quiet (fail); try go_wp2)
            go_ret
            exact ⟨by first | rfl | (simp; done) | (simp [*]; done), by repeat (first | exact Drawn0.refl _ | apply Drawn0.step)⟩
end Go.Proofs.Ytphakdfholkbdaa.PFra
end
section
namespace Go.Proofs.Ytphakdfholkbdaa.PFra
open Go.RowKit Go.Proofs.YtphakdfholkbdaaW.PrintWords Go.Proofs.YtphakdfholkbdaaW.PrintLast Go.Proofs.YtphakdfholkbdaaW.PrintMore
set_option linter.unusedVariables false
set_option linter.unusedSimpArgs false
set_option maxRecDepth 100000
set_option maxHeartbeats 4000000
def hasV (os : List Nat) : List Value := [.bool (decide (1 ∈ os)), .bool (decide (2 ∈ os)), .bool (decide (3 ∈ os)), .bool (decide (4 ∈ os)), .bool (decide (5 ∈ os)), .bool (decide (6 ∈ os))]
def RFPost (os : List Nat) (w : World) (e : Ending) (w' : World) : Prop := e = .returned (.tuple #[.agg (hasV os).toArray, .bool true]) ∧ Below w.heap.size w w'
theorem rfields_0 (w : World) : Calls Try.prog 30 #[.int .i64 0] w (RFPost [] w) := by
  have hu := Try.underlying65
  go_enter Try.func30, Try.ntmps30
  go_wp2
  exact bodyPost_ret (v := .tuple #[.agg #[.bool false, .bool false, .bool false, .bool false, .bool false, .bool false], .bool true]) (by simp [results, Try.results30, go_sem]) rfl ⟨rfl, by repeat (first | (with_reducible exact Below.refl _ _) | (with_reducible refine below_set ?_ (by simp)) | (with_reducible apply pw_below_drewN) | (with_reducible apply below_alloc))⟩
theorem rfields_1 (w : World) : Calls Try.prog 30 #[.int .i64 1] w (RFPost [] w) := by
  have hu := Try.underlying65
  go_enter Try.func30, Try.ntmps30
  go_wp2
  exact bodyPost_ret (v := .tuple #[.agg #[.bool false, .bool false, .bool false, .bool false, .bool false, .bool false], .bool true]) (by simp [results, Try.results30, go_sem]) rfl ⟨rfl, by repeat (first | (with_reducible exact Below.refl _ _) | (with_reducible refine below_set ?_ (by simp)) | (with_reducible apply pw_below_drewN) | (with_reducible apply below_alloc))⟩
theorem rfields_30 (w : World) : Calls Try.prog 30 #[.int .i64 30] w (RFPost [] w) := by
  have hu := Try.underlying65
  go_enter Try.func30, Try.ntmps30
  go_wp2
  exact bodyPost_ret (v := .tuple #[.agg #[.bool false, .bool false, .bool false, .bool false, .bool false, .bool false], .bool true]) (by simp [results, Try.results30, go_sem]) rfl ⟨rfl, by repeat (first | (with_reducible exact Below.refl _ _) | (with_reducible refine below_set ?_ (by simp)) | (with_reducible apply pw_below_drewN) | (with_reducible apply below_alloc))⟩
theorem rfields_2 (w : World) : Calls Try.prog 30 #[.int .i64 2] w (RFPost [5] w) := by
  have hu := Try.underlying65
  go_enter Try.func30, Try.ntmps30
  go_wp2
  exact bodyPost_ret (v := .tuple #[.agg #[.bool false, .bool false, .bool false, .bool false, .bool true, .bool false], .bool true]) (by simp [results, Try.results30, go_sem]) rfl ⟨rfl, by repeat (first | (with_reducible exact Below.refl _ _) | (with_reducible refine below_set ?_ (by simp)) | (with_reducible apply pw_below_drewN) | (with_reducible apply below_alloc))⟩
theorem rfields_3 (w : World) : Calls Try.prog 30 #[.int .i64 3] w (RFPost [5, 6] w) := by
  have hu := Try.underlying65
  go_enter Try.func30, Try.ntmps30
  go_wp2
  exact bodyPost_ret (v := .tuple #[.agg #[.bool false, .bool false, .bool false, .bool false, .bool true, .bool true], .bool true]) (by simp [results, Try.results30, go_sem]) rfl ⟨rfl, by repeat (first | (with_reducible exact Below.refl _ _) | (with_reducible refine below_set ?_ (by simp)) | (with_reducible apply pw_below_drewN) | (with_reducible apply below_alloc))⟩
theorem rfields_4 (w : World) : Calls Try.prog 30 #[.int .i64 4] w (RFPost [1, 4, 3] w) := by
  have hu := Try.underlying65
  go_enter Try.func30, Try.ntmps30
  go_wp2
  exact bodyPost_ret (v := .tuple #[.agg #[.bool true, .bool false, .bool true, .bool true, .bool false, .bool false], .bool true]) (by simp [results, Try.results30, go_sem]) rfl ⟨rfl, by repeat (first | (with_reducible exact Below.refl _ _) | (with_reducible refine below_set ?_ (by simp)) | (with_reducible apply pw_below_drewN) | (with_reducible apply below_alloc))⟩
theorem rfields_5 (w : World) : Calls Try.prog 30 #[.int .i64 5] w (RFPost [1, 4] w) := by
  have hu := Try.underlying65
  go_enter Try.func30, Try.ntmps30
  go_wp2
  exact bodyPost_ret (v := .tuple #[.agg #[.bool true, .bool false, .bool false, .bool true, .bool false, .bool false], .bool true]) (by simp [results, Try.results30, go_sem]) rfl ⟨rfl, by repeat (first | (with_reducible exact Below.refl _ _) | (with_reducible refine below_set ?_ (by simp)) | (with_reducible apply pw_below_drewN) | (with_reducible apply below_alloc))⟩
theorem rfields_6 (w : World) : Calls Try.prog 30 #[.int .i64 6] w (RFPost [3, 2, 1] w) := by
  have hu := Try.underlying65
  go_enter Try.func30, Try.ntmps30
  go_wp2
  exact bodyPost_ret (v := .tuple #[.agg #[.bool true, .bool true, .bool true, .bool false, .bool false, .bool false], .bool true]) (by simp [results, Try.results30, go_sem]) rfl ⟨rfl, by repeat (first | (with_reducible exact Below.refl _ _) | (with_reducible refine below_set ?_ (by simp)) | (with_reducible apply pw_below_drewN) | (with_reducible apply below_alloc))⟩
theorem rfields_14 (w : World) : Calls Try.prog 30 #[.int .i64 14] w (RFPost [1, 2] w) := by
  have hu := Try.underlying65
  go_enter Try.func30, Try.ntmps30
  go_wp2
  exact bodyPost_ret (v := .tuple #[.agg #[.bool true, .bool true, .bool false, .bool false, .bool false, .bool false], .bool true]) (by simp [results, Try.results30, go_sem]) rfl ⟨rfl, by repeat (first | (with_reducible exact Below.refl _ _) | (with_reducible refine below_set ?_ (by simp)) | (with_reducible apply pw_below_drewN) | (with_reducible apply below_alloc))⟩
theorem rfields_16 (w : World) : Calls Try.prog 30 #[.int .i64 16] w (RFPost [3] w) := by
  have hu := Try.underlying65
  go_enter Try.func30, Try.ntmps30
  go_wp2
  exact bodyPost_ret (v := .tuple #[.agg #[.bool false, .bool false, .bool true, .bool false, .bool false, .bool false], .bool true]) (by simp [results, Try.results30, go_sem]) rfl ⟨rfl, by repeat (first | (with_reducible exact Below.refl _ _) | (with_reducible refine below_set ?_ (by simp)) | (with_reducible apply pw_below_drewN) | (with_reducible apply below_alloc))⟩
theorem rfields_18 (w : World) : Calls Try.prog 30 #[.int .i64 18] w (RFPost [3] w) := by
  have hu := Try.underlying65
  go_enter Try.func30, Try.ntmps30
  go_wp2
  exact bodyPost_ret (v := .tuple #[.agg #[.bool false, .bool false, .bool true, .bool false, .bool false, .bool false], .bool true]) (by simp [results, Try.results30, go_sem]) rfl ⟨rfl, by repeat (first | (with_reducible exact Below.refl _ _) | (with_reducible refine below_set ?_ (by simp)) | (with_reducible apply pw_below_drewN) | (with_reducible apply below_alloc))⟩
theorem rfields_20 (w : World) : Calls Try.prog 30 #[.int .i64 20] w (RFPost [3] w) := by
  have hu := Try.underlying65
  go_enter Try.func30, Try.ntmps30
  go_wp2
  exact bodyPost_ret (v := .tuple #[.agg #[.bool false, .bool false, .bool true, .bool false, .bool false, .bool false], .bool true]) (by simp [results, Try.results30, go_sem]) rfl ⟨rfl, by repeat (first | (with_reducible exact Below.refl _ _) | (with_reducible refine below_set ?_ (by simp)) | (with_reducible apply pw_below_drewN) | (with_reducible apply below_alloc))⟩
theorem rfields_17 (w : World) : Calls Try.prog 30 #[.int .i64 17] w (RFPost [1, 3] w) := by
  have hu := Try.underlying65
  go_enter Try.func30, Try.ntmps30
  go_wp2
  exact bodyPost_ret (v := .tuple #[.agg #[.bool true, .bool false, .bool true, .bool false, .bool false, .bool false], .bool true]) (by simp [results, Try.results30, go_sem]) rfl ⟨rfl, by repeat (first | (with_reducible exact Below.refl _ _) | (with_reducible refine below_set ?_ (by simp)) | (with_reducible apply pw_below_drewN) | (with_reducible apply below_alloc))⟩
theorem rfields_21 (w : World) : Calls Try.prog 30 #[.int .i64 21] w (RFPost [1, 3] w) := by
  have hu := Try.underlying65
  go_enter Try.func30, Try.ntmps30
  go_wp2
  exact bodyPost_ret (v := .tuple #[.agg #[.bool true, .bool false, .bool true, .bool false, .bool false, .bool false], .bool true]) (by simp [results, Try.results30, go_sem]) rfl ⟨rfl, by repeat (first | (with_reducible exact Below.refl _ _) | (with_reducible refine below_set ?_ (by simp)) | (with_reducible apply pw_below_drewN) | (with_reducible apply below_alloc))⟩
theorem rfields_28 (w : World) : Calls Try.prog 30 #[.int .i64 28] w (RFPost [4] w) := by
  have hu := Try.underlying65
  go_enter Try.func30, Try.ntmps30
  go_wp2
  exact bodyPost_ret (v := .tuple #[.agg #[.bool false, .bool false, .bool false, .bool true, .bool false, .bool false], .bool true]) (by simp [results, Try.results30, go_sem]) rfl ⟨rfl, by repeat (first | (with_reducible exact Below.refl _ _) | (with_reducible refine below_set ?_ (by simp)) | (with_reducible apply pw_below_drewN) | (with_reducible apply below_alloc))⟩
theorem rfields_no (a0 : Int) (w : World) (hn : fOffs a0 = none) : Calls Try.prog 30 #[.int .i64 a0] w fun e w' => ∃ v, e = .returned (.tuple #[.agg v, .bool false]) ∧ v = (hasV []).toArray ∧ Below w.heap.size w w' := by
  have hu := Try.underlying65
  have h : a0 ≠ 0 ∧ a0 ≠ 1 ∧ a0 ≠ 30 ∧ a0 ≠ 2 ∧ a0 ≠ 3 ∧ a0 ≠ 4 ∧ a0 ≠ 5 ∧ a0 ≠ 6 ∧ a0 ≠ 14 ∧ a0 ≠ 16 ∧ a0 ≠ 18 ∧ a0 ≠ 20 ∧ a0 ≠ 17 ∧ a0 ≠ 21 ∧ a0 ≠ 28 := by
    unfold fOffs at hn
    repeat (first | omega | (split at hn; (· cases hn)))
  clear hn
  obtain ⟨n0, n1, n30, n2, n3, n4, n5, n6, n14, n16, n18, n20, n17, n21, n28⟩ := h
  have e0 : (a0 == 0) = false := beq_eq_false_iff_ne.mpr n0
  have e1 : (a0 == 1) = false := beq_eq_false_iff_ne.mpr n1
  have e30 : (a0 == 30) = false := beq_eq_false_iff_ne.mpr n30
  have e2 : (a0 == 2) = false := beq_eq_false_iff_ne.mpr n2
  have e3 : (a0 == 3) = false := beq_eq_false_iff_ne.mpr n3
  have e4 : (a0 == 4) = false := beq_eq_false_iff_ne.mpr n4
  have e5 : (a0 == 5) = false := beq_eq_false_iff_ne.mpr n5
  have e6 : (a0 == 6) = false := beq_eq_false_iff_ne.mpr n6
  have e14 : (a0 == 14) = false := beq_eq_false_iff_ne.mpr n14
  have e16 : (a0 == 16) = false := beq_eq_false_iff_ne.mpr n16
  have e18 : (a0 == 18) = false := beq_eq_false_iff_ne.mpr n18
  have e20 : (a0 == 20) = false := beq_eq_false_iff_ne.mpr n20
  have e17 : (a0 == 17) = false := beq_eq_false_iff_ne.mpr n17
  have e21 : (a0 == 21) = false := beq_eq_false_iff_ne.mpr n21
  have e28 : (a0 == 28) = false := beq_eq_false_iff_ne.mpr n28
  clear n0 n1 n30 n2 n3 n4 n5 n6 n14 n16 n18 n20 n17 n21 n28
  go_enter Try.func30, Try.ntmps30
  go_wp2
  exact bodyPost_ret (v := .tuple #[.agg #[.bool false, .bool false, .bool false, .bool false, .bool false, .bool false], .bool false]) (by simp [results, Try.results30, go_sem]) rfl ⟨_, rfl, rfl, by repeat (first | (with_reducible exact Below.refl _ _) | (with_reducible refine below_set ?_ (by simp)) | (with_reducible apply pw_below_drewN) | (with_reducible apply below_alloc))⟩
theorem rfieldsC (a0 : Int) (os : List Nat) (w : World) (hs : fOffs a0 = some os) : Calls Try.prog 30 #[.int .i64 a0] w (RFPost os w) := by
  unfold fOffs at hs
  split at hs
  · rename_i h
    obtain rfl := Option.some.inj hs
    rcases h with rfl | rfl | rfl
    · exact rfields_0 w
    · exact rfields_1 w
    · exact rfields_30 w
  split at hs
  · rename_i h
    obtain rfl := Option.some.inj hs
    rcases h with rfl
    exact rfields_2 w
  split at hs
  · rename_i h
    obtain rfl := Option.some.inj hs
    rcases h with rfl
    exact rfields_3 w
  split at hs
  · rename_i h
    obtain rfl := Option.some.inj hs
    rcases h with rfl
    exact rfields_4 w
  split at hs
  · rename_i h
    obtain rfl := Option.some.inj hs
    rcases h with rfl
    exact rfields_5 w
  split at hs
  · rename_i h
    obtain rfl := Option.some.inj hs
    rcases h with rfl
    exact rfields_6 w
  split at hs
  · rename_i h
    obtain rfl := Option.some.inj hs
    rcases h with rfl
    exact rfields_14 w
  split at hs
  · rename_i h
    obtain rfl := Option.some.inj hs
    rcases h with rfl | rfl | rfl
    · exact rfields_16 w
    · exact rfields_18 w
    · exact rfields_20 w
  split at hs
  · rename_i h
    obtain rfl := Option.some.inj hs
    rcases h with rfl | rfl
    · exact rfields_17 w
    · exact rfields_21 w
  split at hs
  · rename_i h
    obtain rfl := Option.some.inj hs
    rcases h with rfl
    exact rfields_28 w
  cases hs
def wigwagref05_Check.f (k : Nat) (a0 a1 a2 a3 a4 a5 a6 : Int) (a7 : Bool) (l8 : List Int) (l9 : List S47) : Option Int :=
  if W64 a1 ∧ W64 a2 ∧ W64 a3 ∧ W64 a4 ∧ W64 a5 ∧ W64 a6 ∧ l8.length < 1000000 ∧ l9.length < 1000000 then
    match fOffs a0 with
    | none => some 50
    | some os => if uBad os a1 a2 a3 a4 a5 a6 = true then some 50
      else (wigwagref05_spans.f k l9).bind fun s => if ((a0 == 2 || a0 == 3) != s) = true ∨ (a0 == 2 || a0 == 3) = false ∧ 0 < l9.length then some 50 else some (uTail a0 a2 a7 l8.length)
  else none
theorem bad_none {os : List Nat} {a1 a2 a3 a4 a5 a6 : Int} (h : ∀ j, j < 6 → badF os (j + 1) (selA (j + 1) a1 a2 a3 a4 a5 a6) = false) : uBad os a1 a2 a3 a4 a5 a6 = false := by
  have h0 := h 0 (by omega); have h1 := h 1 (by omega); have h2 := h 2 (by omega); have h3 := h 3 (by omega); have h4 := h 4 (by omega); have h5 := h 5 (by omega)
  simp [selA] at h0 h1 h2 h3 h4 h5
  simp [uBad, h0, h1, h2, h3, h4, h5]
theorem bad_some {os : List Nat} {a1 a2 a3 a4 a5 a6 : Int} {j : Nat} (hj : j < 6) (h : badF os (j + 1) (selA (j + 1) a1 a2 a3 a4 a5 a6) = true) : uBad os a1 a2 a3 a4 a5 a6 = true := by
  have : j = 0 ∨ j = 1 ∨ j = 2 ∨ j = 3 ∨ j = 4 ∨ j = 5 := by omega
  rcases this with rfl | rfl | rfl | rfl | rfl | rfl <;> (simp [selA] at h; simp [uBad, h])
theorem sel_at {a1 a2 a3 a4 a5 a6 : Int} {j : Nat} (hj : j < 6) : ([.int .u64 a1, .int .u64 a2, .int .u64 a3, .int .u64 a4, .int .u64 a5, .int .u64 a6] : List Value)[j]? = some (.int .u64 (selA (j + 1) a1 a2 a3 a4 a5 a6)) := by
  have : j = 0 ∨ j = 1 ∨ j = 2 ∨ j = 3 ∨ j = 4 ∨ j = 5 := by omega
  rcases this with rfl | rfl | rfl | rfl | rfl | rfl <;> simp [selA]
theorem has_at {os : List Nat} {j : Nat} (hj : j < 6) : ([.bool (decide (1 ∈ os)), .bool (decide (2 ∈ os)), .bool (decide (3 ∈ os)), .bool (decide (4 ∈ os)), .bool (decide (5 ∈ os)), .bool (decide (6 ∈ os))] : List Value)[j]? = some (.bool (decide (j + 1 ∈ os))) := by
  have : j = 0 ∨ j = 1 ∨ j = 2 ∨ j = 3 ∨ j = 4 ∨ j = 5 := by omega
  rcases this with rfl | rfl | rfl | rfl | rfl | rfl <;> simp
theorem selA_w {a1 a2 a3 a4 a5 a6 : Int} (j : Nat) (W1 : W64 a1) (W2 : W64 a2) (W3 : W64 a3) (W4 : W64 a4) (W5 : W64 a5) (W6 : W64 a6) : W64 (selA j a1 a2 a3 a4 a5 a6) := by
  unfold selA
  repeat (first | assumption | split)
theorem wigwagref05_Check.no (a0 a1 a2 a3 a4 a5 a6 : Int) (a7 : Bool) (A8 : Option Addr) (c8 : Nat) (l8 : List Int) (A9 : Option Addr) (c9 : Nat) (l9 : List S47) (w : World) (h0 : fOffs a0 = none) :
    Calls Try.prog 16 #[.agg #[.int .i64 a0, .int .u64 a1, .int .u64 a2, .int .u64 a3, .int .u64 a4, .int .u64 a5, .int .u64 a6, .bool a7, .slice A8 l8.length c8, .slice A9 l9.length c9]] w fun e w' => e = .returned (.int .i64 50) ∧ Below w.heap.size w w' := by
  have hu := Try.underlying27
  have hu65 := Try.underlying65
  have HB := Since.refl w
  have HS := HB
  go_enter Try.func16, Try.ntmps16
  go_wp2_with (first | (refine seg_new rfl (N := 1) rfl [.int .i64 a0, .int .u64 a1, .int .u64 a2, .int .u64 a3, .int .u64 a4, .int .u64 a5, .int .u64 a6, .bool a7, .slice A8 l8.length c8, .slice A9 l9.length c9] 27 ?hr ?_; (case hr => rfl); intro g0 hg w1 hn hl; have GEg0 := ge_new HS hg; clear hg; replace HS := HS.below hl; have Bg0 := hn; clear hl hn; have kg0_0 := Bg0.at 0 rfl) | ((go_at_call 30); (with_reducible refine (rfields_no a0 _ h0).mono ?_); rintro e w2 ⟨v0, rfl, rfl, hl⟩; replace Bg0 := Bg0.below hl; replace HS := HS.below hl; clear hl; replace kg0_0 := Bg0.at 0 rfl) | (refine seg_new rfl (N := 3) rfl [.bool false, .bool false, .bool false, .bool false, .bool false, .bool false] 65 ?hr ?_; (case hr => rfl); intro g1 hg w3 hn hl; have Ng1_g0 := ne_new Bg0 hg; have GEg1 := ge_new HS hg; clear hg; replace Bg0 := Bg0.below hl; replace HS := HS.below hl; have Bg1 := hn; clear hl hn; replace kg0_0 := Bg0.at 0 rfl) | (refine seg_store rfl rfl 65 (.tmp 3) (.tmp 13) rfl g1 0 [.bool (decide (1 ∈ ([] : List Nat))), .bool (decide (2 ∈ ([] : List Nat))), .bool (decide (3 ∈ ([] : List Nat))), .bool (decide (4 ∈ ([] : List Nat))), .bool (decide (5 ∈ ([] : List Nat))), .bool (decide (6 ∈ ([] : List Nat)))] [.bool (decide (1 ∈ ([] : List Nat))), .bool (decide (2 ∈ ([] : List Nat))), .bool (decide (3 ∈ ([] : List Nat))), .bool (decide (4 ∈ ([] : List Nat))), .bool (decide (5 ∈ ([] : List Nat))), .bool (decide (6 ∈ ([] : List Nat)))] (.agg #[.bool (decide (1 ∈ ([] : List Nat))), .bool (decide (2 ∈ ([] : List Nat))), .bool (decide (3 ∈ ([] : List Nat))), .bool (decide (4 ∈ ([] : List Nat))), .bool (decide (5 ∈ ([] : List Nat))), .bool (decide (6 ∈ ([] : List Nat)))]) rfl rfl rfl Bg1 (by kernel_rfl) (nle rfl) rfl rfl ?_; intro w4 hn hw; replace Bg0 := Bg0.grown hw Ng1_g0.symm; replace HS := HS.grown hw GEg1; replace Bg1 := hn; clear hw; replace kg0_0 := Bg0.at 0 rfl; clear hn))
  all_goals (go_ret; exact ⟨rfl, HS.out⟩)
theorem wigwagref05_Check.way (k : Nat) (a0 a1 a2 a3 a4 a5 a6 : Int) (a7 : Bool) (A8 : Option Addr) (c8 : Nat) (l8 : List Int) (A9 : Option Addr) (c9 : Nat) (l9 : List S47) (w : World) (r : Int) (os : List Nat) (ho : fOffs a0 = some os) (W1 : W64 a1) (W2 : W64 a2) (W3 : W64 a3) (W4 : W64 a4) (W5 : W64 a5) (W6 : W64 a6) (h8 : l8.length < 1000000) (h9 : l9.length < 1000000) (hr9 : Kd.C k47 w A9 l9.length l9) (hc9 : l9.length ≤ c9) (h : Aside0 ((if uBad os a1 a2 a3 a4 a5 a6 = true then some 50
      else (wigwagref05_spans.f k l9).bind fun s => if ((a0 == 2 || a0 == 3) != s) = true ∨ (a0 == 2 || a0 == 3) = false ∧ 0 < l9.length then some 50 else some (uTail a0 a2 a7 l8.length)) = some r)) :
    Calls Try.prog 16 #[.agg #[.int .i64 a0, .int .u64 a1, .int .u64 a2, .int .u64 a3, .int .u64 a4, .int .u64 a5, .int .u64 a6, .bool a7, .slice A8 l8.length c8, .slice A9 l9.length c9]] w fun e w' => e = .returned (.int .i64 r) ∧ Below w.heap.size w w' := by
  have hu27 := Try.underlying27
  have hu65 := Try.underlying65
  have hu68 := Try.underlying68
  have HS := Since.refl w
  have HR9 := Aside0.mk hr9
  clear hr9
  go_enter Try.func16, Try.ntmps16
  go_wp2_with (first | (refine seg_new rfl (N := 1) rfl [.int .i64 a0, .int .u64 a1, .int .u64 a2, .int .u64 a3, .int .u64 a4, .int .u64 a5, .int .u64 a6, .bool a7, .slice A8 l8.length c8, .slice A9 l9.length c9] 27 ?hr ?_; (case hr => rfl); intro g0 hg w1 hn hl; have GEg0 := ge_new HS hg; clear hg; replace HS := HS.below hl; have Bg0 := hn; clear hl hn; have kg0_0 := Bg0.at 0 rfl) | ((go_at_call 30); (with_reducible refine (rfieldsC a0 os _ ho).mono ?_); rintro e w2 ⟨rfl, hl⟩; replace Bg0 := Bg0.below hl; replace HS := HS.below hl; clear hl; clear kg0_0; have kg0_1 := Bg0.at 1 rfl; have kg0_2 := Bg0.at 2 rfl; have kg0_3 := Bg0.at 3 rfl; have kg0_4 := Bg0.at 4 rfl; have kg0_5 := Bg0.at 5 rfl; have kg0_6 := Bg0.at 6 rfl) | (refine seg_new rfl (N := 3) rfl [.bool false, .bool false, .bool false, .bool false, .bool false, .bool false] 65 ?hr ?_; (case hr => rfl); intro g1 hg w3 hn hl; have Ng1_g0 := ne_new Bg0 hg; have GEg1 := ge_new HS hg; clear hg; replace Bg0 := Bg0.below hl; replace HS := HS.below hl; have Bg1 := hn; clear hl hn; replace kg0_1 := Bg0.at 1 rfl; replace kg0_2 := Bg0.at 2 rfl; replace kg0_3 := Bg0.at 3 rfl; replace kg0_4 := Bg0.at 4 rfl; replace kg0_5 := Bg0.at 5 rfl; replace kg0_6 := Bg0.at 6 rfl) | (refine seg_store rfl rfl 65 (.tmp 3) (.tmp 13) rfl g1 0 [.bool (decide (1 ∈ os)), .bool (decide (2 ∈ os)), .bool (decide (3 ∈ os)), .bool (decide (4 ∈ os)), .bool (decide (5 ∈ os)), .bool (decide (6 ∈ os))] [.bool (decide (1 ∈ os)), .bool (decide (2 ∈ os)), .bool (decide (3 ∈ os)), .bool (decide (4 ∈ os)), .bool (decide (5 ∈ os)), .bool (decide (6 ∈ os))] (.agg #[.bool (decide (1 ∈ os)), .bool (decide (2 ∈ os)), .bool (decide (3 ∈ os)), .bool (decide (4 ∈ os)), .bool (decide (5 ∈ os)), .bool (decide (6 ∈ os))]) rfl rfl rfl Bg1 (by kernel_rfl) (nle rfl) rfl rfl ?_; intro w4 hn hw; replace Bg0 := Bg0.grown hw Ng1_g0.symm; replace HS := HS.grown hw GEg1; replace Bg1 := hn; clear hw; replace kg0_1 := Bg0.at 1 rfl; replace kg0_2 := Bg0.at 2 rfl; replace kg0_3 := Bg0.at 3 rfl; replace kg0_4 := Bg0.at 4 rfl; replace kg0_5 := Bg0.at 5 rfl; replace kg0_6 := Bg0.at 6 rfl; clear hn) | (refine seg_new rfl (N := 5) rfl [.int .u64 0, .int .u64 0, .int .u64 0, .int .u64 0, .int .u64 0, .int .u64 0] 68 ?hr ?_; (case hr => rfl); intro g2 hg w5 hn hl; have Ng2_g0 := ne_new Bg0 hg; have Ng2_g1 := ne_new Bg1 hg; have GEg2 := ge_new HS hg; clear hg; replace Bg0 := Bg0.below hl; replace Bg1 := Bg1.below hl; replace HS := HS.below hl; have Bg2 := hn; clear hl hn; replace kg0_1 := Bg0.at 1 rfl; replace kg0_2 := Bg0.at 2 rfl; replace kg0_3 := Bg0.at 3 rfl; replace kg0_4 := Bg0.at 4 rfl; replace kg0_5 := Bg0.at 5 rfl; replace kg0_6 := Bg0.at 6 rfl) | (refine seg_store rfl rfl 68 (.tmp 5) (.tmp 29) rfl g2 0 [.int .u64 a1, .int .u64 a2, .int .u64 a3, .int .u64 a4, .int .u64 a5, .int .u64 a6] [.int .u64 a1, .int .u64 a2, .int .u64 a3, .int .u64 a4, .int .u64 a5, .int .u64 a6] (.agg #[.int .u64 a1, .int .u64 a2, .int .u64 a3, .int .u64 a4, .int .u64 a5, .int .u64 a6]) rfl rfl rfl Bg2 (by kernel_rfl) (nle rfl) rfl rfl ?_; intro w6 hn hw; replace Bg0 := Bg0.grown hw Ng2_g0.symm; replace Bg1 := Bg1.grown hw Ng2_g1.symm; replace HS := HS.grown hw GEg2; replace Bg2 := hn; clear hw; replace kg0_1 := Bg0.at 1 rfl; replace kg0_2 := Bg0.at 2 rfl; replace kg0_3 := Bg0.at 3 rfl; replace kg0_4 := Bg0.at 4 rfl; replace kg0_5 := Bg0.at 5 rfl; replace kg0_6 := Bg0.at 6 rfl; clear hn))
  go_loopw [6] (fun i wr => ∃ q : Nat, i = .int .i64 q ∧ q ≤ 6 ∧ (∀ j, j < q → badF os (j + 1) (selA (j + 1) a1 a2 a3 a4 a5 a6) = false) ∧ Blk wr g0 27 [.int .i64 a0, .int .u64 a1, .int .u64 a2, .int .u64 a3, .int .u64 a4, .int .u64 a5, .int .u64 a6, .bool a7, .slice A8 l8.length c8, .slice A9 l9.length c9] ∧ Blk wr g1 65 [.bool (decide (1 ∈ os)), .bool (decide (2 ∈ os)), .bool (decide (3 ∈ os)), .bool (decide (4 ∈ os)), .bool (decide (5 ∈ os)), .bool (decide (6 ∈ os))] ∧ Blk wr g2 68 [.int .u64 a1, .int .u64 a2, .int .u64 a3, .int .u64 a4, .int .u64 a5, .int .u64 a6] ∧ Since w wr) (fun i _ => 6 - (intOf i).toNat)
  case atStart => exact ⟨0, rfl, by omega, fun j hj => absurd hj (by omega), Bg0, Bg1, Bg2, HS⟩
  case round =>
    clear kg0_1 kg0_2 kg0_3 kg0_4 kg0_5 kg0_6 Bg0 Bg1 Bg2 HS
    obtain ⟨q, rfl, hq, hle, Bg0, Bg1, Bg2, HS⟩ := hrel
    by_cases hlt : q < 6
    · have k1 : wr.cell? ⟨g2, q, none⟩ = some (.int .u64 (selA (q + 1) a1 a2 a3 a4 a5 a6)) := (Bg2.cell q).trans (sel_at hlt)
      have k2 : wr.cell? ⟨g1, q, none⟩ = some (.bool (decide (q + 1 ∈ os))) := (Bg1.cell q).trans (has_at hlt)
      have wv := selA_w (q + 1) W1 W2 W3 W4 W5 W6
      have hb1 : badF os (q + 1) (selA (q + 1) a1 a2 a3 a4 a5 a6) = true → uBad os a1 a2 a3 a4 a5 a6 = true := fun hb => bad_some hlt hb
      have hb2 : badF os (q + 1) (selA (q + 1) a1 a2 a3 a4 a5 a6) = false → ∀ j, j < q + 1 → badF os (j + 1) (selA (j + 1) a1 a2 a3 a4 a5 a6) = false := fun hb j hj => by
        rcases Nat.lt_or_ge j q with hh | hh
        · exact hle j hh
        · obtain rfl : j = q := by omega
          exact hb
      unfold badF at hb1
      have hb2' : ((if q + 1 ∈ os then decide (4611686018427387903 < selA (q + 1) a1 a2 a3 a4 a5 a6) else selA (q + 1) a1 a2 a3 a4 a5 a6 != 0) = false) → ∀ j, j < q + 1 → badF os (j + 1) (selA (j + 1) a1 a2 a3 a4 a5 a6) = false := hb2
      have hif : ∀ (x y : Bool), (if q + 1 ∈ os then x else y) = (if decide (q + 1 ∈ os) = true then x else y) := fun x y => by simp
      rw [hif] at hb1 hb2'
      generalize selA (q + 1) a1 a2 a3 a4 a5 a6 = v at k1 wv hb1 hb2'
      generalize decide (q + 1 ∈ os) = b at k2 hb1 hb2'
      have T1 := Aside0.mk hb1; have T2 := Aside0.mk hb2'
      clear hb1 hb2' hb2 hle hif
      have bad : (if b = true then decide (4611686018427387903 < v) else v != 0) = true → r = 50 := fun hb => by
        have := h.out; rw [if_pos (T1.out hb)] at this; exact (Option.some.inj this).symm
      have B := Aside0.mk bad
      clear bad
      by_cases hv : 4611686018427387903 < v
      · go_wp2
        go_ret
        exact ⟨ret_int (B.out (by split <;> simp <;> omega)).symm, HS.out⟩
      · cases b with
        | true =>
          go_wp2
          go_roundw
          case rel => exact ⟨q + 1, by go_num, by omega, T2.out (by simp; omega), Bg0, Bg1, Bg2, HS⟩
          case measure => simp [intOf]; omega
        | false =>
          by_cases hz : v = 0
          · have hz' : (v != 0) = false := by simp [hz]
            clear hz
            go_wp2
            go_roundw
            case rel => exact ⟨q + 1, by go_num, by omega, T2.out (by simpa using hz'), Bg0, Bg1, Bg2, HS⟩
            case measure => simp [intOf]; omega
          · have hz' : (v != 0) = true := by simp [hz]
            clear hz
            go_wp2
            go_ret
            exact ⟨ret_int (B.out (by simpa using hz')).symm, HS.out⟩
    · obtain rfl : q = 6 := by omega
      have hb := bad_none hle
      have H := h.out; rw [hb] at H; simp only [Bool.false_eq_true, if_false] at H
      clear h hb hle ho
      obtain ⟨s, hs, H⟩ := Option.bind_eq_some_iff.1 H
      have kf0 := Bg0.at 0 rfl; have kf2 := Bg0.at 2 rfl; have kf7 := Bg0.at 7 rfl; have kf8 := Bg0.at 8 rfl; have kf9 := Bg0.at 9 rfl
      have HR := Kd.C_below HR9.out HS.out
      have HB := HS
      by_cases hak : a0 = 2 ∨ a0 = 3
      · have hn14 : (a0 != 14) = true := by rcases hak with rfl | rfl <;> rfl
        have hkk : (a0 == 2) = true ∨ ((a0 == 2) = false ∧ (a0 == 3) = true) := by rcases hak with rfl | rfl <;> simp
        have hor : (a0 == 2 || a0 == 3) = true := by rcases hak with rfl | rfl <;> rfl
        rw [hor] at H
        clear hak hor
        cases s with
        | false =>
          obtain rfl : r = 50 := by simpa using H.symm
          clear H
          rcases hkk with e2 | ⟨e2, e3⟩
          all_goals
            go_wp2_with ((go_at_call 31); with_reducible refine (wigwagref05_spans.calls k A9 c9 l9 false _ HR hc9 hs).mono ?_; rintro e w6 ⟨rfl, hd⟩; have hl := hd.below; clear hd; replace HB := HB.below hl; replace Bg0 := Bg0.below hl; clear kf0 kf2 kf7 kf8 kf9; have kf0 := Bg0.at 0 rfl; have kf2 := Bg0.at 2 rfl; have kf7 := Bg0.at 7 rfl; have kf8 := Bg0.at 8 rfl; have kf9 := Bg0.at 9 rfl; clear hl)
            go_ret
            exact ⟨rfl, HB.out⟩
        | true =>
          obtain rfl : uTail a0 a2 a7 l8.length = r := by simpa using H
          clear H
          rcases hkk with e2 | ⟨e2, e3⟩
          all_goals
            go_wp2_with ((go_at_call 31); with_reducible refine (wigwagref05_spans.calls k A9 c9 l9 true _ HR hc9 hs).mono ?_; rintro e w6 ⟨rfl, hd⟩; have hl := hd.below; clear hd; replace HB := HB.below hl; replace Bg0 := Bg0.below hl; clear kf0 kf2 kf7 kf8 kf9; have kf0 := Bg0.at 0 rfl; have kf2 := Bg0.at 2 rfl; have kf7 := Bg0.at 7 rfl; have kf8 := Bg0.at 8 rfl; have kf9 := Bg0.at 9 rfl; clear hl)
            all_goals (go_ret; exact ⟨ret_int (by first | exact tail_a hn14 (.inl ‹_›) | exact tail_a hn14 (.inr ‹_›) | exact tail_b ‹_› | exact tail_c ‹_› ‹_› ‹_› | exact tail_b (by omega) | exact tail_d hn14 (by omega) | exact tail_c ‹_› ‹_› (by omega)), HB.out⟩)
      · have e2 : (a0 == 2) = false := by simp; omega
        have e3 : (a0 == 3) = false := by simp; omega
        have hor : (a0 == 2 || a0 == 3) = false := by simp [e2, e3]
        rw [hor] at H
        clear hak hor
        cases s with
        | true =>
          obtain rfl : r = 50 := by simpa using H.symm
          clear H
          go_wp2_with ((go_at_call 31); with_reducible refine (wigwagref05_spans.calls k A9 c9 l9 true _ HR hc9 hs).mono ?_; rintro e w6 ⟨rfl, hd⟩; have hl := hd.below; clear hd; replace HB := HB.below hl; replace Bg0 := Bg0.below hl; clear kf0 kf2 kf7 kf8 kf9; have kf0 := Bg0.at 0 rfl; have kf2 := Bg0.at 2 rfl; have kf7 := Bg0.at 7 rfl; have kf8 := Bg0.at 8 rfl; have kf9 := Bg0.at 9 rfl; clear hl)
          go_ret
          exact ⟨rfl, HB.out⟩
        | false =>
          by_cases hl9 : 0 < l9.length
          · obtain rfl : r = 50 := by rw [if_pos (.inr ⟨rfl, hl9⟩)] at H; exact (Option.some.inj H).symm
            clear H
            go_wp2_with ((go_at_call 31); with_reducible refine (wigwagref05_spans.calls k A9 c9 l9 false _ HR hc9 hs).mono ?_; rintro e w6 ⟨rfl, hd⟩; have hl := hd.below; clear hd; replace HB := HB.below hl; replace Bg0 := Bg0.below hl; clear kf0 kf2 kf7 kf8 kf9; have kf0 := Bg0.at 0 rfl; have kf2 := Bg0.at 2 rfl; have kf7 := Bg0.at 7 rfl; have kf8 := Bg0.at 8 rfl; have kf9 := Bg0.at 9 rfl; clear hl)
            go_ret
            exact ⟨rfl, HB.out⟩
          · obtain rfl : uTail a0 a2 a7 l8.length = r := by rw [if_neg (fun hh => hh.elim (by simp) (fun h => hl9 h.2))] at H; simpa using H
            clear H
            by_cases h14 : a0 = 14
            · have hn14 : (a0 != 14) = false := by simp [h14]
              clear h14
              go_wp2_with ((go_at_call 31); with_reducible refine (wigwagref05_spans.calls k A9 c9 l9 false _ HR hc9 hs).mono ?_; rintro e w6 ⟨rfl, hd⟩; have hl := hd.below; clear hd; replace HB := HB.below hl; replace Bg0 := Bg0.below hl; clear kf0 kf2 kf7 kf8 kf9; have kf0 := Bg0.at 0 rfl; have kf2 := Bg0.at 2 rfl; have kf7 := Bg0.at 7 rfl; have kf8 := Bg0.at 8 rfl; have kf9 := Bg0.at 9 rfl; clear hl)
              all_goals (go_ret; exact ⟨ret_int (by first | exact tail_a hn14 (.inl ‹_›) | exact tail_a hn14 (.inr ‹_›) | exact tail_b ‹_› | exact tail_c ‹_› ‹_› ‹_› | exact tail_b (by omega) | exact tail_d hn14 (by omega) | exact tail_c ‹_› ‹_› (by omega)), HB.out⟩)
            · have hn14 : (a0 != 14) = true := by simpa using h14
              clear h14
              go_wp2_with ((go_at_call 31); with_reducible refine (wigwagref05_spans.calls k A9 c9 l9 false _ HR hc9 hs).mono ?_; rintro e w6 ⟨rfl, hd⟩; have hl := hd.below; clear hd; replace HB := HB.below hl; replace Bg0 := Bg0.below hl; clear kf0 kf2 kf7 kf8 kf9; have kf0 := Bg0.at 0 rfl; have kf2 := Bg0.at 2 rfl; have kf7 := Bg0.at 7 rfl; have kf8 := Bg0.at 8 rfl; have kf9 := Bg0.at 9 rfl; clear hl)
              all_goals (go_ret; exact ⟨ret_int (by first | exact tail_a hn14 (.inl ‹_›) | exact tail_a hn14 (.inr ‹_›) | exact tail_b ‹_› | exact tail_c ‹_› ‹_› ‹_› | exact tail_b (by omega) | exact tail_d hn14 (by omega) | exact tail_c ‹_› ‹_› (by omega)), HB.out⟩)
theorem wigwagref05_Check.calls (k : Nat) (a0 a1 a2 a3 a4 a5 a6 : Int) (a7 : Bool) (A8 : Option Addr) (c8 : Nat) (l8 : List Int) (A9 : Option Addr) (c9 : Nat) (l9 : List S47) (r : Int) (w : World) (hr8 : Kd.C (Kd.int .u8) w A8 l8.length l8) (hc8 : l8.length ≤ c8) (hr9 : Kd.C k47 w A9 l9.length l9) (hc9 : l9.length ≤ c9) (h : wigwagref05_Check.f k a0 a1 a2 a3 a4 a5 a6 a7 l8 l9 = some r) :
    Calls Try.prog 16 #[.agg #[.int .i64 a0, .int .u64 a1, .int .u64 a2, .int .u64 a3, .int .u64 a4, .int .u64 a5, .int .u64 a6, .bool a7, .slice A8 l8.length c8, .slice A9 l9.length c9]] w fun e w' => e = .returned (.int .i64 r) ∧ Below w.heap.size w w' := by
  unfold wigwagref05_Check.f at h
  split at h
  · rename_i hw
    obtain ⟨W1, W2, W3, W4, W5, W6, h8, h9⟩ := hw
    cases ho : fOffs a0 with
    | none =>
      rw [ho] at h
      obtain rfl : 50 = r := by simpa using h
      exact wigwagref05_Check.no a0 a1 a2 a3 a4 a5 a6 a7 A8 c8 l8 A9 c9 l9 w ho
    | some os =>
      rw [ho] at h
      exact wigwagref05_Check.way k a0 a1 a2 a3 a4 a5 a6 a7 A8 c8 l8 A9 c9 l9 w r os ho W1 W2 W3 W4 W5 W6 h8 h9 hr9 hc9 ⟨h⟩
  · cases h
end Go.Proofs.Ytphakdfholkbdaa.PFra
end
section
namespace Go.Proofs.Ytphakdfholkbdaa.PFra
open Go.RowKit Go.Proofs.YtphakdfholkbdaaW.PrintWords Go.Proofs.YtphakdfholkbdaaW.PrintLast Go.Proofs.YtphakdfholkbdaaW.PrintMore
attribute [local go_sem] max2_int min2_int max_two min_two max_three min_three max_four min_four   -- for this text's walks alone
set_option linter.unusedVariables false
set_option linter.unusedSimpArgs false
def wigwagref03_Size.f (a0 : Int) : Option (Int) := if a0 < 64 then (some 1) else (if a0 < 16384 then (some 2) else (if a0 < 1073741824 then (some 4) else (if a0 ≤ 4611686018427387903 then (some 8) else (some 0))))
set_option maxHeartbeats 8000000 in
set_option maxRecDepth 100000 in
theorem wigwagref03_Size.calls (a0 : Int) (r : Int) (w : World) (h : wigwagref03_Size.f a0 = some r) :
    Calls Try.prog 50 #[.int .u64 a0] w fun e w' => e = .returned (.int .i64 r) ∧ Drawn0 w w' := by
  have H : (if a0 < 64 then (some 1) else (if a0 < 16384 then (some 2) else (if a0 < 1073741824 then (some 4) else (if a0 ≤ 4611686018427387903 then (some 8) else (some 0))))) = some r := h
  clear h
  by_cases c2 : a0 < 64
  · rw [if_pos c2] at H
    have c2b0 : decide (a0 < 64) = true := decide_eq_true c2
    clear c2
    obtain rfl := Option.some.inj H
    go_enter Try.func50, Try.ntmps50
    go_wp2
    go_ret
    exact ⟨by first | rfl | (simp; done) | (simp [*]; done), by repeat (first | exact Drawn0.refl _ | apply Drawn0.step)⟩
  · rw [if_neg c2] at H
    have c2b0 : decide (a0 < 64) = false := decide_eq_false c2
    clear c2
    by_cases c3 : a0 < 16384
    · rw [if_pos c3] at H
      have c3b0 : decide (a0 < 16384) = true := decide_eq_true c3
      clear c3
      obtain rfl := Option.some.inj H
      go_enter Try.func50, Try.ntmps50
      go_wp2
      go_ret
      exact ⟨by first | rfl | (simp; done) | (simp [*]; done), by repeat (first | exact Drawn0.refl _ | apply Drawn0.step)⟩
    · rw [if_neg c3] at H
      have c3b0 : decide (a0 < 16384) = false := decide_eq_false c3
      clear c3
      by_cases c4 : a0 < 1073741824
      · rw [if_pos c4] at H
        have c4b0 : decide (a0 < 1073741824) = true := decide_eq_true c4
        clear c4
        obtain rfl := Option.some.inj H
        go_enter Try.func50, Try.ntmps50
        go_wp2
        go_ret
        exact ⟨by first | rfl | (simp; done) | (simp [*]; done), by repeat (first | exact Drawn0.refl _ | apply Drawn0.step)⟩
      · rw [if_neg c4] at H
        have c4b0 : decide (a0 < 1073741824) = false := decide_eq_false c4
        clear c4
        by_cases c5 : a0 ≤ 4611686018427387903
        · rw [if_pos c5] at H
          have c5b0 : decide (a0 ≤ 4611686018427387903) = true := decide_eq_true c5
          clear c5
          obtain rfl := Option.some.inj H
          go_enter Try.func50, Try.ntmps50
          go_wp2
          go_ret
          exact ⟨by first | rfl | (simp; done) | (simp [*]; done), by repeat (first | exact Drawn0.refl _ | apply Drawn0.step)⟩
        · rw [if_neg c5] at H
          have c5b0 : decide (a0 ≤ 4611686018427387903) = false := decide_eq_false c5
          clear c5
          obtain rfl := Option.some.inj H
          go_enter Try.func50, Try.ntmps50
          go_wp2
          go_ret
          exact ⟨by first | rfl | (simp; done) | (simp [*]; done), by repeat (first | exact Drawn0.refl _ | apply Drawn0.step)⟩
attribute [local go_sem] max2_int min2_int max_two min_two max_three min_three max_four min_four   -- for this text's walks alone
set_option linter.unusedVariables false
set_option linter.unusedSimpArgs false
def wigwagref03_Put.l0 : Nat → Int → Int → List Int → Int → Option (List Int × Int)
  | 0, _, _, _, _ => none
  | k + 1, x0, x4, x5, x6 => if x6 ≥ 0 then (if 0 ≤ (IntKind.u64.wrap (wrap64 (8 * x6))) then (if x5.length < 140737488355328 then (wigwagref03_Put.l0 k x0 x4 (x5 ++ [(shr .u64 x0 (IntKind.u64.wrap (wrap64 (8 * x6)))) % 256]) (wrap64 (x6 - 1))) else (none)) else (none)) else (if x4 = 2 then (if 0 < (x5.length : Int) then ((some (x5.set (0 : Int).toNat (((rd x5 0) + 64) % 256) : List Int)).bind fun y223 => (if x4 = 4 then ((some (y223.set (0 : Int).toNat (((rd y223 0) + 128) % 256) : List Int)).bind fun y225 => (if x4 = 8 then (some ((y225.set (0 : Int).toNat (((rd y225 0) + 192) % 256)), 0)) else (some (y225, 0)))) else (if x4 = 8 then (some ((y223.set (0 : Int).toNat (((rd y223 0) + 192) % 256)), 0)) else (some (y223, 0))))) else (none)) else (if x4 = 4 then (if 0 < (x5.length : Int) then ((some (x5.set (0 : Int).toNat (((rd x5 0) + 128) % 256) : List Int)).bind fun y231 => (if x4 = 8 then (some ((y231.set (0 : Int).toNat (((rd y231 0) + 192) % 256)), 0)) else (some (y231, 0)))) else (none)) else (if x4 = 8 then (if 0 < (x5.length : Int) then (some ((x5.set (0 : Int).toNat (((rd x5 0) + 192) % 256)), 0)) else (none)) else (some (x5, 0)))))
def wigwagref03_Put.f (k : Nat) (a0 : Int) : Option (List Int × Int) := (wigwagref03_Size.f a0).bind fun t218 => (if t218 = 0 then (some (([] : List Int), 31)) else (wigwagref03_Put.l0 k a0 t218 ([] : List Int) (wrap64 (t218 - 1))))
set_option maxHeartbeats 8000000 in
set_option maxRecDepth 100000 in
theorem wigwagref03_Put.calls (k : Nat) (a0 : Int) (r1 : List Int) (r2 : Int) (w : World) (h : wigwagref03_Put.f k a0 = some (r1, r2)) :
    Calls Try.prog 40 #[.int .u64 a0] w fun e w' => ∃ v0_ : Value, e = .returned (.tuple #[v0_, .int .i64 r2]) ∧ Kd.R (Kd.int .u8) 5 w' w.heap.size (fun _ => True) v0_ r1 ∧ Below w.heap.size w w' := by
  have HB := Aside0.mk (Below.refl w.heap.size w)
  have H : ((wigwagref03_Size.f a0).bind fun t218 => (if t218 = 0 then (some (([] : List Int), 31)) else (wigwagref03_Put.l0 k a0 t218 ([] : List Int) (wrap64 (t218 - 1))))) = some (r1, r2) := h
  clear h
  replace H := Option.bind_eq_some_iff.mp H
  obtain ⟨t218, A20, H⟩ := H
  replace H : (if t218 = 0 then (some (([] : List Int), 31)) else (wigwagref03_Put.l0 k a0 t218 ([] : List Int) (wrap64 (t218 - 1)))) = some (r1, r2) := H
  have A2 := Aside0.mk A20
  clear A20
  by_cases c3 : t218 = 0
  · rw [if_pos c3] at H
    have c3b0 : (t218 == 0) = true := beq_iff_eq.mpr c3
    have c3b1 : (t218 != 0) = false := bne_eq_false_iff_eq.mpr c3
    clear c3
    simp only [Option.some.injEq, Prod.mk.injEq] at H
    obtain ⟨rfl, rfl⟩ := H
    go_enter Try.func40, Try.ntmps40
    go_wp2_with (first | ((with_reducible refine gate_callee (f := 50) rfl ?_); refine goesL_ (some 8) rfl rfl Try.func50 (by kernel_rfl) rfl #[.int .u64 a0] rfl (by (try simp only [List.map_toArray, List.map_cons, List.map_nil]); first | done | rfl | (simp only [List.length_drop, List.length_take]; rfl)) ?_; (with_reducible refine (wigwagref03_Size.calls a0 t218 _ A2.out).mono ?_); rintro e w' ⟨rfl, ⟨nd, rfl⟩⟩; refine ⟨_, rfl, ?_⟩))
    go_ret2
    exact ⟨_, by first | rfl | (simp [errW_none, errW_some] <;> rfl) | (simp [*, errW_none, errW_some] <;> rfl), by first | exact Kd.R_nil .. | exact Kd.N_nil .. | exact Kd.V_nil .. | exact Kd.Q_nil .. | exact Kd.S_nil _ _ _ _ _, by repeat (first | (with_reducible first | exact HB.out | apply below_alloc | apply pw_below_drewN | apply below_drew1) | exact HB.out)⟩
  · rw [if_neg c3] at H
    have c3b0 : (t218 == 0) = false := beq_eq_false_iff_ne.mpr c3
    have c3b1 : (t218 != 0) = true := bne_iff_ne.mpr c3
    have H' := Aside0.mk H
    clear H
    go_enter Try.func40, Try.ntmps40
    go_wp2_with (first | ((with_reducible refine gate_callee (f := 50) rfl ?_); refine goesL_ (some 8) rfl rfl Try.func50 (by kernel_rfl) rfl #[.int .u64 a0] rfl (by (try simp only [List.map_toArray, List.map_cons, List.map_nil]); first | done | rfl | (simp only [List.length_drop, List.length_take]; rfl)) ?_; (with_reducible refine (wigwagref03_Size.calls a0 t218 _ A2.out).mono ?_); rintro e w' ⟨rfl, ⟨nd, rfl⟩⟩; refine ⟨_, rfl, ?_⟩))
    go_loopg [5, 6] k (fun kq v5 v6 w' => ∃ (x5_1 : List Int) (x6_1 : Int), v6 = .int .i64 x6_1 ∧ Aside0 (wigwagref03_Put.l0 kq a0 t218 x5_1 x6_1 = some (r1, r2)) ∧ Aside0 (kq ≤ k) ∧ Aside0 (Kd.R (Kd.int .u8) 5 w' w.heap.size (fun _ => True) v5 x5_1) ∧ Aside0 (Below w.heap.size w w'))
    case atStart => exact ⟨(([] : List Int)), (wrap64 (t218 - 1)), (by first | rfl | (simp; done) | (simp [*]; done)), H', ⟨Nat.le_refl _⟩, ⟨by first | exact Kd.R_nil .. | exact Kd.N_nil .. | exact Kd.V_nil .. | exact Kd.Q_nil .. | exact Kd.S_nil _ _ _ _ _⟩, ⟨by repeat (first | (with_reducible first | exact HB.out | apply below_alloc | apply pw_below_drewN | apply below_drew1) | exact HB.out)⟩⟩
    case round =>
      clear H'
      try clear p2
      try clear c3
      try clear c3b0
      try clear c3b1
      obtain ⟨x5_1, x6_1, rfl, HA, HK1, HO_5, HB⟩ := hrel
      cases gk with
      | zero => exact absurd HA.out (by simp [wigwagref03_Put.l0])
      | succ k1 =>
        have H := HA.out
        clear HA
        simp only [wigwagref03_Put.l0] at H
        by_cases c4 : x6_1 ≥ 0
        · rw [if_pos c4] at H
          have c4b0 : decide (0 ≤ x6_1) = true := decide_eq_true c4
          clear c4
          obtain ⟨ji5, hji5⟩ : ∃ j_ : Int, (IntKind.u64.wrap (wrap64 (8 * x6_1))) = j_ := ⟨_, rfl⟩
          replace H : (if 0 ≤ (ji5) then (if x5_1.length < 140737488355328 then (wigwagref03_Put.l0 k1 a0 t218 (x5_1 ++ [(shr .u64 a0 (ji5)) % 256]) (wrap64 (x6_1 - 1))) else (none)) else (none)) = some (r1, r2) := by first | (rw [hji5] at H; exact H) | (simp only [hji5] at H ⊢; exact H)
          by_cases c6 : 0 ≤ (ji5)
          · rw [if_pos c6] at H
            have c6b0 := eq_true c6
            have c6b1 : decide (0 ≤ (ji5)) = true := decide_eq_true c6
            clear c6
            obtain ⟨ji7, hji7⟩ : ∃ j_ : Int, (shr .u64 a0 (ji5)) = j_ := ⟨_, rfl⟩
            replace H : (if x5_1.length < 140737488355328 then (wigwagref03_Put.l0 k1 a0 t218 (x5_1 ++ [(ji7) % 256]) (wrap64 (x6_1 - 1))) else (none)) = some (r1, r2) := by first | (rw [hji7] at H; exact H) | (simp only [hji7] at H ⊢; exact H)
            have hji7_ : (a0 / 2 ^ min (ji5).toNat 64) = ji7 := hji7
            have hji7z : (ji5) ≤ 64 → (a0 / 2 ^ (ji5).toNat) = ji7 := shr_small hji7
            by_cases c8 : x5_1.length < 140737488355328
            · rw [if_pos c8] at H
              have LMc8 := Aside0.mk c8
              clear c8
              obtain ⟨y219, hy219⟩ : ∃ y_ : List Int, y_ = (x5_1 ++ [(ji7) % 256]) := ⟨_, rfl⟩
              replace H : (wigwagref03_Put.l0 k1 a0 t218 y219 (wrap64 (x6_1 - 1))) = some (r1, r2) := by first | (rw [hy219]; with_reducible exact H) | (have H2_ := (Option.bind_some _ _).symm.trans H; rw [hy219]; with_reducible exact H2_) | (have H2_ := (Option.bind_some _ _).symm.trans H; with_reducible exact H2_) | with_reducible exact H | (rw [hy219]; exact H) | exact H
              have Ny219 := Aside0.mk hy219
              clear hy219
              have H' := Aside0.mk H
              clear H
              go_wp2_with (first | ((with_reducible refine gate_builtin (b := .append) (xs := #[.tmp 17, .tmp 24]) rfl ?_); at_builtin; refine Kd.R_append (Kd.int .u8) (w0 := w) w.heap.size rfl (.tmp 17) (.tmp 24) 24 5 (.int .u8 0) 1 rfl Try.underlying24 info5 rfl (by decide) (by omega) u5 x5_1 ((ji7) % 256) [.int .u8 ((ji7) % 256)] (fun _ => True) (fun _ => False) rfl rfl ?aP (fun _ hk => hk.elim) ?aF ?aO ?aB ?aS ?aL ?_; (case aP => exact rfl); (case aB => exact (by repeat (first | (with_reducible first | exact HB.out | apply below_alloc | apply pw_below_drewN | apply below_drew1) | exact HB.out))); (case aF => exact (fun _ _ => trivial)); (case aO => exact (by (with_reducible repeat (first | apply Kd.R_alloc | apply Kd.R_drewN | apply Kd.R_drew)); exact HO_5.out)); (case aS => exact (below_size (by repeat (first | (with_reducible first | exact HB.out | apply below_alloc | apply pw_below_drewN | apply below_drew1) | exact HB.out)))); (case aL => have := LMc8.out; omega); intro v220 w9 ho hb hg hat; rw [← Ny219.out] at ho; have n0_ := Aside0.mk (hb); have n1_ := Aside0.mk (ho); clear HB; clear HO_5; have HB := n0_; have HO221 := n1_; clear n0_ n1_; clear ho hb hg hat))
              go_roundg k1
              case measure => have := HK1.out; omega
              case rel => exact ⟨(y219), (wrap64 (x6_1 - 1)), (by first | rfl | (simp; done) | (simp [*]; done)), H', ⟨by have := HK1.out; omega⟩, ⟨by (with_reducible repeat (first | apply Kd.R_alloc | apply Kd.R_drewN | apply Kd.R_drew)); exact HO221.out⟩, ⟨by repeat (first | (with_reducible first | exact HB.out | apply below_alloc | apply pw_below_drewN | apply below_drew1) | exact HB.out)⟩⟩
            · rw [if_neg c8] at H
              exact absurd H (by simp)
          · rw [if_neg c6] at H
            exact absurd H (by simp)
        · rw [if_neg c4] at H
          have c4b0 : decide (0 ≤ x6_1) = false := decide_eq_false c4
          clear c4
          by_cases c10 : t218 = 2
          · rw [if_pos c10] at H
            have c10b0 : (t218 == 2) = true := beq_iff_eq.mpr c10
            have c10b1 : (t218 != 2) = false := bne_eq_false_iff_eq.mpr c10
            clear c10
            by_cases c11 : 0 < (x5_1.length : Int)
            · rw [if_pos c11] at H
              have c11b0 : decide (0 < (x5_1.length : Int)) = true := decide_eq_true c11
              have c11b1 : decide (0 < x5_1.length) = true := decide_eq_true (by omega)
              clear c11
              obtain ⟨y223, hy223⟩ : ∃ y_ : List Int, y_ = (x5_1.set (0 : Int).toNat (((rd x5_1 0) + 64) % 256)) := ⟨_, rfl⟩
              replace H : (if t218 = 4 then ((some (y223.set (0 : Int).toNat (((rd y223 0) + 128) % 256) : List Int)).bind fun y225 => (if t218 = 8 then (some ((y225.set (0 : Int).toNat (((rd y225 0) + 192) % 256)), 0)) else (some (y225, 0)))) else (if t218 = 8 then (some ((y223.set (0 : Int).toNat (((rd y223 0) + 192) % 256)), 0)) else (some (y223, 0)))) = some (r1, r2) := by first | (rw [hy223]; with_reducible exact H) | (have H2_ := (Option.bind_some _ _).symm.trans H; rw [hy223]; with_reducible exact H2_) | (have H2_ := (Option.bind_some _ _).symm.trans H; with_reducible exact H2_) | with_reducible exact H | (rw [hy223]; exact H) | exact H
              have Ny223 := Aside0.mk hy223
              clear hy223
              by_cases c13 : t218 = 4
              · rw [if_pos c13] at H
                have c13b0 : (t218 == 4) = true := beq_iff_eq.mpr c13
                have c13b1 : (t218 != 4) = false := bne_eq_false_iff_eq.mpr c13
                clear c13
                obtain ⟨y225, hy225⟩ : ∃ y_ : List Int, y_ = (y223.set (0 : Int).toNat (((rd y223 0) + 128) % 256)) := ⟨_, rfl⟩
                replace H : (if t218 = 8 then (some ((y225.set (0 : Int).toNat (((rd y225 0) + 192) % 256)), 0)) else (some (y225, 0))) = some (r1, r2) := by first | (rw [hy225]; with_reducible exact H) | (have H2_ := (Option.bind_some _ _).symm.trans H; rw [hy225]; with_reducible exact H2_) | (have H2_ := (Option.bind_some _ _).symm.trans H; with_reducible exact H2_) | with_reducible exact H | (rw [hy225]; exact H) | exact H
                have Ny225 := Aside0.mk hy225
                clear hy225
                by_cases c15 : t218 = 8
                · rw [if_pos c15] at H
                  have c15b0 : (t218 == 8) = true := beq_iff_eq.mpr c15
                  have c15b1 : (t218 != 8) = false := bne_eq_false_iff_eq.mpr c15
                  clear c15
                  obtain ⟨y227, hy227⟩ : ∃ y_ : List Int, y_ = (y225.set (0 : Int).toNat (((rd y225 0) + 192) % 256)) := ⟨_, rfl⟩
                  replace H : (some (y227, 0)) = some (r1, r2) := by first | (rw [hy227]; with_reducible exact H) | (have H2_ := (Option.bind_some _ _).symm.trans H; rw [hy227]; with_reducible exact H2_) | (have H2_ := (Option.bind_some _ _).symm.trans H; with_reducible exact H2_) | with_reducible exact H | (rw [hy227]; exact H) | exact H
                  have Ny227 := Aside0.mk hy227
                  clear hy227
                  simp only [Option.some.injEq, Prod.mk.injEq] at H
                  obtain ⟨rfl, rfl⟩ := H
                  obtain ⟨Ao17, co17, eo17⟩ := Kd.R_slice HO_5.out
                  subst eo17
                  have p222 : 0 ≤ (0 : Int) := (by omega)
                  have q222 : 0 < (x5_1.length : Int) := of_decide_eq_true (by first | (with_reducible assumption) | assumption)
                  obtain ⟨ad222, e222, hx222_0⟩ := Kd.at_int (Kd.R_reads' HO_5.out).2.2 0 p222 q222
                  cases e222
                  have qi222 : (0 < x5_1.length) = True := eq_true (by omega)
                  (try rw [show ((0 : Int)).toNat = 0 from rfl] at hx222_0)
                  (try rw [Addr.add_zero'] at hx222_0)
                  replace p222 := eq_true p222
                  replace q222 := eq_true q222
                  have p12 : 0 ≤ (0 : Int) := (by omega)
                  have q12 : (0 : Int) < ((x5_1.length : Int) : Int) := of_decide_eq_true (by first | (with_reducible assumption) | assumption)
                  have qi12 : (0 < x5_1.length) = True := eq_true (by omega)
                  obtain ⟨go12, co12, eo12, gb12, gl12, cl12, HG12⟩ := Kd.R_form HO_5.out (by omega)
                  (first | cases eo12 | (injection eo12 with ea_ en_ ec_; (first | subst ea_ | (injection ea_ with ea_; subst ea_)); subst ec_; clear en_))
                  have GB12 := Aside0.mk gb12
                  have GG12 := Aside0.mk HG12
                  clear gb12 gl12 HG12
                  (first | simp only [add_plain] at hx222_0 | skip)
                  obtain ⟨hx12_0, hf12_0⟩ := Kd.R_celln 0 HO_5.out (0 : Int) p12 q12
                  (try rw [show ((0 : Int)).toNat = 0 from rfl] at hx12_0)
                  (try simp only [Nat.reduceMul, Nat.zero_mul, Nat.zero_add, Nat.reduceAdd] at hx12_0)
                  (try rw [show ((0 : Int)).toNat = 0 from rfl] at hf12_0)
                  (try simp only [Nat.reduceMul, Nat.zero_mul, Nat.zero_add, Nat.reduceAdd] at hf12_0)
                  replace p12 := eq_true p12
                  replace q12 := eq_true q12
                  have HP18 := Kd.R_putg HO_5.out (0 : Int) (((rd x5_1 0) + 64) % 256)
                  go_wp2_with (first | ((with_reducible refine gate_store (t := 5) (p := 33) rfl ?_); refine store_event (t := 5) (p := 33) (v := ?vo_w19) (w1 := (wr.setCell ⟨go12, (0 : Int).toNat, none⟩ (.int .u8 (((rd x5_1 0) + 64) % 256)))) ?hg ?ho ?hn ?hr ?_; (case ho => rfl); (case hg => rfl); (case hn => rfl); (case hr => first | (go_simp; done) | (go_simp; rfl)); intro w19 hw; have hg : wr.grownBy w19 (some go12) := (by rw [hw]; exact HP18.2); have hp_ : Kd.R (Kd.int .u8) 5 w19 w.heap.size (fun _ => True) (.slice (some ⟨go12, 0, none⟩) x5_1.length co17) y223 := (by rw [hw, Ny223.out]; exact HP18.1); clear HP18; have n0_ := Aside0.mk (hp_); have n1_ := Aside0.mk ((by rw [hw]; exact below_set (HB.out) GB12.out : Below w.heap.size w w19)); clear HO_5; clear HB; have HO_5 := n0_; have HB := n1_; clear n0_ n1_; clear hg hw hp_; have p224 : 0 ≤ (0 : Int) := (by omega); have q224 : 0 < (y223.length : Int) := (by have h_ : (0 : Int) < ((x5_1.length : Int) : Int) := of_decide_eq_true (by first | (with_reducible assumption) | assumption); first | (have e_ := (Kd.R_reads' HO_5.out).1; omega) | simpa only [Ny223.out, List.length_set] using h_); have ql224 : ((0 : Int) < ((x5_1.length : Int) : Int)) = True := eq_true (of_decide_eq_true (by first | (with_reducible assumption) | assumption)); (try have qn224 : (0 < x5_1.length) = True := eq_true (by have h_ : (0 : Int) < ((x5_1.length : Int) : Int) := of_decide_eq_true (by first | (with_reducible assumption) | assumption); omega)); obtain ⟨ad224, e224, hx224_0⟩ := Kd.at_int (Kd.R_reads' HO_5.out).2.2 0 p224 q224; obtain rfl : (⟨go12, 0, none⟩ : Addr) = ad224 := (by injection e224); (first | simp only [add_plain] at hx224_0 | simp only [add_at] at hx224_0 | simp only [Addr.add, Nat.zero_add] at hx224_0 | skip); have qi224 : (0 < y223.length) = True := eq_true (by omega); (try rw [show ((0 : Int)).toNat = 0 from rfl] at hx224_0); (try rw [Addr.add_zero'] at hx224_0); replace p224 := eq_true p224; replace q224 := eq_true q224; have p14 : 0 ≤ (0 : Int) := (by omega); have q14 : (0 : Int) < ((x5_1.length : Int) : Int) := of_decide_eq_true (by first | (with_reducible assumption) | assumption); have qi14 : (0 < x5_1.length) = True := eq_true (by omega); obtain ⟨hx14_0, hf14_0⟩ := Kd.R_celln 0 HO_5.out (0 : Int) p14 q14; (try rw [show ((0 : Int)).toNat = 0 from rfl] at hx14_0); (try simp only [Nat.reduceMul, Nat.zero_mul, Nat.zero_add, Nat.reduceAdd] at hx14_0); (try rw [show ((0 : Int)).toNat = 0 from rfl] at hf14_0); (try simp only [Nat.reduceMul, Nat.zero_mul, Nat.zero_add, Nat.reduceAdd] at hf14_0); replace p14 := eq_true p14; replace q14 := eq_true q14; obtain ⟨hy20_, hz20_⟩ := Kd.R_celln 0 HO_5.out (0 : Int) (by omega) (of_decide_eq_true (by first | (with_reducible assumption) | assumption)); (try simp only [Int.reduceToNat, Int.toNat_zero, Int.toNat_ofNat, Nat.reduceMul, Nat.zero_mul, Nat.zero_add] at hy20_ hz20_); (try rw [show ((0 : Int)).toNat = 0 from rfl] at hy20_); (try rw [show ((0 : Int)).toNat = 0 from rfl] at hz20_); have HP20 := Kd.R_putg HO_5.out (0 : Int) (((rd y223 0) + 128) % 256)) | ((with_reducible refine gate_store (t := 5) (p := 41) rfl ?_); refine store_event (t := 5) (p := 41) (v := ?vo_w21) (w1 := (w19.setCell ⟨go12, (0 : Int).toNat, none⟩ (.int .u8 (((rd y223 0) + 128) % 256)))) ?hg ?ho ?hn ?hr ?_; (case ho => rfl); (case hg => rfl); (case hn => rfl); (case hr => first | (go_simp; done) | (go_simp; rfl)); intro w21 hw; have hg : w19.grownBy w21 (some go12) := (by rw [hw]; exact HP20.2); have hp_ : Kd.R (Kd.int .u8) 5 w21 w.heap.size (fun _ => True) (.slice (some ⟨go12, 0, none⟩) x5_1.length co17) y225 := (by rw [hw, Ny225.out]; exact HP20.1); clear HP20; have n0_ := Aside0.mk (hp_); have n1_ := Aside0.mk ((by rw [hw]; exact below_set (HB.out) GB12.out : Below w.heap.size w w21)); clear HO_5; clear HB; have HO_5 := n0_; have HB := n1_; clear n0_ n1_; clear hg hw hp_; have p226 : 0 ≤ (0 : Int) := (by omega); have q226 : 0 < (y225.length : Int) := (by have h_ : (0 : Int) < ((x5_1.length : Int) : Int) := of_decide_eq_true (by first | (with_reducible assumption) | assumption); first | (have e_ := (Kd.R_reads' HO_5.out).1; omega) | simpa only [Ny223.out, Ny225.out, List.length_set] using h_); have ql226 : ((0 : Int) < ((x5_1.length : Int) : Int)) = True := eq_true (of_decide_eq_true (by first | (with_reducible assumption) | assumption)); (try have qn226 : (0 < x5_1.length) = True := eq_true (by have h_ : (0 : Int) < ((x5_1.length : Int) : Int) := of_decide_eq_true (by first | (with_reducible assumption) | assumption); omega)); obtain ⟨ad226, e226, hx226_0⟩ := Kd.at_int (Kd.R_reads' HO_5.out).2.2 0 p226 q226; obtain rfl : (⟨go12, 0, none⟩ : Addr) = ad226 := (by injection e226); (first | simp only [add_plain] at hx226_0 | simp only [add_at] at hx226_0 | simp only [Addr.add, Nat.zero_add] at hx226_0 | skip); have qi226 : (0 < y225.length) = True := eq_true (by omega); (try rw [show ((0 : Int)).toNat = 0 from rfl] at hx226_0); (try rw [Addr.add_zero'] at hx226_0); replace p226 := eq_true p226; replace q226 := eq_true q226; have p16 : 0 ≤ (0 : Int) := (by omega); have q16 : (0 : Int) < ((x5_1.length : Int) : Int) := of_decide_eq_true (by first | (with_reducible assumption) | assumption); have qi16 : (0 < x5_1.length) = True := eq_true (by omega); obtain ⟨hx16_0, hf16_0⟩ := Kd.R_celln 0 HO_5.out (0 : Int) p16 q16; (try rw [show ((0 : Int)).toNat = 0 from rfl] at hx16_0); (try simp only [Nat.reduceMul, Nat.zero_mul, Nat.zero_add, Nat.reduceAdd] at hx16_0); (try rw [show ((0 : Int)).toNat = 0 from rfl] at hf16_0); (try simp only [Nat.reduceMul, Nat.zero_mul, Nat.zero_add, Nat.reduceAdd] at hf16_0); replace p16 := eq_true p16; replace q16 := eq_true q16; obtain ⟨hy22_, hz22_⟩ := Kd.R_celln 0 HO_5.out (0 : Int) (by omega) (of_decide_eq_true (by first | (with_reducible assumption) | assumption)); (try simp only [Int.reduceToNat, Int.toNat_zero, Int.toNat_ofNat, Nat.reduceMul, Nat.zero_mul, Nat.zero_add] at hy22_ hz22_); (try rw [show ((0 : Int)).toNat = 0 from rfl] at hy22_); (try rw [show ((0 : Int)).toNat = 0 from rfl] at hz22_); have HP22 := Kd.R_putg HO_5.out (0 : Int) (((rd y225 0) + 192) % 256)) | ((with_reducible refine gate_store (t := 5) (p := 49) rfl ?_); refine store_event (t := 5) (p := 49) (v := ?vo_w23) (w1 := (w21.setCell ⟨go12, (0 : Int).toNat, none⟩ (.int .u8 (((rd y225 0) + 192) % 256)))) ?hg ?ho ?hn ?hr ?_; (case ho => rfl); (case hg => rfl); (case hn => rfl); (case hr => first | (go_simp; done) | (go_simp; rfl)); intro w23 hw; have hg : w21.grownBy w23 (some go12) := (by rw [hw]; exact HP22.2); have hp_ : Kd.R (Kd.int .u8) 5 w23 w.heap.size (fun _ => True) (.slice (some ⟨go12, 0, none⟩) x5_1.length co17) y227 := (by rw [hw, Ny227.out]; exact HP22.1); clear HP22; have n0_ := Aside0.mk (hp_); have n1_ := Aside0.mk ((by rw [hw]; exact below_set (HB.out) GB12.out : Below w.heap.size w w23)); clear HO_5; clear HB; have HO_5 := n0_; have HB := n1_; clear n0_ n1_; clear hg hw hp_))
                  go_ret2
                  exact ⟨_, by first | rfl | (simp [errW_none, errW_some] <;> rfl) | (simp [*, errW_none, errW_some] <;> rfl), by (with_reducible repeat (first | apply Kd.R_alloc | apply Kd.R_drewN | apply Kd.R_drew)); exact HO_5.out, by repeat (first | (with_reducible first | exact HB.out | apply below_alloc | apply pw_below_drewN | apply below_drew1) | exact HB.out)⟩
                · rw [if_neg c15] at H
                  have c15b0 : (t218 == 8) = false := beq_eq_false_iff_ne.mpr c15
                  have c15b1 : (t218 != 8) = true := bne_iff_ne.mpr c15
                  simp only [Option.some.injEq, Prod.mk.injEq] at H
                  obtain ⟨rfl, rfl⟩ := H
                  obtain ⟨Ao24, co24, eo24⟩ := Kd.R_slice HO_5.out
                  subst eo24
                  have p222 : 0 ≤ (0 : Int) := (by omega)
                  have q222 : 0 < (x5_1.length : Int) := of_decide_eq_true (by first | (with_reducible assumption) | assumption)
                  obtain ⟨ad222, e222, hx222_0⟩ := Kd.at_int (Kd.R_reads' HO_5.out).2.2 0 p222 q222
                  cases e222
                  have qi222 : (0 < x5_1.length) = True := eq_true (by omega)
                  (try rw [show ((0 : Int)).toNat = 0 from rfl] at hx222_0)
                  (try rw [Addr.add_zero'] at hx222_0)
                  replace p222 := eq_true p222
                  replace q222 := eq_true q222
                  have p12 : 0 ≤ (0 : Int) := (by omega)
                  have q12 : (0 : Int) < ((x5_1.length : Int) : Int) := of_decide_eq_true (by first | (with_reducible assumption) | assumption)
                  have qi12 : (0 < x5_1.length) = True := eq_true (by omega)
                  obtain ⟨go12, co12, eo12, gb12, gl12, cl12, HG12⟩ := Kd.R_form HO_5.out (by omega)
                  (first | cases eo12 | (injection eo12 with ea_ en_ ec_; (first | subst ea_ | (injection ea_ with ea_; subst ea_)); subst ec_; clear en_))
                  have GB12 := Aside0.mk gb12
                  have GG12 := Aside0.mk HG12
                  clear gb12 gl12 HG12
                  (first | simp only [add_plain] at hx222_0 | skip)
                  obtain ⟨hx12_0, hf12_0⟩ := Kd.R_celln 0 HO_5.out (0 : Int) p12 q12
                  (try rw [show ((0 : Int)).toNat = 0 from rfl] at hx12_0)
                  (try simp only [Nat.reduceMul, Nat.zero_mul, Nat.zero_add, Nat.reduceAdd] at hx12_0)
                  (try rw [show ((0 : Int)).toNat = 0 from rfl] at hf12_0)
                  (try simp only [Nat.reduceMul, Nat.zero_mul, Nat.zero_add, Nat.reduceAdd] at hf12_0)
                  replace p12 := eq_true p12
                  replace q12 := eq_true q12
                  have HP25 := Kd.R_putg HO_5.out (0 : Int) (((rd x5_1 0) + 64) % 256)
                  go_wp2_with (first | ((with_reducible refine gate_store (t := 5) (p := 33) rfl ?_); refine store_event (t := 5) (p := 33) (v := ?vo_w26) (w1 := (wr.setCell ⟨go12, (0 : Int).toNat, none⟩ (.int .u8 (((rd x5_1 0) + 64) % 256)))) ?hg ?ho ?hn ?hr ?_; (case ho => rfl); (case hg => rfl); (case hn => rfl); (case hr => first | (go_simp; done) | (go_simp; rfl)); intro w26 hw; have hg : wr.grownBy w26 (some go12) := (by rw [hw]; exact HP25.2); have hp_ : Kd.R (Kd.int .u8) 5 w26 w.heap.size (fun _ => True) (.slice (some ⟨go12, 0, none⟩) x5_1.length co24) y223 := (by rw [hw, Ny223.out]; exact HP25.1); clear HP25; have n0_ := Aside0.mk (hp_); have n1_ := Aside0.mk ((by rw [hw]; exact below_set (HB.out) GB12.out : Below w.heap.size w w26)); clear HO_5; clear HB; have HO_5 := n0_; have HB := n1_; clear n0_ n1_; clear hg hw hp_; have p224 : 0 ≤ (0 : Int) := (by omega); have q224 : 0 < (y223.length : Int) := (by have h_ : (0 : Int) < ((x5_1.length : Int) : Int) := of_decide_eq_true (by first | (with_reducible assumption) | assumption); first | (have e_ := (Kd.R_reads' HO_5.out).1; omega) | simpa only [Ny223.out, List.length_set] using h_); have ql224 : ((0 : Int) < ((x5_1.length : Int) : Int)) = True := eq_true (of_decide_eq_true (by first | (with_reducible assumption) | assumption)); (try have qn224 : (0 < x5_1.length) = True := eq_true (by have h_ : (0 : Int) < ((x5_1.length : Int) : Int) := of_decide_eq_true (by first | (with_reducible assumption) | assumption); omega)); obtain ⟨ad224, e224, hx224_0⟩ := Kd.at_int (Kd.R_reads' HO_5.out).2.2 0 p224 q224; obtain rfl : (⟨go12, 0, none⟩ : Addr) = ad224 := (by injection e224); (first | simp only [add_plain] at hx224_0 | simp only [add_at] at hx224_0 | simp only [Addr.add, Nat.zero_add] at hx224_0 | skip); have qi224 : (0 < y223.length) = True := eq_true (by omega); (try rw [show ((0 : Int)).toNat = 0 from rfl] at hx224_0); (try rw [Addr.add_zero'] at hx224_0); replace p224 := eq_true p224; replace q224 := eq_true q224; have p14 : 0 ≤ (0 : Int) := (by omega); have q14 : (0 : Int) < ((x5_1.length : Int) : Int) := of_decide_eq_true (by first | (with_reducible assumption) | assumption); have qi14 : (0 < x5_1.length) = True := eq_true (by omega); obtain ⟨hx14_0, hf14_0⟩ := Kd.R_celln 0 HO_5.out (0 : Int) p14 q14; (try rw [show ((0 : Int)).toNat = 0 from rfl] at hx14_0); (try simp only [Nat.reduceMul, Nat.zero_mul, Nat.zero_add, Nat.reduceAdd] at hx14_0); (try rw [show ((0 : Int)).toNat = 0 from rfl] at hf14_0); (try simp only [Nat.reduceMul, Nat.zero_mul, Nat.zero_add, Nat.reduceAdd] at hf14_0); replace p14 := eq_true p14; replace q14 := eq_true q14; obtain ⟨hy27_, hz27_⟩ := Kd.R_celln 0 HO_5.out (0 : Int) (by omega) (of_decide_eq_true (by first | (with_reducible assumption) | assumption)); (try simp only [Int.reduceToNat, Int.toNat_zero, Int.toNat_ofNat, Nat.reduceMul, Nat.zero_mul, Nat.zero_add] at hy27_ hz27_); (try rw [show ((0 : Int)).toNat = 0 from rfl] at hy27_); (try rw [show ((0 : Int)).toNat = 0 from rfl] at hz27_); have HP27 := Kd.R_putg HO_5.out (0 : Int) (((rd y223 0) + 128) % 256)) | ((with_reducible refine gate_store (t := 5) (p := 41) rfl ?_); refine store_event (t := 5) (p := 41) (v := ?vo_w28) (w1 := (w26.setCell ⟨go12, (0 : Int).toNat, none⟩ (.int .u8 (((rd y223 0) + 128) % 256)))) ?hg ?ho ?hn ?hr ?_; (case ho => rfl); (case hg => rfl); (case hn => rfl); (case hr => first | (go_simp; done) | (go_simp; rfl)); intro w28 hw; have hg : w26.grownBy w28 (some go12) := (by rw [hw]; exact HP27.2); have hp_ : Kd.R (Kd.int .u8) 5 w28 w.heap.size (fun _ => True) (.slice (some ⟨go12, 0, none⟩) x5_1.length co24) y225 := (by rw [hw, Ny225.out]; exact HP27.1); clear HP27; have n0_ := Aside0.mk (hp_); have n1_ := Aside0.mk ((by rw [hw]; exact below_set (HB.out) GB12.out : Below w.heap.size w w28)); clear HO_5; clear HB; have HO_5 := n0_; have HB := n1_; clear n0_ n1_; clear hg hw hp_))
                  go_ret2
                  exact ⟨_, by first | rfl | (simp [errW_none, errW_some] <;> rfl) | (simp [*, errW_none, errW_some] <;> rfl), by (with_reducible repeat (first | apply Kd.R_alloc | apply Kd.R_drewN | apply Kd.R_drew)); exact HO_5.out, by repeat (first | (with_reducible first | exact HB.out | apply below_alloc | apply pw_below_drewN | apply below_drew1) | exact HB.out)⟩
              · rw [if_neg c13] at H
                have c13b0 : (t218 == 4) = false := beq_eq_false_iff_ne.mpr c13
                have c13b1 : (t218 != 4) = true := bne_iff_ne.mpr c13
                by_cases c29 : t218 = 8
                · rw [if_pos c29] at H
                  have c29b0 : (t218 == 8) = true := beq_iff_eq.mpr c29
                  have c29b1 : (t218 != 8) = false := bne_eq_false_iff_eq.mpr c29
                  clear c29
                  obtain ⟨y229, hy229⟩ : ∃ y_ : List Int, y_ = (y223.set (0 : Int).toNat (((rd y223 0) + 192) % 256)) := ⟨_, rfl⟩
                  replace H : (some (y229, 0)) = some (r1, r2) := by first | (rw [hy229]; with_reducible exact H) | (have H2_ := (Option.bind_some _ _).symm.trans H; rw [hy229]; with_reducible exact H2_) | (have H2_ := (Option.bind_some _ _).symm.trans H; with_reducible exact H2_) | with_reducible exact H | (rw [hy229]; exact H) | exact H
                  have Ny229 := Aside0.mk hy229
                  clear hy229
                  simp only [Option.some.injEq, Prod.mk.injEq] at H
                  obtain ⟨rfl, rfl⟩ := H
                  obtain ⟨Ao31, co31, eo31⟩ := Kd.R_slice HO_5.out
                  subst eo31
                  have p222 : 0 ≤ (0 : Int) := (by omega)
                  have q222 : 0 < (x5_1.length : Int) := of_decide_eq_true (by first | (with_reducible assumption) | assumption)
                  obtain ⟨ad222, e222, hx222_0⟩ := Kd.at_int (Kd.R_reads' HO_5.out).2.2 0 p222 q222
                  cases e222
                  have qi222 : (0 < x5_1.length) = True := eq_true (by omega)
                  (try rw [show ((0 : Int)).toNat = 0 from rfl] at hx222_0)
                  (try rw [Addr.add_zero'] at hx222_0)
                  replace p222 := eq_true p222
                  replace q222 := eq_true q222
                  have p12 : 0 ≤ (0 : Int) := (by omega)
                  have q12 : (0 : Int) < ((x5_1.length : Int) : Int) := of_decide_eq_true (by first | (with_reducible assumption) | assumption)
                  have qi12 : (0 < x5_1.length) = True := eq_true (by omega)
                  obtain ⟨go12, co12, eo12, gb12, gl12, cl12, HG12⟩ := Kd.R_form HO_5.out (by omega)
                  (first | cases eo12 | (injection eo12 with ea_ en_ ec_; (first | subst ea_ | (injection ea_ with ea_; subst ea_)); subst ec_; clear en_))
                  have GB12 := Aside0.mk gb12
                  have GG12 := Aside0.mk HG12
                  clear gb12 gl12 HG12
                  (first | simp only [add_plain] at hx222_0 | skip)
                  obtain ⟨hx12_0, hf12_0⟩ := Kd.R_celln 0 HO_5.out (0 : Int) p12 q12
                  (try rw [show ((0 : Int)).toNat = 0 from rfl] at hx12_0)
                  (try simp only [Nat.reduceMul, Nat.zero_mul, Nat.zero_add, Nat.reduceAdd] at hx12_0)
                  (try rw [show ((0 : Int)).toNat = 0 from rfl] at hf12_0)
                  (try simp only [Nat.reduceMul, Nat.zero_mul, Nat.zero_add, Nat.reduceAdd] at hf12_0)
                  replace p12 := eq_true p12
                  replace q12 := eq_true q12
                  have HP32 := Kd.R_putg HO_5.out (0 : Int) (((rd x5_1 0) + 64) % 256)
                  go_wp2_with (first | ((with_reducible refine gate_store (t := 5) (p := 33) rfl ?_); refine store_event (t := 5) (p := 33) (v := ?vo_w33) (w1 := (wr.setCell ⟨go12, (0 : Int).toNat, none⟩ (.int .u8 (((rd x5_1 0) + 64) % 256)))) ?hg ?ho ?hn ?hr ?_; (case ho => rfl); (case hg => rfl); (case hn => rfl); (case hr => first | (go_simp; done) | (go_simp; rfl)); intro w33 hw; have hg : wr.grownBy w33 (some go12) := (by rw [hw]; exact HP32.2); have hp_ : Kd.R (Kd.int .u8) 5 w33 w.heap.size (fun _ => True) (.slice (some ⟨go12, 0, none⟩) x5_1.length co31) y223 := (by rw [hw, Ny223.out]; exact HP32.1); clear HP32; have n0_ := Aside0.mk (hp_); have n1_ := Aside0.mk ((by rw [hw]; exact below_set (HB.out) GB12.out : Below w.heap.size w w33)); clear HO_5; clear HB; have HO_5 := n0_; have HB := n1_; clear n0_ n1_; clear hg hw hp_; have p228 : 0 ≤ (0 : Int) := (by omega); have q228 : 0 < (y223.length : Int) := (by have h_ : (0 : Int) < ((x5_1.length : Int) : Int) := of_decide_eq_true (by first | (with_reducible assumption) | assumption); first | (have e_ := (Kd.R_reads' HO_5.out).1; omega) | simpa only [Ny223.out, List.length_set] using h_); have ql228 : ((0 : Int) < ((x5_1.length : Int) : Int)) = True := eq_true (of_decide_eq_true (by first | (with_reducible assumption) | assumption)); (try have qn228 : (0 < x5_1.length) = True := eq_true (by have h_ : (0 : Int) < ((x5_1.length : Int) : Int) := of_decide_eq_true (by first | (with_reducible assumption) | assumption); omega)); obtain ⟨ad228, e228, hx228_0⟩ := Kd.at_int (Kd.R_reads' HO_5.out).2.2 0 p228 q228; obtain rfl : (⟨go12, 0, none⟩ : Addr) = ad228 := (by injection e228); (first | simp only [add_plain] at hx228_0 | simp only [add_at] at hx228_0 | simp only [Addr.add, Nat.zero_add] at hx228_0 | skip); have qi228 : (0 < y223.length) = True := eq_true (by omega); (try rw [show ((0 : Int)).toNat = 0 from rfl] at hx228_0); (try rw [Addr.add_zero'] at hx228_0); replace p228 := eq_true p228; replace q228 := eq_true q228; have p30 : 0 ≤ (0 : Int) := (by omega); have q30 : (0 : Int) < ((x5_1.length : Int) : Int) := of_decide_eq_true (by first | (with_reducible assumption) | assumption); have qi30 : (0 < x5_1.length) = True := eq_true (by omega); obtain ⟨hx30_0, hf30_0⟩ := Kd.R_celln 0 HO_5.out (0 : Int) p30 q30; (try rw [show ((0 : Int)).toNat = 0 from rfl] at hx30_0); (try simp only [Nat.reduceMul, Nat.zero_mul, Nat.zero_add, Nat.reduceAdd] at hx30_0); (try rw [show ((0 : Int)).toNat = 0 from rfl] at hf30_0); (try simp only [Nat.reduceMul, Nat.zero_mul, Nat.zero_add, Nat.reduceAdd] at hf30_0); replace p30 := eq_true p30; replace q30 := eq_true q30; obtain ⟨hy34_, hz34_⟩ := Kd.R_celln 0 HO_5.out (0 : Int) (by omega) (of_decide_eq_true (by first | (with_reducible assumption) | assumption)); (try simp only [Int.reduceToNat, Int.toNat_zero, Int.toNat_ofNat, Nat.reduceMul, Nat.zero_mul, Nat.zero_add] at hy34_ hz34_); (try rw [show ((0 : Int)).toNat = 0 from rfl] at hy34_); (try rw [show ((0 : Int)).toNat = 0 from rfl] at hz34_); have HP34 := Kd.R_putg HO_5.out (0 : Int) (((rd y223 0) + 192) % 256)) | ((with_reducible refine gate_store (t := 5) (p := 49) rfl ?_); refine store_event (t := 5) (p := 49) (v := ?vo_w35) (w1 := (w33.setCell ⟨go12, (0 : Int).toNat, none⟩ (.int .u8 (((rd y223 0) + 192) % 256)))) ?hg ?ho ?hn ?hr ?_; (case ho => rfl); (case hg => rfl); (case hn => rfl); (case hr => first | (go_simp; done) | (go_simp; rfl)); intro w35 hw; have hg : w33.grownBy w35 (some go12) := (by rw [hw]; exact HP34.2); have hp_ : Kd.R (Kd.int .u8) 5 w35 w.heap.size (fun _ => True) (.slice (some ⟨go12, 0, none⟩) x5_1.length co31) y229 := (by rw [hw, Ny229.out]; exact HP34.1); clear HP34; have n0_ := Aside0.mk (hp_); have n1_ := Aside0.mk ((by rw [hw]; exact below_set (HB.out) GB12.out : Below w.heap.size w w35)); clear HO_5; clear HB; have HO_5 := n0_; have HB := n1_; clear n0_ n1_; clear hg hw hp_))
                  go_ret2
                  exact ⟨_, by first | rfl | (simp [errW_none, errW_some] <;> rfl) | (simp [*, errW_none, errW_some] <;> rfl), by (with_reducible repeat (first | apply Kd.R_alloc | apply Kd.R_drewN | apply Kd.R_drew)); exact HO_5.out, by repeat (first | (with_reducible first | exact HB.out | apply below_alloc | apply pw_below_drewN | apply below_drew1) | exact HB.out)⟩
                · rw [if_neg c29] at H
                  have c29b0 : (t218 == 8) = false := beq_eq_false_iff_ne.mpr c29
                  have c29b1 : (t218 != 8) = true := bne_iff_ne.mpr c29
                  simp only [Option.some.injEq, Prod.mk.injEq] at H
                  obtain ⟨rfl, rfl⟩ := H
                  obtain ⟨Ao36, co36, eo36⟩ := Kd.R_slice HO_5.out
                  subst eo36
                  have p222 : 0 ≤ (0 : Int) := (by omega)
                  have q222 : 0 < (x5_1.length : Int) := of_decide_eq_true (by first | (with_reducible assumption) | assumption)
                  obtain ⟨ad222, e222, hx222_0⟩ := Kd.at_int (Kd.R_reads' HO_5.out).2.2 0 p222 q222
                  cases e222
                  have qi222 : (0 < x5_1.length) = True := eq_true (by omega)
                  (try rw [show ((0 : Int)).toNat = 0 from rfl] at hx222_0)
                  (try rw [Addr.add_zero'] at hx222_0)
                  replace p222 := eq_true p222
                  replace q222 := eq_true q222
                  have p12 : 0 ≤ (0 : Int) := (by omega)
                  have q12 : (0 : Int) < ((x5_1.length : Int) : Int) := of_decide_eq_true (by first | (with_reducible assumption) | assumption)
                  have qi12 : (0 < x5_1.length) = True := eq_true (by omega)
                  obtain ⟨go12, co12, eo12, gb12, gl12, cl12, HG12⟩ := Kd.R_form HO_5.out (by omega)
                  (first | cases eo12 | (injection eo12 with ea_ en_ ec_; (first | subst ea_ | (injection ea_ with ea_; subst ea_)); subst ec_; clear en_))
                  have GB12 := Aside0.mk gb12
                  have GG12 := Aside0.mk HG12
                  clear gb12 gl12 HG12
                  (first | simp only [add_plain] at hx222_0 | skip)
                  obtain ⟨hx12_0, hf12_0⟩ := Kd.R_celln 0 HO_5.out (0 : Int) p12 q12
                  (try rw [show ((0 : Int)).toNat = 0 from rfl] at hx12_0)
                  (try simp only [Nat.reduceMul, Nat.zero_mul, Nat.zero_add, Nat.reduceAdd] at hx12_0)
                  (try rw [show ((0 : Int)).toNat = 0 from rfl] at hf12_0)
                  (try simp only [Nat.reduceMul, Nat.zero_mul, Nat.zero_add, Nat.reduceAdd] at hf12_0)
                  replace p12 := eq_true p12
                  replace q12 := eq_true q12
                  have HP37 := Kd.R_putg HO_5.out (0 : Int) (((rd x5_1 0) + 64) % 256)
                  go_wp2_with (first | ((with_reducible refine gate_store (t := 5) (p := 33) rfl ?_); refine store_event (t := 5) (p := 33) (v := ?vo_w38) (w1 := (wr.setCell ⟨go12, (0 : Int).toNat, none⟩ (.int .u8 (((rd x5_1 0) + 64) % 256)))) ?hg ?ho ?hn ?hr ?_; (case ho => rfl); (case hg => rfl); (case hn => rfl); (case hr => first | (go_simp; done) | (go_simp; rfl)); intro w38 hw; have hg : wr.grownBy w38 (some go12) := (by rw [hw]; exact HP37.2); have hp_ : Kd.R (Kd.int .u8) 5 w38 w.heap.size (fun _ => True) (.slice (some ⟨go12, 0, none⟩) x5_1.length co36) y223 := (by rw [hw, Ny223.out]; exact HP37.1); clear HP37; have n0_ := Aside0.mk (hp_); have n1_ := Aside0.mk ((by rw [hw]; exact below_set (HB.out) GB12.out : Below w.heap.size w w38)); clear HO_5; clear HB; have HO_5 := n0_; have HB := n1_; clear n0_ n1_; clear hg hw hp_))
                  go_ret2
                  exact ⟨_, by first | rfl | (simp [errW_none, errW_some] <;> rfl) | (simp [*, errW_none, errW_some] <;> rfl), by (with_reducible repeat (first | apply Kd.R_alloc | apply Kd.R_drewN | apply Kd.R_drew)); exact HO_5.out, by repeat (first | (with_reducible first | exact HB.out | apply below_alloc | apply pw_below_drewN | apply below_drew1) | exact HB.out)⟩
            · rw [if_neg c11] at H
              exact absurd H (by simp)
          · rw [if_neg c10] at H
            have c10b0 : (t218 == 2) = false := beq_eq_false_iff_ne.mpr c10
            have c10b1 : (t218 != 2) = true := bne_iff_ne.mpr c10
            by_cases c39 : t218 = 4
            · rw [if_pos c39] at H
              have c39b0 : (t218 == 4) = true := beq_iff_eq.mpr c39
              have c39b1 : (t218 != 4) = false := bne_eq_false_iff_eq.mpr c39
              clear c39
              by_cases c40 : 0 < (x5_1.length : Int)
              · rw [if_pos c40] at H
                have c40b0 : decide (0 < (x5_1.length : Int)) = true := decide_eq_true c40
                have c40b1 : decide (0 < x5_1.length) = true := decide_eq_true (by omega)
                clear c40
                obtain ⟨y231, hy231⟩ : ∃ y_ : List Int, y_ = (x5_1.set (0 : Int).toNat (((rd x5_1 0) + 128) % 256)) := ⟨_, rfl⟩
                replace H : (if t218 = 8 then (some ((y231.set (0 : Int).toNat (((rd y231 0) + 192) % 256)), 0)) else (some (y231, 0))) = some (r1, r2) := by first | (rw [hy231]; with_reducible exact H) | (have H2_ := (Option.bind_some _ _).symm.trans H; rw [hy231]; with_reducible exact H2_) | (have H2_ := (Option.bind_some _ _).symm.trans H; with_reducible exact H2_) | with_reducible exact H | (rw [hy231]; exact H) | exact H
                have Ny231 := Aside0.mk hy231
                clear hy231
                by_cases c42 : t218 = 8
                · rw [if_pos c42] at H
                  have c42b0 : (t218 == 8) = true := beq_iff_eq.mpr c42
                  have c42b1 : (t218 != 8) = false := bne_eq_false_iff_eq.mpr c42
                  clear c42
                  obtain ⟨y233, hy233⟩ : ∃ y_ : List Int, y_ = (y231.set (0 : Int).toNat (((rd y231 0) + 192) % 256)) := ⟨_, rfl⟩
                  replace H : (some (y233, 0)) = some (r1, r2) := by first | (rw [hy233]; with_reducible exact H) | (have H2_ := (Option.bind_some _ _).symm.trans H; rw [hy233]; with_reducible exact H2_) | (have H2_ := (Option.bind_some _ _).symm.trans H; with_reducible exact H2_) | with_reducible exact H | (rw [hy233]; exact H) | exact H
                  have Ny233 := Aside0.mk hy233
                  clear hy233
                  simp only [Option.some.injEq, Prod.mk.injEq] at H
                  obtain ⟨rfl, rfl⟩ := H
                  obtain ⟨Ao44, co44, eo44⟩ := Kd.R_slice HO_5.out
                  subst eo44
                  have p230 : 0 ≤ (0 : Int) := (by omega)
                  have q230 : 0 < (x5_1.length : Int) := of_decide_eq_true (by first | (with_reducible assumption) | assumption)
                  obtain ⟨ad230, e230, hx230_0⟩ := Kd.at_int (Kd.R_reads' HO_5.out).2.2 0 p230 q230
                  cases e230
                  have qi230 : (0 < x5_1.length) = True := eq_true (by omega)
                  (try rw [show ((0 : Int)).toNat = 0 from rfl] at hx230_0)
                  (try rw [Addr.add_zero'] at hx230_0)
                  replace p230 := eq_true p230
                  replace q230 := eq_true q230
                  have p41 : 0 ≤ (0 : Int) := (by omega)
                  have q41 : (0 : Int) < ((x5_1.length : Int) : Int) := of_decide_eq_true (by first | (with_reducible assumption) | assumption)
                  have qi41 : (0 < x5_1.length) = True := eq_true (by omega)
                  obtain ⟨go41, co41, eo41, gb41, gl41, cl41, HG41⟩ := Kd.R_form HO_5.out (by omega)
                  (first | cases eo41 | (injection eo41 with ea_ en_ ec_; (first | subst ea_ | (injection ea_ with ea_; subst ea_)); subst ec_; clear en_))
                  have GB41 := Aside0.mk gb41
                  have GG41 := Aside0.mk HG41
                  clear gb41 gl41 HG41
                  (first | simp only [add_plain] at hx230_0 | skip)
                  obtain ⟨hx41_0, hf41_0⟩ := Kd.R_celln 0 HO_5.out (0 : Int) p41 q41
                  (try rw [show ((0 : Int)).toNat = 0 from rfl] at hx41_0)
                  (try simp only [Nat.reduceMul, Nat.zero_mul, Nat.zero_add, Nat.reduceAdd] at hx41_0)
                  (try rw [show ((0 : Int)).toNat = 0 from rfl] at hf41_0)
                  (try simp only [Nat.reduceMul, Nat.zero_mul, Nat.zero_add, Nat.reduceAdd] at hf41_0)
                  replace p41 := eq_true p41
                  replace q41 := eq_true q41
                  have HP45 := Kd.R_putg HO_5.out (0 : Int) (((rd x5_1 0) + 128) % 256)
                  go_wp2_with (first | ((with_reducible refine gate_store (t := 5) (p := 41) rfl ?_); refine store_event (t := 5) (p := 41) (v := ?vo_w46) (w1 := (wr.setCell ⟨go41, (0 : Int).toNat, none⟩ (.int .u8 (((rd x5_1 0) + 128) % 256)))) ?hg ?ho ?hn ?hr ?_; (case ho => rfl); (case hg => rfl); (case hn => rfl); (case hr => first | (go_simp; done) | (go_simp; rfl)); intro w46 hw; have hg : wr.grownBy w46 (some go41) := (by rw [hw]; exact HP45.2); have hp_ : Kd.R (Kd.int .u8) 5 w46 w.heap.size (fun _ => True) (.slice (some ⟨go41, 0, none⟩) x5_1.length co44) y231 := (by rw [hw, Ny231.out]; exact HP45.1); clear HP45; have n0_ := Aside0.mk (hp_); have n1_ := Aside0.mk ((by rw [hw]; exact below_set (HB.out) GB41.out : Below w.heap.size w w46)); clear HO_5; clear HB; have HO_5 := n0_; have HB := n1_; clear n0_ n1_; clear hg hw hp_; have p232 : 0 ≤ (0 : Int) := (by omega); have q232 : 0 < (y231.length : Int) := (by have h_ : (0 : Int) < ((x5_1.length : Int) : Int) := of_decide_eq_true (by first | (with_reducible assumption) | assumption); first | (have e_ := (Kd.R_reads' HO_5.out).1; omega) | simpa only [Ny231.out, List.length_set] using h_); have ql232 : ((0 : Int) < ((x5_1.length : Int) : Int)) = True := eq_true (of_decide_eq_true (by first | (with_reducible assumption) | assumption)); (try have qn232 : (0 < x5_1.length) = True := eq_true (by have h_ : (0 : Int) < ((x5_1.length : Int) : Int) := of_decide_eq_true (by first | (with_reducible assumption) | assumption); omega)); obtain ⟨ad232, e232, hx232_0⟩ := Kd.at_int (Kd.R_reads' HO_5.out).2.2 0 p232 q232; obtain rfl : (⟨go41, 0, none⟩ : Addr) = ad232 := (by injection e232); (first | simp only [add_plain] at hx232_0 | simp only [add_at] at hx232_0 | simp only [Addr.add, Nat.zero_add] at hx232_0 | skip); have qi232 : (0 < y231.length) = True := eq_true (by omega); (try rw [show ((0 : Int)).toNat = 0 from rfl] at hx232_0); (try rw [Addr.add_zero'] at hx232_0); replace p232 := eq_true p232; replace q232 := eq_true q232; have p43 : 0 ≤ (0 : Int) := (by omega); have q43 : (0 : Int) < ((x5_1.length : Int) : Int) := of_decide_eq_true (by first | (with_reducible assumption) | assumption); have qi43 : (0 < x5_1.length) = True := eq_true (by omega); obtain ⟨hx43_0, hf43_0⟩ := Kd.R_celln 0 HO_5.out (0 : Int) p43 q43; (try rw [show ((0 : Int)).toNat = 0 from rfl] at hx43_0); (try simp only [Nat.reduceMul, Nat.zero_mul, Nat.zero_add, Nat.reduceAdd] at hx43_0); (try rw [show ((0 : Int)).toNat = 0 from rfl] at hf43_0); (try simp only [Nat.reduceMul, Nat.zero_mul, Nat.zero_add, Nat.reduceAdd] at hf43_0); replace p43 := eq_true p43; replace q43 := eq_true q43; obtain ⟨hy47_, hz47_⟩ := Kd.R_celln 0 HO_5.out (0 : Int) (by omega) (of_decide_eq_true (by first | (with_reducible assumption) | assumption)); (try simp only [Int.reduceToNat, Int.toNat_zero, Int.toNat_ofNat, Nat.reduceMul, Nat.zero_mul, Nat.zero_add] at hy47_ hz47_); (try rw [show ((0 : Int)).toNat = 0 from rfl] at hy47_); (try rw [show ((0 : Int)).toNat = 0 from rfl] at hz47_); have HP47 := Kd.R_putg HO_5.out (0 : Int) (((rd y231 0) + 192) % 256)) | ((with_reducible refine gate_store (t := 5) (p := 49) rfl ?_); refine store_event (t := 5) (p := 49) (v := ?vo_w48) (w1 := (w46.setCell ⟨go41, (0 : Int).toNat, none⟩ (.int .u8 (((rd y231 0) + 192) % 256)))) ?hg ?ho ?hn ?hr ?_; (case ho => rfl); (case hg => rfl); (case hn => rfl); (case hr => first | (go_simp; done) | (go_simp; rfl)); intro w48 hw; have hg : w46.grownBy w48 (some go41) := (by rw [hw]; exact HP47.2); have hp_ : Kd.R (Kd.int .u8) 5 w48 w.heap.size (fun _ => True) (.slice (some ⟨go41, 0, none⟩) x5_1.length co44) y233 := (by rw [hw, Ny233.out]; exact HP47.1); clear HP47; have n0_ := Aside0.mk (hp_); have n1_ := Aside0.mk ((by rw [hw]; exact below_set (HB.out) GB41.out : Below w.heap.size w w48)); clear HO_5; clear HB; have HO_5 := n0_; have HB := n1_; clear n0_ n1_; clear hg hw hp_))
                  go_ret2
                  exact ⟨_, by first | rfl | (simp [errW_none, errW_some] <;> rfl) | (simp [*, errW_none, errW_some] <;> rfl), by (with_reducible repeat (first | apply Kd.R_alloc | apply Kd.R_drewN | apply Kd.R_drew)); exact HO_5.out, by repeat (first | (with_reducible first | exact HB.out | apply below_alloc | apply pw_below_drewN | apply below_drew1) | exact HB.out)⟩
                · rw [if_neg c42] at H
                  have c42b0 : (t218 == 8) = false := beq_eq_false_iff_ne.mpr c42
                  have c42b1 : (t218 != 8) = true := bne_iff_ne.mpr c42
                  simp only [Option.some.injEq, Prod.mk.injEq] at H
                  obtain ⟨rfl, rfl⟩ := H
                  obtain ⟨Ao49, co49, eo49⟩ := Kd.R_slice HO_5.out
                  subst eo49
                  have p230 : 0 ≤ (0 : Int) := (by omega)
                  have q230 : 0 < (x5_1.length : Int) := of_decide_eq_true (by first | (with_reducible assumption) | assumption)
                  obtain ⟨ad230, e230, hx230_0⟩ := Kd.at_int (Kd.R_reads' HO_5.out).2.2 0 p230 q230
                  cases e230
                  have qi230 : (0 < x5_1.length) = True := eq_true (by omega)
                  (try rw [show ((0 : Int)).toNat = 0 from rfl] at hx230_0)
                  (try rw [Addr.add_zero'] at hx230_0)
                  replace p230 := eq_true p230
                  replace q230 := eq_true q230
                  have p41 : 0 ≤ (0 : Int) := (by omega)
                  have q41 : (0 : Int) < ((x5_1.length : Int) : Int) := of_decide_eq_true (by first | (with_reducible assumption) | assumption)
                  have qi41 : (0 < x5_1.length) = True := eq_true (by omega)
                  obtain ⟨go41, co41, eo41, gb41, gl41, cl41, HG41⟩ := Kd.R_form HO_5.out (by omega)
                  (first | cases eo41 | (injection eo41 with ea_ en_ ec_; (first | subst ea_ | (injection ea_ with ea_; subst ea_)); subst ec_; clear en_))
                  have GB41 := Aside0.mk gb41
                  have GG41 := Aside0.mk HG41
                  clear gb41 gl41 HG41
                  (first | simp only [add_plain] at hx230_0 | skip)
                  obtain ⟨hx41_0, hf41_0⟩ := Kd.R_celln 0 HO_5.out (0 : Int) p41 q41
                  (try rw [show ((0 : Int)).toNat = 0 from rfl] at hx41_0)
                  (try simp only [Nat.reduceMul, Nat.zero_mul, Nat.zero_add, Nat.reduceAdd] at hx41_0)
                  (try rw [show ((0 : Int)).toNat = 0 from rfl] at hf41_0)
                  (try simp only [Nat.reduceMul, Nat.zero_mul, Nat.zero_add, Nat.reduceAdd] at hf41_0)
                  replace p41 := eq_true p41
                  replace q41 := eq_true q41
                  have HP50 := Kd.R_putg HO_5.out (0 : Int) (((rd x5_1 0) + 128) % 256)
                  go_wp2_with (first | ((with_reducible refine gate_store (t := 5) (p := 41) rfl ?_); refine store_event (t := 5) (p := 41) (v := ?vo_w51) (w1 := (wr.setCell ⟨go41, (0 : Int).toNat, none⟩ (.int .u8 (((rd x5_1 0) + 128) % 256)))) ?hg ?ho ?hn ?hr ?_; (case ho => rfl); (case hg => rfl); (case hn => rfl); (case hr => first | (go_simp; done) | (go_simp; rfl)); intro w51 hw; have hg : wr.grownBy w51 (some go41) := (by rw [hw]; exact HP50.2); have hp_ : Kd.R (Kd.int .u8) 5 w51 w.heap.size (fun _ => True) (.slice (some ⟨go41, 0, none⟩) x5_1.length co49) y231 := (by rw [hw, Ny231.out]; exact HP50.1); clear HP50; have n0_ := Aside0.mk (hp_); have n1_ := Aside0.mk ((by rw [hw]; exact below_set (HB.out) GB41.out : Below w.heap.size w w51)); clear HO_5; clear HB; have HO_5 := n0_; have HB := n1_; clear n0_ n1_; clear hg hw hp_))
                  go_ret2
                  exact ⟨_, by first | rfl | (simp [errW_none, errW_some] <;> rfl) | (simp [*, errW_none, errW_some] <;> rfl), by (with_reducible repeat (first | apply Kd.R_alloc | apply Kd.R_drewN | apply Kd.R_drew)); exact HO_5.out, by repeat (first | (with_reducible first | exact HB.out | apply below_alloc | apply pw_below_drewN | apply below_drew1) | exact HB.out)⟩
              · rw [if_neg c40] at H
                exact absurd H (by simp)
            · rw [if_neg c39] at H
              have c39b0 : (t218 == 4) = false := beq_eq_false_iff_ne.mpr c39
              have c39b1 : (t218 != 4) = true := bne_iff_ne.mpr c39
              by_cases c52 : t218 = 8
              · rw [if_pos c52] at H
                have c52b0 : (t218 == 8) = true := beq_iff_eq.mpr c52
                have c52b1 : (t218 != 8) = false := bne_eq_false_iff_eq.mpr c52
                clear c52
                by_cases c53 : 0 < (x5_1.length : Int)
                · rw [if_pos c53] at H
                  have c53b0 : decide (0 < (x5_1.length : Int)) = true := decide_eq_true c53
                  have c53b1 : decide (0 < x5_1.length) = true := decide_eq_true (by omega)
                  clear c53
                  obtain ⟨y235, hy235⟩ : ∃ y_ : List Int, y_ = (x5_1.set (0 : Int).toNat (((rd x5_1 0) + 192) % 256)) := ⟨_, rfl⟩
                  replace H : (some (y235, 0)) = some (r1, r2) := by first | (rw [hy235]; with_reducible exact H) | (have H2_ := (Option.bind_some _ _).symm.trans H; rw [hy235]; with_reducible exact H2_) | (have H2_ := (Option.bind_some _ _).symm.trans H; with_reducible exact H2_) | with_reducible exact H | (rw [hy235]; exact H) | exact H
                  have Ny235 := Aside0.mk hy235
                  clear hy235
                  simp only [Option.some.injEq, Prod.mk.injEq] at H
                  obtain ⟨rfl, rfl⟩ := H
                  obtain ⟨Ao55, co55, eo55⟩ := Kd.R_slice HO_5.out
                  subst eo55
                  have p234 : 0 ≤ (0 : Int) := (by omega)
                  have q234 : 0 < (x5_1.length : Int) := of_decide_eq_true (by first | (with_reducible assumption) | assumption)
                  obtain ⟨ad234, e234, hx234_0⟩ := Kd.at_int (Kd.R_reads' HO_5.out).2.2 0 p234 q234
                  cases e234
                  have qi234 : (0 < x5_1.length) = True := eq_true (by omega)
                  (try rw [show ((0 : Int)).toNat = 0 from rfl] at hx234_0)
                  (try rw [Addr.add_zero'] at hx234_0)
                  replace p234 := eq_true p234
                  replace q234 := eq_true q234
                  have p54 : 0 ≤ (0 : Int) := (by omega)
                  have q54 : (0 : Int) < ((x5_1.length : Int) : Int) := of_decide_eq_true (by first | (with_reducible assumption) | assumption)
                  have qi54 : (0 < x5_1.length) = True := eq_true (by omega)
                  obtain ⟨go54, co54, eo54, gb54, gl54, cl54, HG54⟩ := Kd.R_form HO_5.out (by omega)
                  (first | cases eo54 | (injection eo54 with ea_ en_ ec_; (first | subst ea_ | (injection ea_ with ea_; subst ea_)); subst ec_; clear en_))
                  have GB54 := Aside0.mk gb54
                  have GG54 := Aside0.mk HG54
                  clear gb54 gl54 HG54
                  (first | simp only [add_plain] at hx234_0 | skip)
                  obtain ⟨hx54_0, hf54_0⟩ := Kd.R_celln 0 HO_5.out (0 : Int) p54 q54
                  (try rw [show ((0 : Int)).toNat = 0 from rfl] at hx54_0)
                  (try simp only [Nat.reduceMul, Nat.zero_mul, Nat.zero_add, Nat.reduceAdd] at hx54_0)
                  (try rw [show ((0 : Int)).toNat = 0 from rfl] at hf54_0)
                  (try simp only [Nat.reduceMul, Nat.zero_mul, Nat.zero_add, Nat.reduceAdd] at hf54_0)
                  replace p54 := eq_true p54
                  replace q54 := eq_true q54
                  have HP56 := Kd.R_putg HO_5.out (0 : Int) (((rd x5_1 0) + 192) % 256)
                  go_wp2_with (first | ((with_reducible refine gate_store (t := 5) (p := 49) rfl ?_); refine store_event (t := 5) (p := 49) (v := ?vo_w57) (w1 := (wr.setCell ⟨go54, (0 : Int).toNat, none⟩ (.int .u8 (((rd x5_1 0) + 192) % 256)))) ?hg ?ho ?hn ?hr ?_; (case ho => rfl); (case hg => rfl); (case hn => rfl); (case hr => first | (go_simp; done) | (go_simp; rfl)); intro w57 hw; have hg : wr.grownBy w57 (some go54) := (by rw [hw]; exact HP56.2); have hp_ : Kd.R (Kd.int .u8) 5 w57 w.heap.size (fun _ => True) (.slice (some ⟨go54, 0, none⟩) x5_1.length co55) y235 := (by rw [hw, Ny235.out]; exact HP56.1); clear HP56; have n0_ := Aside0.mk (hp_); have n1_ := Aside0.mk ((by rw [hw]; exact below_set (HB.out) GB54.out : Below w.heap.size w w57)); clear HO_5; clear HB; have HO_5 := n0_; have HB := n1_; clear n0_ n1_; clear hg hw hp_))
                  go_ret2
                  exact ⟨_, by first | rfl | (simp [errW_none, errW_some] <;> rfl) | (simp [*, errW_none, errW_some] <;> rfl), by (with_reducible repeat (first | apply Kd.R_alloc | apply Kd.R_drewN | apply Kd.R_drew)); exact HO_5.out, by repeat (first | (with_reducible first | exact HB.out | apply below_alloc | apply pw_below_drewN | apply below_drew1) | exact HB.out)⟩
                · rw [if_neg c53] at H
                  exact absurd H (by simp)
              · rw [if_neg c52] at H
                have c52b0 : (t218 == 8) = false := beq_eq_false_iff_ne.mpr c52
                have c52b1 : (t218 != 8) = true := bne_iff_ne.mpr c52
                simp only [Option.some.injEq, Prod.mk.injEq] at H
                obtain ⟨rfl, rfl⟩ := H
                go_wp2
                go_ret2
                exact ⟨_, by first | rfl | (simp [errW_none, errW_some] <;> rfl) | (simp [*, errW_none, errW_some] <;> rfl), by (with_reducible repeat (first | apply Kd.R_alloc | apply Kd.R_drewN | apply Kd.R_drew)); exact HO_5.out, by repeat (first | (with_reducible first | exact HB.out | apply below_alloc | apply pw_below_drewN | apply below_drew1) | exact HB.out)⟩
attribute [local go_sem] max2_int min2_int max_two min_two max_three min_three max_four min_four   -- for this text's walks alone
set_option linter.unusedVariables false
set_option linter.unusedSimpArgs false
def wigwagref05_numbers.l0 : Nat → List Int → List Int → Int → Option (List Int)
  | 0, _, _, _ => none
  | k + 1, x0, x3, x4 => if x4 < (x0.length : Int) then (if 0 ≤ x4 then ((wigwagref03_Put.f k (rd x0 x4)).bind fun bt237 => (if x3.length + bt237.1.length < 140737488355328 then (wigwagref05_numbers.l0 k x0 (x3 ++ bt237.1) (wrap64 (x4 + 1))) else (none))) else (none)) else (some x3)
def wigwagref05_numbers.f (k : Nat) (l0 : List Int) : Option (List Int) := wigwagref05_numbers.l0 k l0 ([] : List Int) 0
set_option maxHeartbeats 8000000 in
set_option maxRecDepth 100000 in
theorem wigwagref05_numbers.calls (k : Nat) (A0 : Option Addr) (c0 : Nat) (l0 : List Int) (r : List Int) (w : World) (hr0 : Kd.C (Kd.int .u64) w A0 l0.length l0) (hc0 : l0.length ≤ c0) (h : wigwagref05_numbers.f k l0 = some r) :
    Calls Try.prog 27 #[.slice A0 l0.length c0] w fun e w' => ∃ v0_ : Value, e = .returned (v0_) ∧ Kd.R (Kd.int .u8) 5 w' w.heap.size (fun _ => True) v0_ r ∧ Below w.heap.size w w' := by
  have HR0 := Aside0.mk hr0
  have HC0 := Aside0.mk hc0
  clear hr0 hc0
  have HB := Aside0.mk (Below.refl w.heap.size w)
  have H : (wigwagref05_numbers.l0 k l0 ([] : List Int) 0) = some r := h
  clear h
  have H' := Aside0.mk H
  clear H
  go_enter Try.func27, Try.ntmps27
  go_wp2
  go_loopg [3, 4] k (fun kq v3 v4 w' => ∃ (x3_1 : List Int) (x4_1 : Int), v4 = .int .i64 x4_1 ∧ Aside0 (wigwagref05_numbers.l0 kq l0 x3_1 x4_1 = some r) ∧ Aside0 (kq ≤ k) ∧ Aside0 (Kd.R (Kd.int .u8) 5 w' w.heap.size (fun _ => True) v3 x3_1) ∧ Aside0 (Below w.heap.size w w'))
  case atStart => exact ⟨(([] : List Int)), (0), (by first | rfl | (simp; done) | (simp [*]; done)), H', ⟨Nat.le_refl _⟩, ⟨by first | exact Kd.R_nil .. | exact Kd.N_nil .. | exact Kd.V_nil .. | exact Kd.Q_nil .. | exact Kd.S_nil _ _ _ _ _⟩, ⟨by repeat (first | (with_reducible first | exact HB.out | apply below_alloc | apply pw_below_drewN | apply below_drew1) | exact HB.out)⟩⟩
  case round =>
    clear H'
    obtain ⟨x3_1, x4_1, rfl, HA, HK1, HO_3, HB⟩ := hrel
    cases gk with
    | zero => exact absurd HA.out (by simp [wigwagref05_numbers.l0])
    | succ k1 =>
      have H := HA.out
      clear HA
      simp only [wigwagref05_numbers.l0] at H
      by_cases c2 : x4_1 < (l0.length : Int)
      · rw [if_pos c2] at H
        have c2b0 : decide (x4_1 < (l0.length : Int)) = true := decide_eq_true c2
        clear c2
        by_cases c3 : 0 ≤ x4_1
        · rw [if_pos c3] at H
          have c3b0 : decide (0 ≤ x4_1) = true := decide_eq_true c3
          clear c3
          replace H := Option.bind_eq_some_iff.mp H
          obtain ⟨⟨t237, t238⟩, A40, H⟩ := H
          replace H : (if x3_1.length + t237.length < 140737488355328 then (wigwagref05_numbers.l0 k1 l0 (x3_1 ++ t237) (wrap64 (x4_1 + 1))) else (none)) = some r := H
          have A4 := Aside0.mk A40
          clear A40
          by_cases c5 : x3_1.length + t237.length < 140737488355328
          · rw [if_pos c5] at H
            have LMc5 := Aside0.mk c5
            clear c5
            obtain ⟨y241, hy241⟩ : ∃ y_ : List Int, y_ = (x3_1 ++ t237) := ⟨_, rfl⟩
            replace H : (wigwagref05_numbers.l0 k1 l0 y241 (wrap64 (x4_1 + 1))) = some r := by first | (rw [hy241]; with_reducible exact H) | (have H2_ := (Option.bind_some _ _).symm.trans H; rw [hy241]; with_reducible exact H2_) | (have H2_ := (Option.bind_some _ _).symm.trans H; with_reducible exact H2_) | with_reducible exact H | (rw [hy241]; exact H) | exact H
            have Ny241 := Aside0.mk hy241
            clear hy241
            have H' := Aside0.mk H
            clear H
            have p236 : 0 ≤ (x4_1 : Int) := of_decide_eq_true (by first | (with_reducible assumption) | assumption)
            have q236 : x4_1 < (l0.length : Int) := of_decide_eq_true (by first | (with_reducible assumption) | assumption)
            obtain ⟨ad236, e236, hx236_0⟩ := Kd.at_int HR0.out x4_1 p236 q236
            cases e236
            replace hx236_0 := (HB.out.cell (World.block_lt_of_cell? w _ hx236_0)).trans hx236_0
            replace p236 := eq_true p236
            replace q236 := eq_true q236
            go_wp2_with (first | ((with_reducible refine gate_callee (f := 40) rfl ?_); refine goesL_ (some 18) rfl rfl Try.func40 (by kernel_rfl) rfl #[.int .u64 (rd l0 x4_1)] rfl (by (try simp only [List.map_toArray, List.map_cons, List.map_nil]); first | done | rfl | (simp only [List.length_drop, List.length_take]; rfl)) ?_; (with_reducible refine (wigwagref03_Put.calls k1 (rd l0 x4_1) t237 t238 _ A4.out).mono ?_); rintro e w6 ⟨v239, rfl, ho0, hb⟩; refine ⟨_, rfl, ?_⟩; have n0_ := Aside0.mk (Kd.R_elder' (by (with_reducible repeat (first | apply Kd.R_alloc | apply Kd.R_drewN | apply Kd.R_drew)); exact HO_3.out) (Kd.R_base ho0) hb); have n1_ := Aside0.mk (Kd.R_lower (Kd.R_new' ho0 (Kd.R_lt (by (with_reducible repeat (first | apply Kd.R_alloc | apply Kd.R_drewN | apply Kd.R_drew)); exact HO_3.out))) (below_size (by repeat (first | (with_reducible first | exact HB.out | apply below_alloc | apply pw_below_drewN | apply below_drew1) | exact HB.out)))); have n2_ := Aside0.mk (below_step (by repeat (first | (with_reducible first | exact HB.out | apply below_alloc | apply pw_below_drewN | apply below_drew1) | exact HB.out)) hb); clear HO_3; clear HB; have HO_3 := n0_; have HO240 := n1_; have HB := n2_; clear n0_ n1_ n2_; (try clear hb); (try clear hb2); (try clear hk); (try clear hi); (try clear ho0); obtain ⟨Ao8, co8, eo8⟩ := Kd.R_slice HO240.out; subst eo8) | ((with_reducible refine gate_builtin (b := .append) (xs := #[.tmp 21, .tmp 22]) rfl ?_); at_builtin; refine Kd.R_append_rows (Kd.int .u8) (w0 := w) w.heap.size rfl (.tmp 21) (.tmp 22) 24 5 (.int .u8 0) 1 rfl Try.underlying24 info5 rfl (by decide) (by omega) u3 x3_1 t237 _ _ _ (fun k_ => some k_ ≠ (.slice Ao8 t237.length co8 : Value).ownBlock) (fun _ => False) rfl rfl ?aO ?aR (fun _ _ h => h) (fun _ h => h.elim) ?aF ?aB ?aS ?aL ?_; (case aR => repeat (first | exact (Kd.R_reads' HO240.out).2.2 | (with_reducible refine Kd.C_alloc ?_ _) | (with_reducible refine Kd.C_drewN ?_ _) | (with_reducible refine Kd.C_drew ?_))); (case aB => exact (by repeat (first | (with_reducible first | exact HB.out | apply below_alloc | apply pw_below_drewN | apply below_drew1) | exact HB.out))); (case aF => exact (fun k_ hk => Kd.fresh' (Kd.R_lt (by (with_reducible repeat (first | apply Kd.R_alloc | apply Kd.R_drewN | apply Kd.R_drew)); exact HO240.out)) k_ hk)); (case aO => exact (by (with_reducible repeat (first | apply Kd.R_alloc | apply Kd.R_drewN | apply Kd.R_drew)); exact Kd.R_mono HO_3.out (fun _ hk => hk.2))); (case aS => exact (below_size (by repeat (first | (with_reducible first | exact HB.out | apply below_alloc | apply pw_below_drewN | apply below_drew1) | exact HB.out)))); (case aL => have := LMc5.out; omega); intro v242 w7 ho hb hg hat; rw [← Ny241.out] at ho; have n0_ := Aside0.mk (Kd.R_after (ok := (fun _ => True)) (by (with_reducible repeat (first | apply Kd.R_alloc | apply Kd.R_drewN | apply Kd.R_drew)); exact HO240.out) hg hat); have n1_ := Aside0.mk (hb); have n2_ := Aside0.mk (ho); clear HO240; clear HB; clear HO_3; have HO240 := n0_; have HB := n1_; have HO243 := n2_; clear n0_ n1_ n2_; clear ho hb hg hat))
            go_roundg k1
            case measure => have := HK1.out; omega
            case rel => exact ⟨(y241), (wrap64 (x4_1 + 1)), (by first | rfl | (simp; done) | (simp [*]; done)), H', ⟨by have := HK1.out; omega⟩, ⟨by (with_reducible repeat (first | apply Kd.R_alloc | apply Kd.R_drewN | apply Kd.R_drew)); exact Kd.R_mono HO243.out (fun _ hk => trivial)⟩, ⟨by repeat (first | (with_reducible first | exact HB.out | apply below_alloc | apply pw_below_drewN | apply below_drew1) | exact HB.out)⟩⟩
          · rw [if_neg c5] at H
            exact absurd H (by simp)
        · rw [if_neg c3] at H
          exact absurd H (by simp)
      · rw [if_neg c2] at H
        have c2b0 : decide (x4_1 < (l0.length : Int)) = false := decide_eq_false c2
        clear c2
        obtain rfl := Option.some.inj H
        go_wp2
        go_ret
        exact ⟨_, by first | rfl | (simp [errW_none, errW_some] <;> rfl) | (simp [*, errW_none, errW_some] <;> rfl), by (with_reducible repeat (first | apply Kd.R_alloc | apply Kd.R_drewN | apply Kd.R_drew)); exact HO_3.out, by repeat (first | (with_reducible first | exact HB.out | apply below_alloc | apply pw_below_drewN | apply below_drew1) | exact HB.out)⟩
end Go.Proofs.Ytphakdfholkbdaa.PFra
end
