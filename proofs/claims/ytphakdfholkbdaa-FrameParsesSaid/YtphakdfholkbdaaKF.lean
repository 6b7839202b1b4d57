/- Several texts of this claim in one: PFrax22 PFrax17 PFrax18 PFrax19 PFrax20 PFrax21 PFrax23 -/
import Derived.Test.YtphakdfholkbdaaKA
import Derived.Test.YtphakdfholkbdaaKB
section
namespace Go.Proofs.Ytphakdfholkbdaa.PFra
open Go.RowKit Go.Proofs.YtphakdfholkbdaaW.PrintWords Go.Proofs.YtphakdfholkbdaaW.PrintLast Go.Proofs.YtphakdfholkbdaaW.PrintMore
attribute [local go_sem] max2_int min2_int max_two min_two max_three min_three max_four min_four   -- for this text's walks alone
set_option linter.unusedVariables false
set_option linter.unusedSimpArgs false
attribute [local go_sem] max2_int min2_int max_two min_two max_three min_three max_four min_four   -- for this text's walks alone
set_option linter.unusedVariables false
set_option linter.unusedSimpArgs false
def wigwagref05_spans.l0 : Nat → List (S47) → Int → Option (Bool)
  | 0, _, _ => none
  | k + 1, x0, x3 => if x3 < (x0.length : Int) then (if 0 ≤ x3 then (if ((rd_T47 x0 x3).f0) ≥ ((rd_T47 x0 x3).f1) then (some false) else (if ((rd_T47 x0 x3).f1) > 4611686018427387904 then (some false) else (if x3 > 0 then (if 0 ≤ (wrap64 (x3 - 1)) then (if (wrap64 (x3 - 1)) < (x0.length : Int) then (if ((rd_T47 x0 x3).f0) ≤ ((rd_T47 x0 (wrap64 (x3 - 1))).f1) then (some false) else (wigwagref05_spans.l0 k x0 (wrap64 (x3 + 1)))) else (none)) else (none)) else (wigwagref05_spans.l0 k x0 (wrap64 (x3 + 1)))))) else (none)) else (some true)
def wigwagref05_spans.f (k : Nat) (l0 : List (S47)) : Option (Bool) := if (l0.length : Int) < 1 then (some false) else (if (l0.length : Int) > 32 then (some false) else (wigwagref05_spans.l0 k l0 0))
set_option maxHeartbeats 8000000 in
set_option maxRecDepth 100000 in
theorem wigwagref05_spans.calls (k : Nat) (A0 : Option Addr) (c0 : Nat) (l0 : List (S47)) (r : Bool) (w : World) (hr0 : Kd.C k47 w A0 l0.length l0) (hc0 : l0.length ≤ c0) (h : wigwagref05_spans.f k l0 = some r) :
    Calls Try.prog 31 #[.slice A0 l0.length c0] w fun e w' => e = .returned (.bool r) ∧ Drawn0 w w' := by
  have HR0 := Aside0.mk hr0
  have HC0 := Aside0.mk hc0
  clear hr0 hc0
  have H : (if (l0.length : Int) < 1 then (some false) else (if (l0.length : Int) > 32 then (some false) else (wigwagref05_spans.l0 k l0 0))) = some r := h
  clear h
  by_cases c2 : (l0.length : Int) < 1
  · rw [if_pos c2] at H
    have c2b0 : decide ((l0.length : Int) < 1) = true := decide_eq_true c2
    have c2b1 : decide (l0.length < 1) = true := decide_eq_true (by omega)
    clear c2
    obtain rfl := Option.some.inj H
    go_enter Try.func31, Try.ntmps31
    go_wp2
    repeat (go_quiet (fail); try go_wp2)
    go_ret
    exact ⟨by first | rfl | (simp; done) | (simp [*]; done), by repeat (first | exact Drawn0.refl _ | apply Drawn0.step)⟩
  · rw [if_neg c2] at H
    have c2b0 : decide ((l0.length : Int) < 1) = false := decide_eq_false c2
    have c2b1 : decide (l0.length < 1) = false := decide_eq_false (by omega)
    clear c2
    by_cases c3 : (l0.length : Int) > 32
    · rw [if_pos c3] at H
      have c3b0 : decide (32 < (l0.length : Int)) = true := decide_eq_true c3
      have c3b1 : decide (32 < l0.length) = true := decide_eq_true (by omega)
      clear c3
      obtain rfl := Option.some.inj H
      go_enter Try.func31, Try.ntmps31
      go_wp2
      repeat (go_quiet (fail); try go_wp2)
      go_ret
      exact ⟨by first | rfl | (simp; done) | (simp [*]; done), by repeat (first | exact Drawn0.refl _ | apply Drawn0.step)⟩
    · rw [if_neg c3] at H
      have c3b0 : decide (32 < (l0.length : Int)) = false := decide_eq_false c3
      have c3b1 : decide (32 < l0.length) = false := decide_eq_false (by omega)
      clear c3
      have H' := Aside0.mk H
      clear H
      go_enter Try.func31, Try.ntmps31
      go_wp2
      repeat (go_quiet (fail); try go_wp2)
      go_loopg [3] k (fun kq v3 w' => ∃ (x3_1 : Int), v3 = .int .i64 x3_1 ∧ Aside0 (wigwagref05_spans.l0 kq l0 x3_1 = some r) ∧ Aside0 (kq ≤ k) ∧ Drawn0 w w')
      case atStart => exact ⟨(0), (by first | rfl | (simp; done) | (simp [*]; done)), H', ⟨Nat.le_refl _⟩, by repeat (first | exact Drawn0.refl _ | apply Drawn0.step)⟩
      case round =>
        clear H'
        try clear c2
        try clear c2b0
        try clear c2b1
        try clear p2
        try clear c3
        try clear c3b0
        try clear c3b1
        obtain ⟨x3_1, rfl, HA, HK1, ⟨m1, rfl⟩⟩ := hrel
        cases gk with
        | zero => exact absurd HA.out (by simp [wigwagref05_spans.l0])
        | succ k1 =>
          have H := HA.out
          clear HA
          simp only [wigwagref05_spans.l0] at H
          by_cases c4 : x3_1 < (l0.length : Int)
          · rw [if_pos c4] at H
            have c4b0 : decide (x3_1 < (l0.length : Int)) = true := decide_eq_true c4
            clear c4
            by_cases c5 : 0 ≤ x3_1
            · rw [if_pos c5] at H
              have c5b0 : decide (0 ≤ x3_1) = true := decide_eq_true c5
              clear c5
              by_cases c6 : ((rd_T47 l0 x3_1).f0) ≥ ((rd_T47 l0 x3_1).f1)
              · rw [if_pos c6] at H
                have c6b0 : decide (((rd_T47 l0 x3_1).f1) ≤ ((rd_T47 l0 x3_1).f0)) = true := decide_eq_true c6
                clear c6
                obtain rfl := Option.some.inj H
                have p213 : 0 ≤ (x3_1 : Int) := of_decide_eq_true (by first | (with_reducible assumption) | assumption)
                have q213 : x3_1 < (l0.length : Int) := of_decide_eq_true (by first | (with_reducible assumption) | assumption)
                obtain ⟨ad213, e213, hx213_0, hx213_1⟩ := at_T47 HR0.out x3_1 p213 q213
                cases e213
                replace p213 := eq_true p213
                replace q213 := eq_true q213
                have p214 : 0 ≤ (x3_1 : Int) := of_decide_eq_true (by first | (with_reducible assumption) | assumption)
                have q214 : x3_1 < (l0.length : Int) := of_decide_eq_true (by first | (with_reducible assumption) | assumption)
                obtain ⟨ad214, e214, hx214_0, hx214_1⟩ := at_T47 HR0.out x3_1 p214 q214
                obtain rfl : ad213 = ad214 := (by injection e214)
                replace p214 := eq_true p214
                replace q214 := eq_true q214
                go_wp2
                repeat (go_quiet (fail); try go_wp2)
                go_ret
                exact ⟨by first | rfl | (simp; done) | (simp [*]; done), by repeat (first | exact Drawn0.refl _ | apply Drawn0.step)⟩
              · rw [if_neg c6] at H
                have c6b0 : decide (((rd_T47 l0 x3_1).f1) ≤ ((rd_T47 l0 x3_1).f0)) = false := decide_eq_false c6
                clear c6
                by_cases c7 : ((rd_T47 l0 x3_1).f1) > 4611686018427387904
                · rw [if_pos c7] at H
                  have c7b0 : decide (4611686018427387904 < ((rd_T47 l0 x3_1).f1)) = true := decide_eq_true c7
                  clear c7
                  obtain rfl := Option.some.inj H
                  have p213 : 0 ≤ (x3_1 : Int) := of_decide_eq_true (by first | (with_reducible assumption) | assumption)
                  have q213 : x3_1 < (l0.length : Int) := of_decide_eq_true (by first | (with_reducible assumption) | assumption)
                  obtain ⟨ad213, e213, hx213_0, hx213_1⟩ := at_T47 HR0.out x3_1 p213 q213
                  cases e213
                  replace p213 := eq_true p213
                  replace q213 := eq_true q213
                  have p214 : 0 ≤ (x3_1 : Int) := of_decide_eq_true (by first | (with_reducible assumption) | assumption)
                  have q214 : x3_1 < (l0.length : Int) := of_decide_eq_true (by first | (with_reducible assumption) | assumption)
                  obtain ⟨ad214, e214, hx214_0, hx214_1⟩ := at_T47 HR0.out x3_1 p214 q214
                  obtain rfl : ad213 = ad214 := (by injection e214)
                  replace p214 := eq_true p214
                  replace q214 := eq_true q214
                  have p215 : 0 ≤ (x3_1 : Int) := of_decide_eq_true (by first | (with_reducible assumption) | assumption)
                  have q215 : x3_1 < (l0.length : Int) := of_decide_eq_true (by first | (with_reducible assumption) | assumption)
                  obtain ⟨ad215, e215, hx215_0, hx215_1⟩ := at_T47 HR0.out x3_1 p215 q215
                  obtain rfl : ad213 = ad215 := (by injection e215)
                  replace p215 := eq_true p215
                  replace q215 := eq_true q215
                  go_wp2
                  repeat (go_quiet (fail); try go_wp2)
                  go_ret
                  exact ⟨by first | rfl | (simp; done) | (simp [*]; done), by repeat (first | exact Drawn0.refl _ | apply Drawn0.step)⟩
                · rw [if_neg c7] at H
                  have c7b0 : decide (4611686018427387904 < ((rd_T47 l0 x3_1).f1)) = false := decide_eq_false c7
                  clear c7
                  by_cases c8 : x3_1 > 0
                  · rw [if_pos c8] at H
                    have c8b0 : decide (0 < x3_1) = true := decide_eq_true c8
                    clear c8
                    obtain ⟨ji9, hji9⟩ : ∃ j_ : Int, (wrap64 (x3_1 - 1)) = j_ := ⟨_, rfl⟩
                    replace H : (if 0 ≤ (ji9) then (if (ji9) < (l0.length : Int) then (if ((rd_T47 l0 x3_1).f0) ≤ ((rd_T47 l0 (ji9)).f1) then (some false) else (wigwagref05_spans.l0 k1 l0 (wrap64 (x3_1 + 1)))) else (none)) else (none)) = some r := by first | (rw [hji9] at H; exact H) | (simp only [hji9] at H ⊢; exact H)
                    have hji9w : (IntKind.i64.wrap (x3_1 - 1)) = ji9 := (i64_w _).trans hji9
                    by_cases c10 : 0 ≤ (ji9)
                    · rw [if_pos c10] at H
                      have c10b0 : decide (0 ≤ (ji9)) = true := decide_eq_true c10
                      clear c10
                      by_cases c11 : (ji9) < (l0.length : Int)
                      · rw [if_pos c11] at H
                        have c11b0 : decide ((ji9) < (l0.length : Int)) = true := decide_eq_true c11
                        clear c11
                        by_cases c12 : ((rd_T47 l0 x3_1).f0) ≤ ((rd_T47 l0 (ji9)).f1)
                        · rw [if_pos c12] at H
                          have c12b0 : decide (((rd_T47 l0 x3_1).f0) ≤ ((rd_T47 l0 (ji9)).f1)) = true := decide_eq_true c12
                          clear c12
                          obtain rfl := Option.some.inj H
                          have p213 : 0 ≤ (x3_1 : Int) := of_decide_eq_true (by first | (with_reducible assumption) | assumption)
                          have q213 : x3_1 < (l0.length : Int) := of_decide_eq_true (by first | (with_reducible assumption) | assumption)
                          obtain ⟨ad213, e213, hx213_0, hx213_1⟩ := at_T47 HR0.out x3_1 p213 q213
                          cases e213
                          replace p213 := eq_true p213
                          replace q213 := eq_true q213
                          have p214 : 0 ≤ (x3_1 : Int) := of_decide_eq_true (by first | (with_reducible assumption) | assumption)
                          have q214 : x3_1 < (l0.length : Int) := of_decide_eq_true (by first | (with_reducible assumption) | assumption)
                          obtain ⟨ad214, e214, hx214_0, hx214_1⟩ := at_T47 HR0.out x3_1 p214 q214
                          obtain rfl : ad213 = ad214 := (by injection e214)
                          replace p214 := eq_true p214
                          replace q214 := eq_true q214
                          have p215 : 0 ≤ (x3_1 : Int) := of_decide_eq_true (by first | (with_reducible assumption) | assumption)
                          have q215 : x3_1 < (l0.length : Int) := of_decide_eq_true (by first | (with_reducible assumption) | assumption)
                          obtain ⟨ad215, e215, hx215_0, hx215_1⟩ := at_T47 HR0.out x3_1 p215 q215
                          obtain rfl : ad213 = ad215 := (by injection e215)
                          replace p215 := eq_true p215
                          replace q215 := eq_true q215
                          have p216 : 0 ≤ (x3_1 : Int) := of_decide_eq_true (by first | (with_reducible assumption) | assumption)
                          have q216 : x3_1 < (l0.length : Int) := of_decide_eq_true (by first | (with_reducible assumption) | assumption)
                          obtain ⟨ad216, e216, hx216_0, hx216_1⟩ := at_T47 HR0.out x3_1 p216 q216
                          obtain rfl : ad213 = ad216 := (by injection e216)
                          replace p216 := eq_true p216
                          replace q216 := eq_true q216
                          have p217 : 0 ≤ ((ji9) : Int) := of_decide_eq_true (by first | (with_reducible assumption) | assumption)
                          have q217 : (ji9) < (l0.length : Int) := of_decide_eq_true (by first | (with_reducible assumption) | assumption)
                          obtain ⟨ad217, e217, hx217_0, hx217_1⟩ := at_T47 HR0.out (ji9) p217 q217
                          obtain rfl : ad213 = ad217 := (by injection e217)
                          replace p217 := eq_true p217
                          replace q217 := eq_true q217
                          go_wp2
                          repeat (go_quiet (fail); try go_wp2)
                          go_ret
                          exact ⟨by first | rfl | (simp; done) | (simp only [← hji9] <;> (first | rfl | simp)) | (simp [*]; done), by repeat (first | exact Drawn0.refl _ | apply Drawn0.step)⟩
                        · rw [if_neg c12] at H
                          have c12b0 : decide (((rd_T47 l0 x3_1).f0) ≤ ((rd_T47 l0 (ji9)).f1)) = false := decide_eq_false c12
                          clear c12
                          have H' := Aside0.mk H
                          clear H
                          have p213 : 0 ≤ (x3_1 : Int) := of_decide_eq_true (by first | (with_reducible assumption) | assumption)
                          have q213 : x3_1 < (l0.length : Int) := of_decide_eq_true (by first | (with_reducible assumption) | assumption)
                          obtain ⟨ad213, e213, hx213_0, hx213_1⟩ := at_T47 HR0.out x3_1 p213 q213
                          cases e213
                          replace p213 := eq_true p213
                          replace q213 := eq_true q213
                          have p214 : 0 ≤ (x3_1 : Int) := of_decide_eq_true (by first | (with_reducible assumption) | assumption)
                          have q214 : x3_1 < (l0.length : Int) := of_decide_eq_true (by first | (with_reducible assumption) | assumption)
                          obtain ⟨ad214, e214, hx214_0, hx214_1⟩ := at_T47 HR0.out x3_1 p214 q214
                          obtain rfl : ad213 = ad214 := (by injection e214)
                          replace p214 := eq_true p214
                          replace q214 := eq_true q214
                          have p215 : 0 ≤ (x3_1 : Int) := of_decide_eq_true (by first | (with_reducible assumption) | assumption)
                          have q215 : x3_1 < (l0.length : Int) := of_decide_eq_true (by first | (with_reducible assumption) | assumption)
                          obtain ⟨ad215, e215, hx215_0, hx215_1⟩ := at_T47 HR0.out x3_1 p215 q215
                          obtain rfl : ad213 = ad215 := (by injection e215)
                          replace p215 := eq_true p215
                          replace q215 := eq_true q215
                          have p216 : 0 ≤ (x3_1 : Int) := of_decide_eq_true (by first | (with_reducible assumption) | assumption)
                          have q216 : x3_1 < (l0.length : Int) := of_decide_eq_true (by first | (with_reducible assumption) | assumption)
                          obtain ⟨ad216, e216, hx216_0, hx216_1⟩ := at_T47 HR0.out x3_1 p216 q216
                          obtain rfl : ad213 = ad216 := (by injection e216)
                          replace p216 := eq_true p216
                          replace q216 := eq_true q216
                          have p217 : 0 ≤ ((ji9) : Int) := of_decide_eq_true (by first | (with_reducible assumption) | assumption)
                          have q217 : (ji9) < (l0.length : Int) := of_decide_eq_true (by first | (with_reducible assumption) | assumption)
                          obtain ⟨ad217, e217, hx217_0, hx217_1⟩ := at_T47 HR0.out (ji9) p217 q217
                          obtain rfl : ad213 = ad217 := (by injection e217)
                          replace p217 := eq_true p217
                          replace q217 := eq_true q217
                          go_wp2
                          repeat (go_quiet (fail); try go_wp2)
                          go_roundg k1
                          case measure => have := HK1.out; omega
                          case rel => exact ⟨(wrap64 (x3_1 + 1)), (by first | rfl | (simp; done) | (simp [*]; done)), H', ⟨by have := HK1.out; omega⟩, by repeat (first | exact Drawn0.refl _ | apply Drawn0.step)⟩
                      · rw [if_neg c11] at H
                        exact absurd H (by simp)
                    · rw [if_neg c10] at H
                      exact absurd H (by simp)
                  · rw [if_neg c8] at H
                    have c8b0 : decide (0 < x3_1) = false := decide_eq_false c8
                    clear c8
                    have H' := Aside0.mk H
                    clear H
                    have p213 : 0 ≤ (x3_1 : Int) := of_decide_eq_true (by first | (with_reducible assumption) | assumption)
                    have q213 : x3_1 < (l0.length : Int) := of_decide_eq_true (by first | (with_reducible assumption) | assumption)
                    obtain ⟨ad213, e213, hx213_0, hx213_1⟩ := at_T47 HR0.out x3_1 p213 q213
                    cases e213
                    replace p213 := eq_true p213
                    replace q213 := eq_true q213
                    have p214 : 0 ≤ (x3_1 : Int) := of_decide_eq_true (by first | (with_reducible assumption) | assumption)
                    have q214 : x3_1 < (l0.length : Int) := of_decide_eq_true (by first | (with_reducible assumption) | assumption)
                    obtain ⟨ad214, e214, hx214_0, hx214_1⟩ := at_T47 HR0.out x3_1 p214 q214
                    obtain rfl : ad213 = ad214 := (by injection e214)
                    replace p214 := eq_true p214
                    replace q214 := eq_true q214
                    have p215 : 0 ≤ (x3_1 : Int) := of_decide_eq_true (by first | (with_reducible assumption) | assumption)
                    have q215 : x3_1 < (l0.length : Int) := of_decide_eq_true (by first | (with_reducible assumption) | assumption)
                    obtain ⟨ad215, e215, hx215_0, hx215_1⟩ := at_T47 HR0.out x3_1 p215 q215
                    obtain rfl : ad213 = ad215 := (by injection e215)
                    replace p215 := eq_true p215
                    replace q215 := eq_true q215
                    go_wp2
                    repeat (go_quiet (fail); try go_wp2)
                    go_roundg k1
                    case measure => have := HK1.out; omega
                    case rel => exact ⟨(wrap64 (x3_1 + 1)), (by first | rfl | (simp; done) | (simp [*]; done)), H', ⟨by have := HK1.out; omega⟩, by repeat (first | exact Drawn0.refl _ | apply Drawn0.step)⟩
            · rw [if_neg c5] at H
              exact absurd H (by simp)
          · rw [if_neg c4] at H
            have c4b0 : decide (x3_1 < (l0.length : Int)) = false := decide_eq_false c4
            clear c4
            obtain rfl := Option.some.inj H
            go_wp2
            repeat (go_quiet (fail); try go_wp2)
            go_ret
            exact ⟨by first | rfl | (simp; done) | (simp [*]; done), by repeat (first | exact Drawn0.refl _ | apply Drawn0.step)⟩
end Go.Proofs.Ytphakdfholkbdaa.PFra
end
section
namespace Go.Proofs.Ytphakdfholkbdaa.PFra
open Go.RowKit Go.Proofs.YtphakdfholkbdaaW.PrintWords Go.Proofs.YtphakdfholkbdaaW.PrintLast Go.Proofs.YtphakdfholkbdaaW.PrintMore
set_option linter.unusedVariables false
set_option linter.unusedSimpArgs false
set_option maxRecDepth 100000
set_option maxHeartbeats 4000000
def hasV (os : List Nat) : List Value := [.bool (decide (1 ∈ os)), .bool (decide (2 ∈ os)), .bool (decide (3 ∈ os)), .bool (decide (4 ∈ os)), .bool (decide (5 ∈ os)), .bool (decide (6 ∈ os))]
def RFPost (os : List Nat) (w : World) (e : Ending) (w' : World) : Prop := e = .returned (.tuple #[.agg (hasV os).toArray, .bool true]) ∧ Below w.heap.size w w'
theorem rfields_0 (w : World) : Calls Try.prog 30 #[.int .i64 0] w (RFPost [] w) := by
  have hu := Try.underlying65
  go_enter Try.func30, Try.ntmps30
  go_wp2
  exact bodyPost_ret (v := .tuple #[.agg #[.bool false, .bool false, .bool false, .bool false, .bool false, .bool false], .bool true]) (by simp [results, Try.results30, go_sem]) rfl ⟨rfl, by repeat (first | (with_reducible exact Below.refl _ _) | (with_reducible refine below_set ?_ (by simp)) | (with_reducible apply pw_below_drewN) | (with_reducible apply below_alloc))⟩
theorem rfields_1 (w : World) : Calls Try.prog 30 #[.int .i64 1] w (RFPost [] w) := by
  have hu := Try.underlying65
  go_enter Try.func30, Try.ntmps30
  go_wp2
  exact bodyPost_ret (v := .tuple #[.agg #[.bool false, .bool false, .bool false, .bool false, .bool false, .bool false], .bool true]) (by simp [results, Try.results30, go_sem]) rfl ⟨rfl, by repeat (first | (with_reducible exact Below.refl _ _) | (with_reducible refine below_set ?_ (by simp)) | (with_reducible apply pw_below_drewN) | (with_reducible apply below_alloc))⟩
theorem rfields_30 (w : World) : Calls Try.prog 30 #[.int .i64 30] w (RFPost [] w) := by
  have hu := Try.underlying65
  go_enter Try.func30, Try.ntmps30
  go_wp2
  exact bodyPost_ret (v := .tuple #[.agg #[.bool false, .bool false, .bool false, .bool false, .bool false, .bool false], .bool true]) (by simp [results, Try.results30, go_sem]) rfl ⟨rfl, by repeat (first | (with_reducible exact Below.refl _ _) | (with_reducible refine below_set ?_ (by simp)) | (with_reducible apply pw_below_drewN) | (with_reducible apply below_alloc))⟩
theorem rfields_2 (w : World) : Calls Try.prog 30 #[.int .i64 2] w (RFPost [5] w) := by
  have hu := Try.underlying65
  go_enter Try.func30, Try.ntmps30
  go_wp2
  exact bodyPost_ret (v := .tuple #[.agg #[.bool false, .bool false, .bool false, .bool false, .bool true, .bool false], .bool true]) (by simp [results, Try.results30, go_sem]) rfl ⟨rfl, by repeat (first | (with_reducible exact Below.refl _ _) | (with_reducible refine below_set ?_ (by simp)) | (with_reducible apply pw_below_drewN) | (with_reducible apply below_alloc))⟩
theorem rfields_3 (w : World) : Calls Try.prog 30 #[.int .i64 3] w (RFPost [5, 6] w) := by
  have hu := Try.underlying65
  go_enter Try.func30, Try.ntmps30
  go_wp2
  exact bodyPost_ret (v := .tuple #[.agg #[.bool false, .bool false, .bool false, .bool false, .bool true, .bool true], .bool true]) (by simp [results, Try.results30, go_sem]) rfl ⟨rfl, by repeat (first | (with_reducible exact Below.refl _ _) | (with_reducible refine below_set ?_ (by simp)) | (with_reducible apply pw_below_drewN) | (with_reducible apply below_alloc))⟩
theorem rfields_4 (w : World) : Calls Try.prog 30 #[.int .i64 4] w (RFPost [1, 4, 3] w) := by
  have hu := Try.underlying65
  go_enter Try.func30, Try.ntmps30
  go_wp2
  exact bodyPost_ret (v := .tuple #[.agg #[.bool true, .bool false, .bool true, .bool true, .bool false, .bool false], .bool true]) (by simp [results, Try.results30, go_sem]) rfl ⟨rfl, by repeat (first | (with_reducible exact Below.refl _ _) | (with_reducible refine below_set ?_ (by simp)) | (with_reducible apply pw_below_drewN) | (with_reducible apply below_alloc))⟩
theorem rfields_5 (w : World) : Calls Try.prog 30 #[.int .i64 5] w (RFPost [1, 4] w) := by
  have hu := Try.underlying65
  go_enter Try.func30, Try.ntmps30
  go_wp2
  exact bodyPost_ret (v := .tuple #[.agg #[.bool true, .bool false, .bool false, .bool true, .bool false, .bool false], .bool true]) (by simp [results, Try.results30, go_sem]) rfl ⟨rfl, by repeat (first | (with_reducible exact Below.refl _ _) | (with_reducible refine below_set ?_ (by simp)) | (with_reducible apply pw_below_drewN) | (with_reducible apply below_alloc))⟩
theorem rfields_6 (w : World) : Calls Try.prog 30 #[.int .i64 6] w (RFPost [3, 2, 1] w) := by
  have hu := Try.underlying65
  go_enter Try.func30, Try.ntmps30
  go_wp2
  exact bodyPost_ret (v := .tuple #[.agg #[.bool true, .bool true, .bool true, .bool false, .bool false, .bool false], .bool true]) (by simp [results, Try.results30, go_sem]) rfl ⟨rfl, by repeat (first | (with_reducible exact Below.refl _ _) | (with_reducible refine below_set ?_ (by simp)) | (with_reducible apply pw_below_drewN) | (with_reducible apply below_alloc))⟩
theorem rfields_14 (w : World) : Calls Try.prog 30 #[.int .i64 14] w (RFPost [1, 2] w) := by
  have hu := Try.underlying65
  go_enter Try.func30, Try.ntmps30
  go_wp2
  exact bodyPost_ret (v := .tuple #[.agg #[.bool true, .bool true, .bool false, .bool false, .bool false, .bool false], .bool true]) (by simp [results, Try.results30, go_sem]) rfl ⟨rfl, by repeat (first | (with_reducible exact Below.refl _ _) | (with_reducible refine below_set ?_ (by simp)) | (with_reducible apply pw_below_drewN) | (with_reducible apply below_alloc))⟩
theorem rfields_16 (w : World) : Calls Try.prog 30 #[.int .i64 16] w (RFPost [3] w) := by
  have hu := Try.underlying65
  go_enter Try.func30, Try.ntmps30
  go_wp2
  exact bodyPost_ret (v := .tuple #[.agg #[.bool false, .bool false, .bool true, .bool false, .bool false, .bool false], .bool true]) (by simp [results, Try.results30, go_sem]) rfl ⟨rfl, by repeat (first | (with_reducible exact Below.refl _ _) | (with_reducible refine below_set ?_ (by simp)) | (with_reducible apply pw_below_drewN) | (with_reducible apply below_alloc))⟩
theorem rfields_18 (w : World) : Calls Try.prog 30 #[.int .i64 18] w (RFPost [3] w) := by
  have hu := Try.underlying65
  go_enter Try.func30, Try.ntmps30
  go_wp2
  exact bodyPost_ret (v := .tuple #[.agg #[.bool false, .bool false, .bool true, .bool false, .bool false, .bool false], .bool true]) (by simp [results, Try.results30, go_sem]) rfl ⟨rfl, by repeat (first | (with_reducible exact Below.refl _ _) | (with_reducible refine below_set ?_ (by simp)) | (with_reducible apply pw_below_drewN) | (with_reducible apply below_alloc))⟩
theorem rfields_20 (w : World) : Calls Try.prog 30 #[.int .i64 20] w (RFPost [3] w) := by
  have hu := Try.underlying65
  go_enter Try.func30, Try.ntmps30
  go_wp2
  exact bodyPost_ret (v := .tuple #[.agg #[.bool false, .bool false, .bool true, .bool false, .bool false, .bool false], .bool true]) (by simp [results, Try.results30, go_sem]) rfl ⟨rfl, by repeat (first | (with_reducible exact Below.refl _ _) | (with_reducible refine below_set ?_ (by simp)) | (with_reducible apply pw_below_drewN) | (with_reducible apply below_alloc))⟩
theorem rfields_17 (w : World) : Calls Try.prog 30 #[.int .i64 17] w (RFPost [1, 3] w) := by
  have hu := Try.underlying65
  go_enter Try.func30, Try.ntmps30
  go_wp2
  exact bodyPost_ret (v := .tuple #[.agg #[.bool true, .bool false, .bool true, .bool false, .bool false, .bool false], .bool true]) (by simp [results, Try.results30, go_sem]) rfl ⟨rfl, by repeat (first | (with_reducible exact Below.refl _ _) | (with_reducible refine below_set ?_ (by simp)) | (with_reducible apply pw_below_drewN) | (with_reducible apply below_alloc))⟩
theorem rfields_21 (w : World) : Calls Try.prog 30 #[.int .i64 21] w (RFPost [1, 3] w) := by
  have hu := Try.underlying65
  go_enter Try.func30, Try.ntmps30
  go_wp2
  exact bodyPost_ret (v := .tuple #[.agg #[.bool true, .bool false, .bool true, .bool false, .bool false, .bool false], .bool true]) (by simp [results, Try.results30, go_sem]) rfl ⟨rfl, by repeat (first | (with_reducible exact Below.refl _ _) | (with_reducible refine below_set ?_ (by simp)) | (with_reducible apply pw_below_drewN) | (with_reducible apply below_alloc))⟩
theorem rfields_28 (w : World) : Calls Try.prog 30 #[.int .i64 28] w (RFPost [4] w) := by
  have hu := Try.underlying65
  go_enter Try.func30, Try.ntmps30
  go_wp2
  exact bodyPost_ret (v := .tuple #[.agg #[.bool false, .bool false, .bool false, .bool true, .bool false, .bool false], .bool true]) (by simp [results, Try.results30, go_sem]) rfl ⟨rfl, by repeat (first | (with_reducible exact Below.refl _ _) | (with_reducible refine below_set ?_ (by simp)) | (with_reducible apply pw_below_drewN) | (with_reducible apply below_alloc))⟩
theorem rfields_no (a0 : Int) (w : World) (hn : fOffs a0 = none) : Calls Try.prog 30 #[.int .i64 a0] w fun e w' => ∃ v, e = .returned (.tuple #[.agg v, .bool false]) ∧ v = (hasV []).toArray ∧ Below w.heap.size w w' := by
  have hu := Try.underlying65
  have h : a0 ≠ 0 ∧ a0 ≠ 1 ∧ a0 ≠ 30 ∧ a0 ≠ 2 ∧ a0 ≠ 3 ∧ a0 ≠ 4 ∧ a0 ≠ 5 ∧ a0 ≠ 6 ∧ a0 ≠ 14 ∧ a0 ≠ 16 ∧ a0 ≠ 18 ∧ a0 ≠ 20 ∧ a0 ≠ 17 ∧ a0 ≠ 21 ∧ a0 ≠ 28 := by
    unfold fOffs at hn
    repeat (first | omega | (split at hn; (· cases hn)))
  clear hn
  obtain ⟨n0, n1, n30, n2, n3, n4, n5, n6, n14, n16, n18, n20, n17, n21, n28⟩ := h
  have e0 : (a0 == 0) = false := beq_eq_false_iff_ne.mpr n0
  have e1 : (a0 == 1) = false := beq_eq_false_iff_ne.mpr n1
  have e30 : (a0 == 30) = false := beq_eq_false_iff_ne.mpr n30
  have e2 : (a0 == 2) = false := beq_eq_false_iff_ne.mpr n2
  have e3 : (a0 == 3) = false := beq_eq_false_iff_ne.mpr n3
  have e4 : (a0 == 4) = false := beq_eq_false_iff_ne.mpr n4
  have e5 : (a0 == 5) = false := beq_eq_false_iff_ne.mpr n5
  have e6 : (a0 == 6) = false := beq_eq_false_iff_ne.mpr n6
  have e14 : (a0 == 14) = false := beq_eq_false_iff_ne.mpr n14
  have e16 : (a0 == 16) = false := beq_eq_false_iff_ne.mpr n16
  have e18 : (a0 == 18) = false := beq_eq_false_iff_ne.mpr n18
  have e20 : (a0 == 20) = false := beq_eq_false_iff_ne.mpr n20
  have e17 : (a0 == 17) = false := beq_eq_false_iff_ne.mpr n17
  have e21 : (a0 == 21) = false := beq_eq_false_iff_ne.mpr n21
  have e28 : (a0 == 28) = false := beq_eq_false_iff_ne.mpr n28
  clear n0 n1 n30 n2 n3 n4 n5 n6 n14 n16 n18 n20 n17 n21 n28
  go_enter Try.func30, Try.ntmps30
  go_wp2
  exact bodyPost_ret (v := .tuple #[.agg #[.bool false, .bool false, .bool false, .bool false, .bool false, .bool false], .bool false]) (by simp [results, Try.results30, go_sem]) rfl ⟨_, rfl, rfl, by repeat (first | (with_reducible exact Below.refl _ _) | (with_reducible refine below_set ?_ (by simp)) | (with_reducible apply pw_below_drewN) | (with_reducible apply below_alloc))⟩
theorem rfieldsC (a0 : Int) (os : List Nat) (w : World) (hs : fOffs a0 = some os) : Calls Try.prog 30 #[.int .i64 a0] w (RFPost os w) := by
  unfold fOffs at hs
  split at hs
  · rename_i h
    obtain rfl := Option.some.inj hs
    rcases h with rfl | rfl | rfl
    · exact rfields_0 w
    · exact rfields_1 w
    · exact rfields_30 w
  split at hs
  · rename_i h
    obtain rfl := Option.some.inj hs
    rcases h with rfl
    exact rfields_2 w
  split at hs
  · rename_i h
    obtain rfl := Option.some.inj hs
    rcases h with rfl
    exact rfields_3 w
  split at hs
  · rename_i h
    obtain rfl := Option.some.inj hs
    rcases h with rfl
    exact rfields_4 w
  split at hs
  · rename_i h
    obtain rfl := Option.some.inj hs
    rcases h with rfl
    exact rfields_5 w
  split at hs
  · rename_i h
    obtain rfl := Option.some.inj hs
    rcases h with rfl
    exact rfields_6 w
  split at hs
  · rename_i h
    obtain rfl := Option.some.inj hs
    rcases h with rfl
    exact rfields_14 w
  split at hs
  · rename_i h
    obtain rfl := Option.some.inj hs
    rcases h with rfl | rfl | rfl
    · exact rfields_16 w
    · exact rfields_18 w
    · exact rfields_20 w
  split at hs
  · rename_i h
    obtain rfl := Option.some.inj hs
    rcases h with rfl | rfl
    · exact rfields_17 w
    · exact rfields_21 w
  split at hs
  · rename_i h
    obtain rfl := Option.some.inj hs
    rcases h with rfl
    exact rfields_28 w
  cases hs
def wigwagref05_Check.f (k : Nat) (a0 a1 a2 a3 a4 a5 a6 : Int) (a7 : Bool) (l8 : List Int) (l9 : List S47) : Option Int :=
  if W64 a1 ∧ W64 a2 ∧ W64 a3 ∧ W64 a4 ∧ W64 a5 ∧ W64 a6 ∧ l8.length < 1000000 ∧ l9.length < 1000000 then
    match fOffs a0 with
    | none => some 50
    | some os => if uBad os a1 a2 a3 a4 a5 a6 = true then some 50
      else (wigwagref05_spans.f k l9).bind fun s => if ((a0 == 2 || a0 == 3) != s) = true ∨ (a0 == 2 || a0 == 3) = false ∧ 0 < l9.length then some 50 else some (uTail a0 a2 a7 l8.length)
  else none
theorem bad_none {os : List Nat} {a1 a2 a3 a4 a5 a6 : Int} (h : ∀ j, j < 6 → badF os (j + 1) (selA (j + 1) a1 a2 a3 a4 a5 a6) = false) : uBad os a1 a2 a3 a4 a5 a6 = false := by
  have h0 := h 0 (by omega); have h1 := h 1 (by omega); have h2 := h 2 (by omega); have h3 := h 3 (by omega); have h4 := h 4 (by omega); have h5 := h 5 (by omega)
  simp [selA] at h0 h1 h2 h3 h4 h5
  simp [uBad, h0, h1, h2, h3, h4, h5]
theorem bad_some {os : List Nat} {a1 a2 a3 a4 a5 a6 : Int} {j : Nat} (hj : j < 6) (h : badF os (j + 1) (selA (j + 1) a1 a2 a3 a4 a5 a6) = true) : uBad os a1 a2 a3 a4 a5 a6 = true := by
  have : j = 0 ∨ j = 1 ∨ j = 2 ∨ j = 3 ∨ j = 4 ∨ j = 5 := by omega
  rcases this with rfl | rfl | rfl | rfl | rfl | rfl <;> (simp [selA] at h; simp [uBad, h])
theorem sel_at {a1 a2 a3 a4 a5 a6 : Int} {j : Nat} (hj : j < 6) : ([.int .u64 a1, .int .u64 a2, .int .u64 a3, .int .u64 a4, .int .u64 a5, .int .u64 a6] : List Value)[j]? = some (.int .u64 (selA (j + 1) a1 a2 a3 a4 a5 a6)) := by
  have : j = 0 ∨ j = 1 ∨ j = 2 ∨ j = 3 ∨ j = 4 ∨ j = 5 := by omega
  rcases this with rfl | rfl | rfl | rfl | rfl | rfl <;> simp [selA]
theorem has_at {os : List Nat} {j : Nat} (hj : j < 6) : ([.bool (decide (1 ∈ os)), .bool (decide (2 ∈ os)), .bool (decide (3 ∈ os)), .bool (decide (4 ∈ os)), .bool (decide (5 ∈ os)), .bool (decide (6 ∈ os))] : List Value)[j]? = some (.bool (decide (j + 1 ∈ os))) := by
  have : j = 0 ∨ j = 1 ∨ j = 2 ∨ j = 3 ∨ j = 4 ∨ j = 5 := by omega
  rcases this with rfl | rfl | rfl | rfl | rfl | rfl <;> simp
theorem selA_w {a1 a2 a3 a4 a5 a6 : Int} (j : Nat) (W1 : W64 a1) (W2 : W64 a2) (W3 : W64 a3) (W4 : W64 a4) (W5 : W64 a5) (W6 : W64 a6) : W64 (selA j a1 a2 a3 a4 a5 a6) := by
  unfold selA
  repeat (first | assumption | split)
theorem wigwagref05_Check.no (a0 a1 a2 a3 a4 a5 a6 : Int) (a7 : Bool) (A8 : Option Addr) (c8 : Nat) (l8 : List Int) (A9 : Option Addr) (c9 : Nat) (l9 : List S47) (w : World) (h0 : fOffs a0 = none) :
    Calls Try.prog 16 #[.agg #[.int .i64 a0, .int .u64 a1, .int .u64 a2, .int .u64 a3, .int .u64 a4, .int .u64 a5, .int .u64 a6, .bool a7, .slice A8 l8.length c8, .slice A9 l9.length c9]] w fun e w' => e = .returned (.int .i64 50) ∧ Below w.heap.size w w' := by
  have hu := Try.underlying27
  have hu65 := Try.underlying65
  have HB := Since.refl w
  have HS := HB
  go_enter Try.func16, Try.ntmps16
  go_wp2_with (first | (refine seg_new rfl (N := 1) rfl [.int .i64 a0, .int .u64 a1, .int .u64 a2, .int .u64 a3, .int .u64 a4, .int .u64 a5, .int .u64 a6, .bool a7, .slice A8 l8.length c8, .slice A9 l9.length c9] 27 ?hr ?_; (case hr => rfl); intro g0 hg w1 hn hl; have GEg0 := ge_new HS hg; clear hg; replace HS := HS.below hl; have Bg0 := hn; clear hl hn; have kg0_0 := Bg0.at 0 rfl) | ((go_at_call 30); (with_reducible refine (rfields_no a0 _ h0).mono ?_); rintro e w2 ⟨v0, rfl, rfl, hl⟩; replace Bg0 := Bg0.below hl; replace HS := HS.below hl; clear hl; replace kg0_0 := Bg0.at 0 rfl) | (refine seg_new rfl (N := 3) rfl [.bool false, .bool false, .bool false, .bool false, .bool false, .bool false] 65 ?hr ?_; (case hr => rfl); intro g1 hg w3 hn hl; have Ng1_g0 := ne_new Bg0 hg; have GEg1 := ge_new HS hg; clear hg; replace Bg0 := Bg0.below hl; replace HS := HS.below hl; have Bg1 := hn; clear hl hn; replace kg0_0 := Bg0.at 0 rfl) | (refine seg_store rfl rfl 65 (.tmp 3) (.tmp 13) rfl g1 0 [.bool (decide (1 ∈ ([] : List Nat))), .bool (decide (2 ∈ ([] : List Nat))), .bool (decide (3 ∈ ([] : List Nat))), .bool (decide (4 ∈ ([] : List Nat))), .bool (decide (5 ∈ ([] : List Nat))), .bool (decide (6 ∈ ([] : List Nat)))] [.bool (decide (1 ∈ ([] : List Nat))), .bool (decide (2 ∈ ([] : List Nat))), .bool (decide (3 ∈ ([] : List Nat))), .bool (decide (4 ∈ ([] : List Nat))), .bool (decide (5 ∈ ([] : List Nat))), .bool (decide (6 ∈ ([] : List Nat)))] (.agg #[.bool (decide (1 ∈ ([] : List Nat))), .bool (decide (2 ∈ ([] : List Nat))), .bool (decide (3 ∈ ([] : List Nat))), .bool (decide (4 ∈ ([] : List Nat))), .bool (decide (5 ∈ ([] : List Nat))), .bool (decide (6 ∈ ([] : List Nat)))]) rfl rfl rfl Bg1 (by kernel_rfl) (nle rfl) rfl rfl ?_; intro w4 hn hw; replace Bg0 := Bg0.grown hw Ng1_g0.symm; replace HS := HS.grown hw GEg1; replace Bg1 := hn; clear hw; replace kg0_0 := Bg0.at 0 rfl; clear hn))
  all_goals (go_ret; exact ⟨rfl, HS.out⟩)
theorem wigwagref05_Check.way (k : Nat) (a0 a1 a2 a3 a4 a5 a6 : Int) (a7 : Bool) (A8 : Option Addr) (c8 : Nat) (l8 : List Int) (A9 : Option Addr) (c9 : Nat) (l9 : List S47) (w : World) (r : Int) (os : List Nat) (ho : fOffs a0 = some os) (W1 : W64 a1) (W2 : W64 a2) (W3 : W64 a3) (W4 : W64 a4) (W5 : W64 a5) (W6 : W64 a6) (h8 : l8.length < 1000000) (h9 : l9.length < 1000000) (hr9 : Kd.C k47 w A9 l9.length l9) (hc9 : l9.length ≤ c9) (h : Aside0 ((if uBad os a1 a2 a3 a4 a5 a6 = true then some 50
      else (wigwagref05_spans.f k l9).bind fun s => if ((a0 == 2 || a0 == 3) != s) = true ∨ (a0 == 2 || a0 == 3) = false ∧ 0 < l9.length then some 50 else some (uTail a0 a2 a7 l8.length)) = some r)) :
    Calls Try.prog 16 #[.agg #[.int .i64 a0, .int .u64 a1, .int .u64 a2, .int .u64 a3, .int .u64 a4, .int .u64 a5, .int .u64 a6, .bool a7, .slice A8 l8.length c8, .slice A9 l9.length c9]] w fun e w' => e = .returned (.int .i64 r) ∧ Below w.heap.size w w' := by
  have hu27 := Try.underlying27
  have hu65 := Try.underlying65
  have hu68 := Try.underlying68
  have HS := Since.refl w
  have HR9 := Aside0.mk hr9
  clear hr9
  go_enter Try.func16, Try.ntmps16
  go_wp2_with (first | (refine seg_new rfl (N := 1) rfl [.int .i64 a0, .int .u64 a1, .int .u64 a2, .int .u64 a3, .int .u64 a4, .int .u64 a5, .int .u64 a6, .bool a7, .slice A8 l8.length c8, .slice A9 l9.length c9] 27 ?hr ?_; (case hr => rfl); intro g0 hg w1 hn hl; have GEg0 := ge_new HS hg; clear hg; replace HS := HS.below hl; have Bg0 := hn; clear hl hn; have kg0_0 := Bg0.at 0 rfl) | ((go_at_call 30); (with_reducible refine (rfieldsC a0 os _ ho).mono ?_); rintro e w2 ⟨rfl, hl⟩; replace Bg0 := Bg0.below hl; replace HS := HS.below hl; clear hl; clear kg0_0; have kg0_1 := Bg0.at 1 rfl; have kg0_2 := Bg0.at 2 rfl; have kg0_3 := Bg0.at 3 rfl; have kg0_4 := Bg0.at 4 rfl; have kg0_5 := Bg0.at 5 rfl; have kg0_6 := Bg0.at 6 rfl) | (refine seg_new rfl (N := 3) rfl [.bool false, .bool false, .bool false, .bool false, .bool false, .bool false] 65 ?hr ?_; (case hr => rfl); intro g1 hg w3 hn hl; have Ng1_g0 := ne_new Bg0 hg; have GEg1 := ge_new HS hg; clear hg; replace Bg0 := Bg0.below hl; replace HS := HS.below hl; have Bg1 := hn; clear hl hn; replace kg0_1 := Bg0.at 1 rfl; replace kg0_2 := Bg0.at 2 rfl; replace kg0_3 := Bg0.at 3 rfl; replace kg0_4 := Bg0.at 4 rfl; replace kg0_5 := Bg0.at 5 rfl; replace kg0_6 := Bg0.at 6 rfl) | (refine seg_store rfl rfl 65 (.tmp 3) (.tmp 13) rfl g1 0 [.bool (decide (1 ∈ os)), .bool (decide (2 ∈ os)), .bool (decide (3 ∈ os)), .bool (decide (4 ∈ os)), .bool (decide (5 ∈ os)), .bool (decide (6 ∈ os))] [.bool (decide (1 ∈ os)), .bool (decide (2 ∈ os)), .bool (decide (3 ∈ os)), .bool (decide (4 ∈ os)), .bool (decide (5 ∈ os)), .bool (decide (6 ∈ os))] (.agg #[.bool (decide (1 ∈ os)), .bool (decide (2 ∈ os)), .bool (decide (3 ∈ os)), .bool (decide (4 ∈ os)), .bool (decide (5 ∈ os)), .bool (decide (6 ∈ os))]) rfl rfl rfl Bg1 (by kernel_rfl) (nle rfl) rfl rfl ?_; intro w4 hn hw; replace Bg0 := Bg0.grown hw Ng1_g0.symm; replace HS := HS.grown hw GEg1; replace Bg1 := hn; clear hw; replace kg0_1 := Bg0.at 1 rfl; replace kg0_2 := Bg0.at 2 rfl; replace kg0_3 := Bg0.at 3 rfl; replace kg0_4 := Bg0.at 4 rfl; replace kg0_5 := Bg0.at 5 rfl; replace kg0_6 := Bg0.at 6 rfl; clear hn) | (refine seg_new rfl (N := 5) rfl [.int .u64 0, .int .u64 0, .int .u64 0, .int .u64 0, .int .u64 0, .int .u64 0] 68 ?hr ?_; (case hr => rfl); intro g2 hg w5 hn hl; have Ng2_g0 := ne_new Bg0 hg; have Ng2_g1 := ne_new Bg1 hg; have GEg2 := ge_new HS hg; clear hg; replace Bg0 := Bg0.below hl; replace Bg1 := Bg1.below hl; replace HS := HS.below hl; have Bg2 := hn; clear hl hn; replace kg0_1 := Bg0.at 1 rfl; replace kg0_2 := Bg0.at 2 rfl; replace kg0_3 := Bg0.at 3 rfl; replace kg0_4 := Bg0.at 4 rfl; replace kg0_5 := Bg0.at 5 rfl; replace kg0_6 := Bg0.at 6 rfl) | (refine seg_store rfl rfl 68 (.tmp 5) (.tmp 29) rfl g2 0 [.int .u64 a1, .int .u64 a2, .int .u64 a3, .int .u64 a4, .int .u64 a5, .int .u64 a6] [.int .u64 a1, .int .u64 a2, .int .u64 a3, .int .u64 a4, .int .u64 a5, .int .u64 a6] (.agg #[.int .u64 a1, .int .u64 a2, .int .u64 a3, .int .u64 a4, .int .u64 a5, .int .u64 a6]) rfl rfl rfl Bg2 (by kernel_rfl) (nle rfl) rfl rfl ?_; intro w6 hn hw; replace Bg0 := Bg0.grown hw Ng2_g0.symm; replace Bg1 := Bg1.grown hw Ng2_g1.symm; replace HS := HS.grown hw GEg2; replace Bg2 := hn; clear hw; replace kg0_1 := Bg0.at 1 rfl; replace kg0_2 := Bg0.at 2 rfl; replace kg0_3 := Bg0.at 3 rfl; replace kg0_4 := Bg0.at 4 rfl; replace kg0_5 := Bg0.at 5 rfl; replace kg0_6 := Bg0.at 6 rfl; clear hn))
  go_loopw [6] (fun i wr => ∃ q : Nat, i = .int .i64 q ∧ q ≤ 6 ∧ (∀ j, j < q → badF os (j + 1) (selA (j + 1) a1 a2 a3 a4 a5 a6) = false) ∧ Blk wr g0 27 [.int .i64 a0, .int .u64 a1, .int .u64 a2, .int .u64 a3, .int .u64 a4, .int .u64 a5, .int .u64 a6, .bool a7, .slice A8 l8.length c8, .slice A9 l9.length c9] ∧ Blk wr g1 65 [.bool (decide (1 ∈ os)), .bool (decide (2 ∈ os)), .bool (decide (3 ∈ os)), .bool (decide (4 ∈ os)), .bool (decide (5 ∈ os)), .bool (decide (6 ∈ os))] ∧ Blk wr g2 68 [.int .u64 a1, .int .u64 a2, .int .u64 a3, .int .u64 a4, .int .u64 a5, .int .u64 a6] ∧ Since w wr) (fun i _ => 6 - (intOf i).toNat)
  case atStart => exact ⟨0, rfl, by omega, fun j hj => absurd hj (by omega), Bg0, Bg1, Bg2, HS⟩
  case round =>
    clear kg0_1 kg0_2 kg0_3 kg0_4 kg0_5 kg0_6 Bg0 Bg1 Bg2 HS
    obtain ⟨q, rfl, hq, hle, Bg0, Bg1, Bg2, HS⟩ := hrel
    by_cases hlt : q < 6
    · have k1 : wr.cell? ⟨g2, q, none⟩ = some (.int .u64 (selA (q + 1) a1 a2 a3 a4 a5 a6)) := (Bg2.cell q).trans (sel_at hlt)
      have k2 : wr.cell? ⟨g1, q, none⟩ = some (.bool (decide (q + 1 ∈ os))) := (Bg1.cell q).trans (has_at hlt)
      have wv := selA_w (q + 1) W1 W2 W3 W4 W5 W6
      have hb1 : badF os (q + 1) (selA (q + 1) a1 a2 a3 a4 a5 a6) = true → uBad os a1 a2 a3 a4 a5 a6 = true := fun hb => bad_some hlt hb
      have hb2 : badF os (q + 1) (selA (q + 1) a1 a2 a3 a4 a5 a6) = false → ∀ j, j < q + 1 → badF os (j + 1) (selA (j + 1) a1 a2 a3 a4 a5 a6) = false := fun hb j hj => by
        rcases Nat.lt_or_ge j q with hh | hh
        · exact hle j hh
        · obtain rfl : j = q := by omega
          exact hb
      unfold badF at hb1
      have hb2' : ((if q + 1 ∈ os then decide (4611686018427387903 < selA (q + 1) a1 a2 a3 a4 a5 a6) else selA (q + 1) a1 a2 a3 a4 a5 a6 != 0) = false) → ∀ j, j < q + 1 → badF os (j + 1) (selA (j + 1) a1 a2 a3 a4 a5 a6) = false := hb2
      have hif : ∀ (x y : Bool), (if q + 1 ∈ os then x else y) = (if decide (q + 1 ∈ os) = true then x else y) := fun x y => by simp
      rw [hif] at hb1 hb2'
      generalize selA (q + 1) a1 a2 a3 a4 a5 a6 = v at k1 wv hb1 hb2'
      generalize decide (q + 1 ∈ os) = b at k2 hb1 hb2'
      have T1 := Aside0.mk hb1; have T2 := Aside0.mk hb2'
      clear hb1 hb2' hb2 hle hif
      have bad : (if b = true then decide (4611686018427387903 < v) else v != 0) = true → r = 50 := fun hb => by
        have := h.out; rw [if_pos (T1.out hb)] at this; exact (Option.some.inj this).symm
      have B := Aside0.mk bad
      clear bad
      by_cases hv : 4611686018427387903 < v
      · go_wp2
        go_ret
        exact ⟨ret_int (B.out (by split <;> simp <;> omega)).symm, HS.out⟩
      · cases b with
        | true =>
          go_wp2
          go_roundw
          case rel => exact ⟨q + 1, by go_num, by omega, T2.out (by simp; omega), Bg0, Bg1, Bg2, HS⟩
          case measure => simp [intOf]; omega
        | false =>
          by_cases hz : v = 0
          · have hz' : (v != 0) = false := by simp [hz]
            clear hz
            go_wp2
            go_roundw
            case rel => exact ⟨q + 1, by go_num, by omega, T2.out (by simpa using hz'), Bg0, Bg1, Bg2, HS⟩
            case measure => simp [intOf]; omega
          · have hz' : (v != 0) = true := by simp [hz]
            clear hz
            go_wp2
            go_ret
            exact ⟨ret_int (B.out (by simpa using hz')).symm, HS.out⟩
    · obtain rfl : q = 6 := by omega
      have hb := bad_none hle
      have H := h.out; rw [hb] at H; simp only [Bool.false_eq_true, if_false] at H
      clear h hb hle ho
      obtain ⟨s, hs, H⟩ := Option.bind_eq_some_iff.1 H
      have kf0 := Bg0.at 0 rfl; have kf2 := Bg0.at 2 rfl; have kf7 := Bg0.at 7 rfl; have kf8 := Bg0.at 8 rfl; have kf9 := Bg0.at 9 rfl
      have HR := Kd.C_below HR9.out HS.out
      have HB := HS
      by_cases hak : a0 = 2 ∨ a0 = 3
      · have hn14 : (a0 != 14) = true := by rcases hak with rfl | rfl <;> rfl
        have hkk : (a0 == 2) = true ∨ ((a0 == 2) = false ∧ (a0 == 3) = true) := by rcases hak with rfl | rfl <;> simp
        have hor : (a0 == 2 || a0 == 3) = true := by rcases hak with rfl | rfl <;> rfl
        rw [hor] at H
        clear hak hor
        cases s with
        | false =>
          obtain rfl : r = 50 := by simpa using H.symm
          clear H
          rcases hkk with e2 | ⟨e2, e3⟩
          all_goals
            go_wp2_with ((go_at_call 31); with_reducible refine (wigwagref05_spans.calls k A9 c9 l9 false _ HR hc9 hs).mono ?_; rintro e w6 ⟨rfl, hd⟩; have hl := hd.below; clear hd; replace HB := HB.below hl; replace Bg0 := Bg0.below hl; clear kf0 kf2 kf7 kf8 kf9; have kf0 := Bg0.at 0 rfl; have kf2 := Bg0.at 2 rfl; have kf7 := Bg0.at 7 rfl; have kf8 := Bg0.at 8 rfl; have kf9 := Bg0.at 9 rfl; clear hl)
            go_ret
            exact ⟨rfl, HB.out⟩
        | true =>
          obtain rfl : uTail a0 a2 a7 l8.length = r := by simpa using H
          clear H
          rcases hkk with e2 | ⟨e2, e3⟩
          all_goals
            go_wp2_with ((go_at_call 31); with_reducible refine (wigwagref05_spans.calls k A9 c9 l9 true _ HR hc9 hs).mono ?_; rintro e w6 ⟨rfl, hd⟩; have hl := hd.below; clear hd; replace HB := HB.below hl; replace Bg0 := Bg0.below hl; clear kf0 kf2 kf7 kf8 kf9; have kf0 := Bg0.at 0 rfl; have kf2 := Bg0.at 2 rfl; have kf7 := Bg0.at 7 rfl; have kf8 := Bg0.at 8 rfl; have kf9 := Bg0.at 9 rfl; clear hl)
            all_goals (go_ret; exact ⟨ret_int (by first | exact tail_a hn14 (.inl ‹_›) | exact tail_a hn14 (.inr ‹_›) | exact tail_b ‹_› | exact tail_c ‹_› ‹_› ‹_› | exact tail_b (by omega) | exact tail_d hn14 (by omega) | exact tail_c ‹_› ‹_› (by omega)), HB.out⟩)
      · have e2 : (a0 == 2) = false := by simp; omega
        have e3 : (a0 == 3) = false := by simp; omega
        have hor : (a0 == 2 || a0 == 3) = false := by simp [e2, e3]
        rw [hor] at H
        clear hak hor
        cases s with
        | true =>
          obtain rfl : r = 50 := by simpa using H.symm
          clear H
          go_wp2_with ((go_at_call 31); with_reducible refine (wigwagref05_spans.calls k A9 c9 l9 true _ HR hc9 hs).mono ?_; rintro e w6 ⟨rfl, hd⟩; have hl := hd.below; clear hd; replace HB := HB.below hl; replace Bg0 := Bg0.below hl; clear kf0 kf2 kf7 kf8 kf9; have kf0 := Bg0.at 0 rfl; have kf2 := Bg0.at 2 rfl; have kf7 := Bg0.at 7 rfl; have kf8 := Bg0.at 8 rfl; have kf9 := Bg0.at 9 rfl; clear hl)
          go_ret
          exact ⟨rfl, HB.out⟩
        | false =>
          by_cases hl9 : 0 < l9.length
          · obtain rfl : r = 50 := by rw [if_pos (.inr ⟨rfl, hl9⟩)] at H; exact (Option.some.inj H).symm
            clear H
            go_wp2_with ((go_at_call 31); with_reducible refine (wigwagref05_spans.calls k A9 c9 l9 false _ HR hc9 hs).mono ?_; rintro e w6 ⟨rfl, hd⟩; have hl := hd.below; clear hd; replace HB := HB.below hl; replace Bg0 := Bg0.below hl; clear kf0 kf2 kf7 kf8 kf9; have kf0 := Bg0.at 0 rfl; have kf2 := Bg0.at 2 rfl; have kf7 := Bg0.at 7 rfl; have kf8 := Bg0.at 8 rfl; have kf9 := Bg0.at 9 rfl; clear hl)
            go_ret
            exact ⟨rfl, HB.out⟩
          · obtain rfl : uTail a0 a2 a7 l8.length = r := by rw [if_neg (fun hh => hh.elim (by simp) (fun h => hl9 h.2))] at H; simpa using H
            clear H
            by_cases h14 : a0 = 14
            · have hn14 : (a0 != 14) = false := by simp [h14]
              clear h14
              go_wp2_with ((go_at_call 31); with_reducible refine (wigwagref05_spans.calls k A9 c9 l9 false _ HR hc9 hs).mono ?_; rintro e w6 ⟨rfl, hd⟩; have hl := hd.below; clear hd; replace HB := HB.below hl; replace Bg0 := Bg0.below hl; clear kf0 kf2 kf7 kf8 kf9; have kf0 := Bg0.at 0 rfl; have kf2 := Bg0.at 2 rfl; have kf7 := Bg0.at 7 rfl; have kf8 := Bg0.at 8 rfl; have kf9 := Bg0.at 9 rfl; clear hl)
              all_goals (go_ret; exact ⟨ret_int (by first | exact tail_a hn14 (.inl ‹_›) | exact tail_a hn14 (.inr ‹_›) | exact tail_b ‹_› | exact tail_c ‹_› ‹_› ‹_› | exact tail_b (by omega) | exact tail_d hn14 (by omega) | exact tail_c ‹_› ‹_› (by omega)), HB.out⟩)
            · have hn14 : (a0 != 14) = true := by simpa using h14
              clear h14
              go_wp2_with ((go_at_call 31); with_reducible refine (wigwagref05_spans.calls k A9 c9 l9 false _ HR hc9 hs).mono ?_; rintro e w6 ⟨rfl, hd⟩; have hl := hd.below; clear hd; replace HB := HB.below hl; replace Bg0 := Bg0.below hl; clear kf0 kf2 kf7 kf8 kf9; have kf0 := Bg0.at 0 rfl; have kf2 := Bg0.at 2 rfl; have kf7 := Bg0.at 7 rfl; have kf8 := Bg0.at 8 rfl; have kf9 := Bg0.at 9 rfl; clear hl)
              all_goals (go_ret; exact ⟨ret_int (by first | exact tail_a hn14 (.inl ‹_›) | exact tail_a hn14 (.inr ‹_›) | exact tail_b ‹_› | exact tail_c ‹_› ‹_› ‹_› | exact tail_b (by omega) | exact tail_d hn14 (by omega) | exact tail_c ‹_› ‹_› (by omega)), HB.out⟩)
theorem wigwagref05_Check.calls (k : Nat) (a0 a1 a2 a3 a4 a5 a6 : Int) (a7 : Bool) (A8 : Option Addr) (c8 : Nat) (l8 : List Int) (A9 : Option Addr) (c9 : Nat) (l9 : List S47) (r : Int) (w : World) (hr8 : Kd.C (Kd.int .u8) w A8 l8.length l8) (hc8 : l8.length ≤ c8) (hr9 : Kd.C k47 w A9 l9.length l9) (hc9 : l9.length ≤ c9) (h : wigwagref05_Check.f k a0 a1 a2 a3 a4 a5 a6 a7 l8 l9 = some r) :
    Calls Try.prog 16 #[.agg #[.int .i64 a0, .int .u64 a1, .int .u64 a2, .int .u64 a3, .int .u64 a4, .int .u64 a5, .int .u64 a6, .bool a7, .slice A8 l8.length c8, .slice A9 l9.length c9]] w fun e w' => e = .returned (.int .i64 r) ∧ Below w.heap.size w w' := by
  unfold wigwagref05_Check.f at h
  split at h
  · rename_i hw
    obtain ⟨W1, W2, W3, W4, W5, W6, h8, h9⟩ := hw
    cases ho : fOffs a0 with
    | none =>
      rw [ho] at h
      obtain rfl : 50 = r := by simpa using h
      exact wigwagref05_Check.no a0 a1 a2 a3 a4 a5 a6 a7 A8 c8 l8 A9 c9 l9 w ho
    | some os =>
      rw [ho] at h
      exact wigwagref05_Check.way k a0 a1 a2 a3 a4 a5 a6 a7 A8 c8 l8 A9 c9 l9 w r os ho W1 W2 W3 W4 W5 W6 h8 h9 hr9 hc9 ⟨h⟩
  · cases h
end Go.Proofs.Ytphakdfholkbdaa.PFra
end
section
namespace Go.Proofs.Ytphakdfholkbdaa.PFra
open Go.RowKit Go.Proofs.YtphakdfholkbdaaW.PrintWords Go.Proofs.YtphakdfholkbdaaW.PrintLast Go.Proofs.YtphakdfholkbdaaW.PrintMore
attribute [local go_sem] max2_int min2_int max_two min_two max_three min_three max_four min_four   -- for this text's walks alone
set_option linter.unusedVariables false
set_option linter.unusedSimpArgs false
attribute [local go_sem] max2_int min2_int max_two min_two max_three min_three max_four min_four   -- for this text's walks alone
set_option linter.unusedVariables false
set_option linter.unusedSimpArgs false
attribute [local go_sem] max2_int min2_int max_two min_two max_three min_three max_four min_four   -- for this text's walks alone
set_option linter.unusedVariables false
set_option linter.unusedSimpArgs false
attribute [local go_sem] max2_int min2_int max_two min_two max_three min_three max_four min_four   -- for this text's walks alone
set_option linter.unusedVariables false
set_option linter.unusedSimpArgs false
end Go.Proofs.Ytphakdfholkbdaa.PFra
end
