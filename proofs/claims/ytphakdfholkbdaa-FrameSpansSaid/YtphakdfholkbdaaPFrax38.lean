-- Written by a program of this session (wip/tools/xprint.py) for this claim.
import Derived.Test.YtphakdfholkbdaaPFrax0
import Derived.Test.YtphakdfholkbdaaPFrax9
import Derived.Test.YtphakdfholkbdaaPFrax13
import Derived.Test.YtphakdfholkbdaaPFrax15
import Derived.Test.YtphakdfholkbdaaPFrax33
namespace Go.Proofs.Ytphakdfholkbdaa.PFra
open Go.RowKit Go.Proofs.YtphakdfholkbdaaW.PrintWords Go.Proofs.YtphakdfholkbdaaW.PrintLast Go.Proofs.YtphakdfholkbdaaW.PrintMore
attribute [local go_sem] max2_int min2_int max_two min_two max_three min_three max_four min_four   -- for this text's walks alone
set_option linter.unusedVariables false
set_option linter.unusedSimpArgs false

/-! ### wigwaglaw05_FrameSpans: function 8 -/
def wigwaglaw05_FrameSpans.l0 : Nat → List Int → Int → Bool → List (S47) → Int → Int → Option (Bool)
  | 0, _, _, _, _, _, _ => none
  | k + 1, x0, x1, x5, x6, x7, x8 => if (wrap64 (x8 + 1)) < (x0.length : Int) then (if (x6.length : Int) < 32 then (if 0 ≤ x8 then (if x8 < (x0.length : Int) then (if 0 ≤ (wrap64 (x8 + 1)) then (if x6.length < 8796093022208 then (wigwaglaw05_FrameSpans.l0 k x0 x1 x5 (x6 ++ [(⟨IntKind.u64.wrap (x7 + (IntKind.u64.wrap (rd x0 x8))), IntKind.u64.wrap ((IntKind.u64.wrap ((IntKind.u64.wrap (x7 + (IntKind.u64.wrap (rd x0 x8)))) + (IntKind.u64.wrap (rd x0 (wrap64 (x8 + 1)))))) + 1)⟩ : S47)]) (IntKind.u64.wrap ((IntKind.u64.wrap ((IntKind.u64.wrap ((IntKind.u64.wrap (x7 + (IntKind.u64.wrap (rd x0 x8)))) + (IntKind.u64.wrap (rd x0 (wrap64 (x8 + 1)))))) + 1)) + 1)) (wrap64 (x8 + 2))) else (none)) else (none)) else (none)) else (none)) else ((frame_Encode.f k 2 0 0 0 0 (IntKind.u64.wrap (x1)) 0 false ([] : List Int) x6).bind fun bt606 => (if (x6.length : Int) = 0 then (if x5 = true then (some (bt606.2 == 50)) else (none)) else ((frame_Parse.f bt606.1).bind fun bt610 => ((wigwagref05_Spans.f k bt610.2.2.2.2.2.2.2.2.2.1 x6).bind fun t627 => (if x5 = true then (if bt606.2 = 0 then (if bt610.2.2.2.2.2.2.2.2.2.2.2 = 0 then (if t627 = true then (if bt610.2.2.2.2.2.2.2.2.2.2.1 = (bt606.1.length : Int) then (some (bt610.2.2.2.2.2.1 == (IntKind.u64.wrap (x1)))) else (none)) else (none)) else (none)) else (none)) else (none))))))) else ((frame_Encode.f k 2 0 0 0 0 (IntKind.u64.wrap (x1)) 0 false ([] : List Int) x6).bind fun bt628 => (if (x6.length : Int) = 0 then (if x5 = true then (some (bt628.2 == 50)) else (none)) else ((frame_Parse.f bt628.1).bind fun bt632 => ((wigwagref05_Spans.f k bt632.2.2.2.2.2.2.2.2.2.1 x6).bind fun t649 => (if x5 = true then (if bt628.2 = 0 then (if bt632.2.2.2.2.2.2.2.2.2.2.2 = 0 then (if t649 = true then (if bt632.2.2.2.2.2.2.2.2.2.2.1 = (bt628.1.length : Int) then (some (bt632.2.2.2.2.2.1 == (IntKind.u64.wrap (x1)))) else (none)) else (none)) else (none)) else (none)) else (none))))))
def wigwaglaw05_FrameSpans.f (k : Nat) (l0 : List Int) (a1 : Int) : Option (Bool) := (wigwaglaw05_awake.f k).bind fun t600 => (wigwaglaw05_FrameSpans.l0 k l0 a1 t600 ([] : List (S47)) 0 0)
theorem wigwaglaw05_FrameSpans.mono_l : ∀ k, (∀ y0 y1 y2 y3 y4 y5, LeO (wigwaglaw05_FrameSpans.l0 k y0 y1 y2 y3 y4 y5) (wigwaglaw05_FrameSpans.l0 (k + 1) y0 y1 y2 y3 y4 y5))
  | 0 => fun _ _ _ _ _ _ r h => by simp [wigwaglaw05_FrameSpans.l0] at h
  | k + 1 => by
    have ih0 := wigwaglaw05_FrameSpans.mono_l k
    · intro y0 y1 y2 y3 y4 y5
      unfold wigwaglaw05_FrameSpans.l0
      repeat' first
      | (with_reducible exact ih0 _ _ _ _ _ _)
      | (with_reducible exact frame_Encode.mono _ _ _ _ _ _ _ _ _ _ _)
      | (with_reducible exact wigwaglaw05_awake.mono _)
      | (with_reducible exact wigwagref05_Spans.mono _ _ _)
      | (with_reducible exact LeO.refl _)
      | (with_reducible exact LeO.none _)
      | (with_reducible refine LeO.ite ?_ ?_)
      | (with_reducible refine LeO.bind ?_ (fun _ => ?_))
      | exact ih0 _ _ _ _ _ _
      | exact frame_Encode.mono _ _ _ _ _ _ _ _ _ _ _
      | exact wigwaglaw05_awake.mono _
      | exact wigwagref05_Spans.mono _ _ _
      | exact LeO.none _
      | refine LeO.ite ?_ ?_
      | refine LeO.bind ?_ (fun _ => ?_)
theorem wigwaglaw05_FrameSpans.mono : ∀ a0 a1 k, LeO (wigwaglaw05_FrameSpans.f k a0 a1) (wigwaglaw05_FrameSpans.f (k + 1) a0 a1) := by
  intro a0 a1 k
  have ih0 := wigwaglaw05_FrameSpans.mono_l k
  unfold wigwaglaw05_FrameSpans.f
  repeat' first
      | (with_reducible exact ih0 _ _ _ _ _ _)
      | (with_reducible exact frame_Encode.mono _ _ _ _ _ _ _ _ _ _ _)
      | (with_reducible exact wigwaglaw05_awake.mono _)
      | (with_reducible exact wigwagref05_Spans.mono _ _ _)
      | (with_reducible exact LeO.refl _)
      | (with_reducible exact LeO.none _)
      | (with_reducible refine LeO.ite ?_ ?_)
      | (with_reducible refine LeO.bind ?_ (fun _ => ?_))
      | exact ih0 _ _ _ _ _ _
      | exact frame_Encode.mono _ _ _ _ _ _ _ _ _ _ _
      | exact wigwaglaw05_awake.mono _
      | exact wigwagref05_Spans.mono _ _ _
      | exact LeO.none _
      | refine LeO.ite ?_ ?_
      | refine LeO.bind ?_ (fun _ => ?_)
set_option maxHeartbeats 8000000 in
set_option maxRecDepth 100000 in
theorem wigwaglaw05_FrameSpans.calls (k : Nat) (A0 : Option Addr) (c0 : Nat) (l0 : List Int) (a1 : Int) (r : Bool) (w : World) (hr0 : Kd.C (Kd.int .u16) w A0 l0.length l0) (hc0 : l0.length ≤ c0) (h : wigwaglaw05_FrameSpans.f k l0 a1 = some r) :
    Calls Try.prog 8 #[.slice A0 l0.length c0, .int .u32 a1] w fun e w' => e = .returned (.bool r) ∧ Below w.heap.size w w' := by
  have hu47 := Try.underlying47
  have hu27 := Try.underlying27
  have HR0 := Aside0.mk hr0
  have HC0 := Aside0.mk hc0
  clear hr0 hc0
  have HB := Aside0.mk (Below.refl w.heap.size w)
  have H : ((wigwaglaw05_awake.f k).bind fun t600 => (wigwaglaw05_FrameSpans.l0 k l0 a1 t600 ([] : List (S47)) 0 0)) = some r := h
  clear h
  replace H := Option.bind_eq_some_iff.mp H
  obtain ⟨t600, A30, H⟩ := H
  replace H : (wigwaglaw05_FrameSpans.l0 k l0 a1 t600 ([] : List (S47)) 0 0) = some r := H
  have A3 := Aside0.mk A30
  clear A30
  have H' := Aside0.mk H
  clear H
  go_enter Try.func8, Try.ntmps8
  go_wp2_with (first | ((with_reducible refine gate_callee (f := 11) rfl ?_); refine goesL_ (some 17) rfl rfl Try.func11 (by kernel_rfl) rfl #[] rfl (by (try simp only [List.map_toArray, List.map_cons, List.map_nil]); first | done | rfl | (simp only [List.length_drop, List.length_take]; rfl)) ?_; (with_reducible refine (wigwaglaw05_awake.calls k  t600 _ A3.out).mono ?_); rintro e w4 ⟨rfl, hb⟩; refine ⟨_, rfl, ?_⟩; have n0_ := Aside0.mk (below_step (by repeat (first | (with_reducible first | exact HB.out | apply below_alloc | apply pw_below_drewN | apply below_drew1) | exact HB.out)) hb); clear HB; have HB := n0_; clear n0_; (try clear hb); (try clear hb2); (try clear hk); (try clear hi)))
  go_loopg [6, 7, 8] k (fun kq v6 v7 v8 w' => ∃ (x6_1 : List (S47)) (x7_1 : Int) (x8_1 : Int), v7 = .int .u64 x7_1 ∧ v8 = .int .i64 x8_1 ∧ Aside0 (wigwaglaw05_FrameSpans.l0 kq l0 a1 t600 x6_1 x7_1 x8_1 = some r) ∧ Aside0 (kq ≤ k) ∧ Aside0 (Kd.R k47 47 w' w.heap.size (fun _ => True) v6 x6_1) ∧ Aside0 (Below w.heap.size w w'))
  case atStart => exact ⟨(([] : List (S47))), (0), (0), (by first | rfl | (simp; done) | (simp [*]; done)), (by first | rfl | (simp; done) | (simp [*]; done)), H', ⟨Nat.le_refl _⟩, ⟨by first | exact Kd.R_nil _ _ _ _ _ | exact Kd.N_nil _ _ _ _ _ | exact Kd.V_nil _ _ _ _ _ | exact Kd.Q_nil _ _ _ _ _ | exact Kd.S_nil _ _ _ _ _⟩, ⟨by repeat (first | (with_reducible first | exact HB.out | apply below_alloc | apply pw_below_drewN | apply below_drew1) | exact HB.out)⟩⟩
  case round =>
    clear H'
    try clear c1
    try clear p2
    obtain ⟨x6_1, x7_1, x8_1, rfl, rfl, HA, HK1, HO_6, HB⟩ := hrel
    cases gk with
    | zero => exact absurd HA.out (by simp [wigwaglaw05_FrameSpans.l0])
    | succ k1 =>
      have H := HA.out
      clear HA
      simp only [wigwaglaw05_FrameSpans.l0] at H
      by_cases c5 : (wrap64 (x8_1 + 1)) < (l0.length : Int)
      · rw [if_pos c5] at H
        have c5b0 : decide ((wrap64 (x8_1 + 1)) < (l0.length : Int)) = true := decide_eq_true c5
        clear c5
        by_cases c6 : (x6_1.length : Int) < 32
        · rw [if_pos c6] at H
          have c6b0 : decide ((x6_1.length : Int) < 32) = true := decide_eq_true c6
          have c6b1 : decide (x6_1.length < 32) = true := decide_eq_true (by omega)
          clear c6
          by_cases c7 : 0 ≤ x8_1
          · rw [if_pos c7] at H
            have c7b0 : decide (0 ≤ x8_1) = true := decide_eq_true c7
            clear c7
            by_cases c8 : x8_1 < (l0.length : Int)
            · rw [if_pos c8] at H
              have c8b0 : decide (x8_1 < (l0.length : Int)) = true := decide_eq_true c8
              clear c8
              obtain ⟨ji9, hji9⟩ : ∃ j_ : Int, (wrap64 (x8_1 + 1)) = j_ := ⟨_, rfl⟩
              replace H : (if 0 ≤ (ji9) then (if x6_1.length < 8796093022208 then (wigwaglaw05_FrameSpans.l0 k1 l0 a1 t600 (x6_1 ++ [(⟨IntKind.u64.wrap (x7_1 + (IntKind.u64.wrap (rd l0 x8_1))), IntKind.u64.wrap ((IntKind.u64.wrap ((IntKind.u64.wrap (x7_1 + (IntKind.u64.wrap (rd l0 x8_1)))) + (IntKind.u64.wrap (rd l0 (ji9))))) + 1)⟩ : S47)]) (IntKind.u64.wrap ((IntKind.u64.wrap ((IntKind.u64.wrap ((IntKind.u64.wrap (x7_1 + (IntKind.u64.wrap (rd l0 x8_1)))) + (IntKind.u64.wrap (rd l0 (ji9))))) + 1)) + 1)) (wrap64 (x8_1 + 2))) else (none)) else (none)) = some r := by first | (rw [hji9] at H; exact H) | (simp only [hji9] at H ⊢; exact H)
              (try rw [hji9] at c5b0)
              have hji9w : (IntKind.i64.wrap (x8_1 + 1)) = ji9 := (i64_w _).trans hji9
              by_cases c10 : 0 ≤ (ji9)
              · rw [if_pos c10] at H
                have c10b0 : decide (0 ≤ (ji9)) = true := decide_eq_true c10
                clear c10
                by_cases c11 : x6_1.length < 8796093022208
                · rw [if_pos c11] at H
                  have LMc11 := Aside0.mk c11
                  clear c11
                  obtain ⟨y603, hy603⟩ : ∃ y_ : List (S47), y_ = (x6_1 ++ [(⟨IntKind.u64.wrap (x7_1 + (IntKind.u64.wrap (rd l0 x8_1))), IntKind.u64.wrap ((IntKind.u64.wrap ((IntKind.u64.wrap (x7_1 + (IntKind.u64.wrap (rd l0 x8_1)))) + (IntKind.u64.wrap (rd l0 (ji9))))) + 1)⟩ : S47)]) := ⟨_, rfl⟩
                  replace H : (wigwaglaw05_FrameSpans.l0 k1 l0 a1 t600 y603 (IntKind.u64.wrap ((IntKind.u64.wrap ((IntKind.u64.wrap ((IntKind.u64.wrap (x7_1 + (IntKind.u64.wrap (rd l0 x8_1)))) + (IntKind.u64.wrap (rd l0 (ji9))))) + 1)) + 1)) (wrap64 (x8_1 + 2))) = some r := by first | (rw [hy603]; with_reducible exact H) | (have H2_ := (Option.bind_some _ _).symm.trans H; rw [hy603]; with_reducible exact H2_) | (have H2_ := (Option.bind_some _ _).symm.trans H; with_reducible exact H2_) | with_reducible exact H | (rw [hy603]; exact H) | exact H
                  have Ny603 := Aside0.mk hy603
                  clear hy603
                  have H' := Aside0.mk H
                  clear H
                  obtain ⟨Ao12, co12, eo12⟩ := Kd.R_slice HO_6.out
                  subst eo12
                  have p601 : 0 ≤ (x8_1 : Int) := of_decide_eq_true (by first | (with_reducible assumption) | assumption)
                  have q601 : x8_1 < (l0.length : Int) := of_decide_eq_true (by first | (with_reducible assumption) | assumption)
                  obtain ⟨ad601, e601, hx601_0⟩ := Kd.at_int HR0.out x8_1 p601 q601
                  cases e601
                  replace hx601_0 := (HB.out.cell (World.block_lt_of_cell? w _ hx601_0)).trans hx601_0
                  replace p601 := eq_true p601
                  replace q601 := eq_true q601
                  have p602 : 0 ≤ ((ji9) : Int) := of_decide_eq_true (by first | (with_reducible assumption) | assumption)
                  have q602 : (ji9) < (l0.length : Int) := of_decide_eq_true (by first | (with_reducible assumption) | assumption)
                  obtain ⟨ad602, e602, hx602_0⟩ := Kd.at_int HR0.out (ji9) p602 q602
                  obtain rfl : ad601 = ad602 := (by injection e602)
                  replace hx602_0 := (HB.out.cell (World.block_lt_of_cell? w _ hx602_0)).trans hx602_0
                  replace p602 := eq_true p602
                  replace q602 := eq_true q602
                  go_wp2_with (first | ((with_reducible refine gate_builtin (b := .append) (xs := #[.tmp 46, .tmp 50]) rfl ?_); (try (refine gate_guard (by rfl) ?_; dsimp only)); at_builtin; refine Kd.R_append k47 (w0 := w) w.heap.size rfl (.tmp 46) (.tmp 50) 25 47 (.agg #[(.int .u64 0), (.int .u64 0)]) 16 rfl Try.underlying25 info47 rfl (by decide) (by omega) (.slice Ao12 x6_1.length co12) x6_1 (⟨IntKind.u64.wrap (x7_1 + (IntKind.u64.wrap (rd l0 x8_1))), IntKind.u64.wrap ((IntKind.u64.wrap ((IntKind.u64.wrap (x7_1 + (IntKind.u64.wrap (rd l0 x8_1)))) + (IntKind.u64.wrap (rd l0 (ji9))))) + 1)⟩ : S47) [.int .u64 (IntKind.u64.wrap (x7_1 + (IntKind.u64.wrap (rd l0 x8_1)))), .int .u64 (IntKind.u64.wrap ((IntKind.u64.wrap ((IntKind.u64.wrap (x7_1 + (IntKind.u64.wrap (rd l0 x8_1)))) + (IntKind.u64.wrap (rd l0 (ji9))))) + 1))] (fun _ => True) (fun _ => False) rfl rfl ?aP (fun _ hk => hk.elim) ?aF ?aO ?aB ?aS ?aL ?_; (case aP => exact k47_mkM _ _ _ (⟨IntKind.u64.wrap (x7_1 + (IntKind.u64.wrap (rd l0 x8_1))), IntKind.u64.wrap ((IntKind.u64.wrap ((IntKind.u64.wrap (x7_1 + (IntKind.u64.wrap (rd l0 x8_1)))) + (IntKind.u64.wrap (rd l0 (ji9))))) + 1)⟩ : S47)); (case aB => exact (by repeat (first | (with_reducible first | exact HB.out | apply below_alloc | apply pw_below_drewN | apply below_drew1) | exact HB.out))); (case aF => exact (fun _ _ => trivial)); (case aO => exact (by (with_reducible repeat (first | apply Kd.R_alloc | apply Kd.R_drewN | apply Kd.R_drew)); exact HO_6.out)); (case aS => exact (below_size (by repeat (first | (with_reducible first | exact HB.out | apply below_alloc | apply pw_below_drewN | apply below_drew1) | exact HB.out)))); (case aL => have := LMc11.out; omega); intro v604 w13 ho hb hg hat; rw [← Ny603.out] at ho; have n0_ := Aside0.mk (hb); have n1_ := Aside0.mk (ho); clear HB; clear HO_6; have HB := n0_; have HO605 := n1_; clear n0_ n1_; clear ho hb hg hat))
                  go_roundg k1
                  case measure => have := HK1.out; omega
                  case rel => exact ⟨(y603), (IntKind.u64.wrap ((IntKind.u64.wrap ((IntKind.u64.wrap ((IntKind.u64.wrap (x7_1 + (IntKind.u64.wrap (rd l0 x8_1)))) + (IntKind.u64.wrap (rd l0 (ji9))))) + 1)) + 1)), (wrap64 (x8_1 + 2)), (by first | rfl | (simp; done) | (simp only [← hji9] <;> (first | rfl | simp)) | (simp [*]; done)), (by first | rfl | (simp; done) | (simp [*]; done)), H', ⟨by have := HK1.out; omega⟩, ⟨by (with_reducible repeat (first | apply Kd.R_alloc | apply Kd.R_drewN | apply Kd.R_drew)); exact HO605.out⟩, ⟨by repeat (first | (with_reducible first | exact HB.out | apply below_alloc | apply pw_below_drewN | apply below_drew1) | exact HB.out)⟩⟩
                · rw [if_neg c11] at H
                  exact absurd H (by simp)
              · rw [if_neg c10] at H
                exact absurd H (by simp)
            · rw [if_neg c8] at H
              exact absurd H (by simp)
          · rw [if_neg c7] at H
            exact absurd H (by simp)
        · rw [if_neg c6] at H
          have c6b0 : decide ((x6_1.length : Int) < 32) = false := decide_eq_false c6
          have c6b1 : decide (x6_1.length < 32) = false := decide_eq_false (by omega)
          clear c6
          replace H := Option.bind_eq_some_iff.mp H
          obtain ⟨⟨t606, t609⟩, A140, H⟩ := H
          replace H : (if (x6_1.length : Int) = 0 then (if t600 = true then (some (t609 == 50)) else (none)) else ((frame_Parse.f t606).bind fun bt610 => ((wigwagref05_Spans.f k1 bt610.2.2.2.2.2.2.2.2.2.1 x6_1).bind fun t627 => (if t600 = true then (if t609 = 0 then (if bt610.2.2.2.2.2.2.2.2.2.2.2 = 0 then (if t627 = true then (if bt610.2.2.2.2.2.2.2.2.2.2.1 = (t606.length : Int) then (some (bt610.2.2.2.2.2.1 == (IntKind.u64.wrap (a1)))) else (none)) else (none)) else (none)) else (none)) else (none))))) = some r := H
          have A14 := Aside0.mk A140
          clear A140
          by_cases c15 : (x6_1.length : Int) = 0
          · rw [if_pos c15] at H
            have c15b0 : ((x6_1.length : Int) == 0) = true := beq_iff_eq.mpr c15
            have c15b1 : ((x6_1.length : Int) != 0) = false := bne_eq_false_iff_eq.mpr c15
            clear c15
            by_cases c16 : t600 = true
            · subst c16
              have H1 : (some (t609 == 50)) = some r := by rw [if_pos rfl] at H; exact H
              clear H
              have H := H1
              clear H1
              obtain rfl := Option.some.inj H
              obtain ⟨Ao17, co17, eo17⟩ := Kd.R_slice HO_6.out
              subst eo17
              go_wp2_with (first | ((with_reducible refine gate_callee (f := 13) rfl ?_); refine goesL_ (some 59) rfl rfl Try.func13 (by kernel_rfl) rfl #[.agg #[.int .i64 2, .int .u64 0, .int .u64 0, .int .u64 0, .int .u64 0, .int .u64 (IntKind.u64.wrap (a1)), .int .u64 0, .bool false, .slice none 0 0, .slice Ao17 x6_1.length co17]] rfl (by (try simp only [List.map_toArray, List.map_cons, List.map_nil]); first | done | rfl | (simp only [List.length_drop, List.length_take]; rfl)) ?_; (refine (frame_Encode.calls k1 2 0 0 0 0 (IntKind.u64.wrap (a1)) 0 false _ _ ([] : List Int) _ _ x6_1 t606 t609 _ ?side1 ?side2 ?side3 ?side4 A14.out).mono ?_); (case side1 => exact Kd.C_nil _ _); (case side2 => exact Nat.le_refl _); (case side3 => repeat (first | exact (Kd.R_reads' HO_6.out).2.2 | (with_reducible refine Kd.C_alloc ?_ _) | (with_reducible refine Kd.C_drewN ?_ _) | (with_reducible refine Kd.C_drew ?_))); (case side4 => exact (Kd.R_reads' HO_6.out).2.1); rintro e w18 ⟨v607, rfl, ho0, hb⟩; refine ⟨_, rfl, ?_⟩; have n0_ := Aside0.mk (Kd.R_below (by (with_reducible repeat (first | apply Kd.R_alloc | apply Kd.R_drewN | apply Kd.R_drew)); exact HO_6.out) hb); have n1_ := Aside0.mk (Kd.R_lower ho0 (below_size (by repeat (first | (with_reducible first | exact HB.out | apply below_alloc | apply pw_below_drewN | apply below_drew1) | exact HB.out)))); have n2_ := Aside0.mk (below_step (by repeat (first | (with_reducible first | exact HB.out | apply below_alloc | apply pw_below_drewN | apply below_drew1) | exact HB.out)) hb); clear HO_6; clear HB; have HO_6 := n0_; have HO608 := n1_; have HB := n2_; clear n0_ n1_ n2_; (try clear hb); (try clear hb2); (try clear hk); (try clear hi); (try clear ho0)))
              go_ret
              exact ⟨by first | rfl | (simp [errW_none, errW_some] <;> rfl) | (simp [*, errW_none, errW_some] <;> rfl), by repeat (first | (with_reducible first | exact HB.out | apply below_alloc | apply pw_below_drewN | apply below_drew1) | exact HB.out)⟩
            · replace c16 := Bool.eq_false_iff.mpr c16
              subst c16
              have H1 : (none) = some r := by rw [if_neg (show ¬ (false = true) by decide)] at H; exact H
              clear H
              have H := H1
              clear H1
              exact absurd H (by simp)
          · rw [if_neg c15] at H
            have c15b0 : ((x6_1.length : Int) == 0) = false := beq_eq_false_iff_ne.mpr c15
            have c15b1 : ((x6_1.length : Int) != 0) = true := bne_iff_ne.mpr c15
            have c15b2 : ¬ (x6_1 = []) := fun h_ => c15 (by rw [h_]; rfl)
            replace H := Option.bind_eq_some_iff.mp H
            obtain ⟨⟨t610, t611, t612, t613, t614, t615, t616, t617, t618, t621, t624, t625⟩, A190, H⟩ := H
            replace H : ((wigwagref05_Spans.f k1 t621 x6_1).bind fun t627 => (if t600 = true then (if t609 = 0 then (if t625 = 0 then (if t627 = true then (if t624 = (t606.length : Int) then (some (t615 == (IntKind.u64.wrap (a1)))) else (none)) else (none)) else (none)) else (none)) else (none))) = some r := H
            have A19 := Aside0.mk A190
            clear A190
            replace H := Option.bind_eq_some_iff.mp H
            obtain ⟨t627, A200, H⟩ := H
            replace H : (if t600 = true then (if t609 = 0 then (if t625 = 0 then (if t627 = true then (if t624 = (t606.length : Int) then (some (t615 == (IntKind.u64.wrap (a1)))) else (none)) else (none)) else (none)) else (none)) else (none)) = some r := H
            have A20 := Aside0.mk A200
            clear A200
            by_cases c21 : t600 = true
            · subst c21
              have H1 : (if t609 = 0 then (if t625 = 0 then (if t627 = true then (if t624 = (t606.length : Int) then (some (t615 == (IntKind.u64.wrap (a1)))) else (none)) else (none)) else (none)) else (none)) = some r := by rw [if_pos rfl] at H; exact H
              clear H
              have H := H1
              clear H1
              by_cases c22 : t609 = 0
              · rw [if_pos c22] at H
                have c22b0 : (t609 == 0) = true := beq_iff_eq.mpr c22
                have c22b1 : (t609 != 0) = false := bne_eq_false_iff_eq.mpr c22
                clear c22
                by_cases c23 : t625 = 0
                · rw [if_pos c23] at H
                  have c23b0 : (t625 == 0) = true := beq_iff_eq.mpr c23
                  have c23b1 : (t625 != 0) = false := bne_eq_false_iff_eq.mpr c23
                  clear c23
                  by_cases c24 : t627 = true
                  · subst c24
                    have H1 : (if t624 = (t606.length : Int) then (some (t615 == (IntKind.u64.wrap (a1)))) else (none)) = some r := by rw [if_pos rfl] at H; exact H
                    clear H
                    have H := H1
                    clear H1
                    by_cases c25 : t624 = (t606.length : Int)
                    · rw [if_pos c25] at H
                      have c25b0 : (t624 == (t606.length : Int)) = true := beq_iff_eq.mpr c25
                      have c25b1 : (t624 != (t606.length : Int)) = false := bne_eq_false_iff_eq.mpr c25
                      clear c25
                      obtain rfl := Option.some.inj H
                      obtain ⟨Ao26, co26, eo26⟩ := Kd.R_slice HO_6.out
                      subst eo26
                      go_wp2_with (first | ((with_reducible refine gate_callee (f := 13) rfl ?_); refine goesL_ (some 59) rfl rfl Try.func13 (by kernel_rfl) rfl #[.agg #[.int .i64 2, .int .u64 0, .int .u64 0, .int .u64 0, .int .u64 0, .int .u64 (IntKind.u64.wrap (a1)), .int .u64 0, .bool false, .slice none 0 0, .slice Ao26 x6_1.length co26]] rfl (by (try simp only [List.map_toArray, List.map_cons, List.map_nil]); first | done | rfl | (simp only [List.length_drop, List.length_take]; rfl)) ?_; (refine (frame_Encode.calls k1 2 0 0 0 0 (IntKind.u64.wrap (a1)) 0 false _ _ ([] : List Int) _ _ x6_1 t606 t609 _ ?side1 ?side2 ?side3 ?side4 A14.out).mono ?_); (case side1 => exact Kd.C_nil _ _); (case side2 => exact Nat.le_refl _); (case side3 => repeat (first | exact (Kd.R_reads' HO_6.out).2.2 | (with_reducible refine Kd.C_alloc ?_ _) | (with_reducible refine Kd.C_drewN ?_ _) | (with_reducible refine Kd.C_drew ?_))); (case side4 => exact (Kd.R_reads' HO_6.out).2.1); rintro e w27 ⟨v607, rfl, ho0, hb⟩; refine ⟨_, rfl, ?_⟩; have n0_ := Aside0.mk (Kd.R_below (by (with_reducible repeat (first | apply Kd.R_alloc | apply Kd.R_drewN | apply Kd.R_drew)); exact HO_6.out) hb); have n1_ := Aside0.mk (Kd.R_lower ho0 (below_size (by repeat (first | (with_reducible first | exact HB.out | apply below_alloc | apply pw_below_drewN | apply below_drew1) | exact HB.out)))); have n2_ := Aside0.mk (below_step (by repeat (first | (with_reducible first | exact HB.out | apply below_alloc | apply pw_below_drewN | apply below_drew1) | exact HB.out)) hb); clear HO_6; clear HB; have HO_6 := n0_; have HO608 := n1_; have HB := n2_; clear n0_ n1_ n2_; (try clear hb); (try clear hb2); (try clear hk); (try clear hi); (try clear ho0); obtain ⟨Ao28, co28, eo28⟩ := Kd.R_slice HO608.out; subst eo28) | ((with_reducible refine gate_callee (f := 17) rfl ?_); refine goesL_ (some 72) rfl rfl Try.func17 (by kernel_rfl) rfl #[.slice Ao28 t606.length co28] rfl (by (try simp only [List.map_toArray, List.map_cons, List.map_nil]); first | done | rfl | (simp only [List.length_drop, List.length_take]; rfl)) ?_; (with_reducible refine (frame_Parse.calls _ _ t606 t610 t611 t612 t613 t614 t615 t616 t617 t618 t621 t624 t625 _ ?side1 ?side2 A19.out).mono ?_); (case side1 => repeat (first | exact (Kd.R_reads' HO608.out).2.2 | (with_reducible refine Kd.C_alloc ?_ _) | (with_reducible refine Kd.C_drewN ?_ _) | (with_reducible refine Kd.C_drew ?_))); (case side2 => exact (Kd.R_reads' HO608.out).2.1); rintro e w29 ⟨v619, v622, rfl, ho0, ho1, hb⟩; refine ⟨_, rfl, ?_⟩; have n0_ := Aside0.mk (Kd.R_elder' (by (with_reducible repeat (first | apply Kd.R_alloc | apply Kd.R_drewN | apply Kd.R_drew)); exact HO_6.out) (Kd.R_base ho1) hb); have n1_ := Aside0.mk (Kd.R_elder' (by (with_reducible repeat (first | apply Kd.R_alloc | apply Kd.R_drewN | apply Kd.R_drew)); exact HO608.out) (Kd.R_base ho0) hb); have n2_ := Aside0.mk (Kd.R_lower (Kd.R_new' ho0 (Kd.R_lt (by (with_reducible repeat (first | apply Kd.R_alloc | apply Kd.R_drewN | apply Kd.R_drew)); exact HO608.out))) (below_size (by repeat (first | (with_reducible first | exact HB.out | apply below_alloc | apply pw_below_drewN | apply below_drew1) | exact HB.out)))); have n3_ := Aside0.mk (Kd.R_lower (Kd.R_new' ho1 (Kd.R_lt (by (with_reducible repeat (first | apply Kd.R_alloc | apply Kd.R_drewN | apply Kd.R_drew)); exact HO_6.out))) (below_size (by repeat (first | (with_reducible first | exact HB.out | apply below_alloc | apply pw_below_drewN | apply below_drew1) | exact HB.out)))); have n4_ := Aside0.mk (below_step (by repeat (first | (with_reducible first | exact HB.out | apply below_alloc | apply pw_below_drewN | apply below_drew1) | exact HB.out)) hb); clear HO_6; clear HO608; clear HB; have HO_6 := n0_; have HO608 := n1_; have HO620 := n2_; have HO623 := n3_; have HB := n4_; clear n0_ n1_ n2_ n3_ n4_; (try clear hb); (try clear hb2); (try clear hk); (try clear hi); (try clear ho0); (try clear ho1)) | ((with_reducible refine gate_dst (N := 13) rfl ?_); (try (refine gate_guard (by rfl) ?_; dsimp only)); refine box_event ?hg (N := 13) ?hd (cs := #[.int .i64 0, .int .u64 0, .int .u64 0, .int .u64 0, .int .u64 0, .int .u64 0, .int .u64 0, .bool false, .slice none 0 0, .slice none 0 0]) (t := 27) ?hr ?_; (case hd => rfl); (case hg => rfl); (case hr => first | (go_simp; done) | (go_simp; rfl)); intro gb626 hg w30 hbox hb; have n0_ := Aside0.mk (Kd.R_below (by (with_reducible repeat (first | apply Kd.R_alloc | apply Kd.R_drewN | apply Kd.R_drew)); exact HO_6.out) hb); have n1_ := Aside0.mk (Kd.R_below (by (with_reducible repeat (first | apply Kd.R_alloc | apply Kd.R_drewN | apply Kd.R_drew)); exact HO608.out) hb); have n2_ := Aside0.mk (Kd.R_below (by (with_reducible repeat (first | apply Kd.R_alloc | apply Kd.R_drewN | apply Kd.R_drew)); exact HO620.out) hb); have n3_ := Aside0.mk (Kd.R_below (by (with_reducible repeat (first | apply Kd.R_alloc | apply Kd.R_drewN | apply Kd.R_drew)); exact HO623.out) hb); have n4_ := Aside0.mk (below_step (by repeat (first | (with_reducible first | exact HB.out | apply below_alloc | apply pw_below_drewN | apply below_drew1) | exact HB.out)) hb); have n5_ := Aside0.mk (hbox); have n6_ := Aside0.mk ((by rw [hg]; exact (below_size (by repeat (first | (with_reducible first | exact HB.out | apply below_alloc | apply pw_below_drewN | apply below_drew1) | exact HB.out))) : w.heap.size ≤ gb626)); have n7_ := Aside0.mk ((by rw [hg]; exact (below_size (by repeat (first | (with_reducible first | exact HB.out | apply below_alloc | apply pw_below_drewN | apply below_drew1) | exact HB.out))) : w.heap.size ≤ gb626)); clear HO_6; clear HO608; clear HO620; clear HO623; clear HB; have HO_6 := n0_; have HO608 := n1_; have HO620 := n2_; have HO623 := n3_; have HB := n4_; have BK626 := n5_; have GW626 := n6_; have GE626 := n7_; clear n0_ n1_ n2_ n3_ n4_ n5_ n6_ n7_; clear hb hbox hg; have hcz31_0 : w30.cell? ⟨gb626, 0, none⟩ = some (.int .i64 0) := (blk_cell BK626.out 0).trans rfl; have hcz31_1 : w30.cell? ⟨gb626, 1, none⟩ = some (.int .u64 0) := (blk_cell BK626.out 1).trans rfl; have hcz31_2 : w30.cell? ⟨gb626, 2, none⟩ = some (.int .u64 0) := (blk_cell BK626.out 2).trans rfl; have hcz31_3 : w30.cell? ⟨gb626, 3, none⟩ = some (.int .u64 0) := (blk_cell BK626.out 3).trans rfl; have hcz31_4 : w30.cell? ⟨gb626, 4, none⟩ = some (.int .u64 0) := (blk_cell BK626.out 4).trans rfl; have hcz31_5 : w30.cell? ⟨gb626, 5, none⟩ = some (.int .u64 0) := (blk_cell BK626.out 5).trans rfl; have hcz31_6 : w30.cell? ⟨gb626, 6, none⟩ = some (.int .u64 0) := (blk_cell BK626.out 6).trans rfl; have hcz31_7 : w30.cell? ⟨gb626, 7, none⟩ = some (.bool false) := (blk_cell BK626.out 7).trans rfl; have hcz31_8 : w30.cell? ⟨gb626, 8, none⟩ = some (.slice none 0 0) := (blk_cell BK626.out 8).trans rfl; have hcz31_9 : w30.cell? ⟨gb626, 9, none⟩ = some (.slice none 0 0) := (blk_cell BK626.out 9).trans rfl; have hfz31_0 := blk_frozen BK626.out 0; have hfz31_1 := blk_frozen BK626.out 1; have hfz31_2 := blk_frozen BK626.out 2; have hfz31_3 := blk_frozen BK626.out 3; have hfz31_4 := blk_frozen BK626.out 4; have hfz31_5 := blk_frozen BK626.out 5; have hfz31_6 := blk_frozen BK626.out 6; have hfz31_7 := blk_frozen BK626.out 7; have hfz31_8 := blk_frozen BK626.out 8; have hfz31_9 := blk_frozen BK626.out 9; obtain ⟨Ao32, co32, eo32⟩ := Kd.R_slice HO620.out; subst eo32; obtain ⟨Ao33, co33, eo33⟩ := Kd.R_slice HO623.out; subst eo33) | ((with_reducible refine gate_callee (f := 23) rfl ?_); refine goesL_ (some 79) rfl rfl Try.func23 (by kernel_rfl) rfl #[.slice Ao33 t621.length co33, .slice Ao26 x6_1.length co26] rfl (by (try simp only [List.map_toArray, List.map_cons, List.map_nil]); first | done | rfl | (simp only [List.length_drop, List.length_take]; rfl)) ?_; (with_reducible refine (wigwagref05_Spans.calls k1 _ _ t621 _ _ x6_1 true _ ?side1 ?side2 ?side3 ?side4 A20.out).mono ?_); (case side1 => refine (Kd.R_reads' (e := 47) (base := w.heap.size) (ok := fun k_ => (True ∧ some k_ ≠ (.slice Ao26 x6_1.length co26 : Value).ownBlock)) (n := t621.length) (c := co33) ?_).2.2; exact (by (with_reducible repeat (first | apply Kd.R_alloc | apply Kd.R_drewN | apply Kd.R_drew)); exact (Kd.R_mono (Kd.R_far (p := ⟨gb626, 9, none⟩) (Kd.R_far (p := ⟨gb626, 8, none⟩) (Kd.R_far (p := ⟨gb626, 7, none⟩) (Kd.R_far (p := ⟨gb626, 6, none⟩) (Kd.R_far (p := ⟨gb626, 5, none⟩) (Kd.R_far (p := ⟨gb626, 4, none⟩) (Kd.R_far (p := ⟨gb626, 3, none⟩) (Kd.R_far (p := ⟨gb626, 2, none⟩) (Kd.R_far (p := ⟨gb626, 1, none⟩) (Kd.R_far (p := ⟨gb626, 0, none⟩) (Kd.R_types HO623.out BK626.out (by decide)) (fun _ hk => hk.2) (.int .i64 t610)) (fun _ hk => hk.2) (.int .u64 t611)) (fun _ hk => hk.2) (.int .u64 t612)) (fun _ hk => hk.2) (.int .u64 t613)) (fun _ hk => hk.2) (.int .u64 t614)) (fun _ hk => hk.2) (.int .u64 t615)) (fun _ hk => hk.2) (.int .u64 t616)) (fun _ hk => hk.2) (.bool t617)) (fun _ hk => hk.2) (.slice Ao32 t618.length co32)) (fun _ hk => hk.2) (.slice Ao33 t621.length co33)) (fun _ h_ => h_.1)))); (case side2 => exact (Kd.R_reads' HO623.out).2.1); (case side3 => refine (Kd.R_reads' (e := 47) (base := w.heap.size) (ok := fun k_ => (True ∧ some k_ ≠ (.slice Ao33 t621.length co33 : Value).ownBlock)) (n := x6_1.length) (c := co26) ?_).2.2; exact (by (with_reducible repeat (first | apply Kd.R_alloc | apply Kd.R_drewN | apply Kd.R_drew)); exact (Kd.R_mono (Kd.R_far (p := ⟨gb626, 9, none⟩) (Kd.R_far (p := ⟨gb626, 8, none⟩) (Kd.R_far (p := ⟨gb626, 7, none⟩) (Kd.R_far (p := ⟨gb626, 6, none⟩) (Kd.R_far (p := ⟨gb626, 5, none⟩) (Kd.R_far (p := ⟨gb626, 4, none⟩) (Kd.R_far (p := ⟨gb626, 3, none⟩) (Kd.R_far (p := ⟨gb626, 2, none⟩) (Kd.R_far (p := ⟨gb626, 1, none⟩) (Kd.R_far (p := ⟨gb626, 0, none⟩) (Kd.R_types HO_6.out BK626.out (by decide)) (fun _ hk => hk.2) (.int .i64 t610)) (fun _ hk => hk.2) (.int .u64 t611)) (fun _ hk => hk.2) (.int .u64 t612)) (fun _ hk => hk.2) (.int .u64 t613)) (fun _ hk => hk.2) (.int .u64 t614)) (fun _ hk => hk.2) (.int .u64 t615)) (fun _ hk => hk.2) (.int .u64 t616)) (fun _ hk => hk.2) (.bool t617)) (fun _ hk => hk.2) (.slice Ao32 t618.length co32)) (fun _ hk => hk.2) (.slice Ao33 t621.length co33)) (fun _ h_ => h_.1)))); (case side4 => exact (Kd.R_reads' HO_6.out).2.1); rintro e w' ⟨rfl, ⟨nd, rfl⟩⟩; refine ⟨_, rfl, ?_⟩))
                      go_ret
                      exact ⟨by first | rfl | (simp [errW_none, errW_some] <;> rfl) | (simp [*, errW_none, errW_some] <;> rfl), by repeat (first | (with_reducible first | exact HB.out | apply below_alloc | apply pw_below_drewN | apply below_drew1 | refine below_set ?_ GE626.out) | exact HB.out)⟩
                    · rw [if_neg c25] at H
                      exact absurd H (by simp)
                  · replace c24 := Bool.eq_false_iff.mpr c24
                    subst c24
                    have H1 : (none) = some r := by rw [if_neg (show ¬ (false = true) by decide)] at H; exact H
                    clear H
                    have H := H1
                    clear H1
                    exact absurd H (by simp)
                · rw [if_neg c23] at H
                  exact absurd H (by simp)
              · rw [if_neg c22] at H
                exact absurd H (by simp)
            · replace c21 := Bool.eq_false_iff.mpr c21
              subst c21
              have H1 : (none) = some r := by rw [if_neg (show ¬ (false = true) by decide)] at H; exact H
              clear H
              have H := H1
              clear H1
              exact absurd H (by simp)
      · rw [if_neg c5] at H
        have c5b0 : decide ((wrap64 (x8_1 + 1)) < (l0.length : Int)) = false := decide_eq_false c5
        clear c5
        replace H := Option.bind_eq_some_iff.mp H
        obtain ⟨⟨t628, t631⟩, A340, H⟩ := H
        replace H : (if (x6_1.length : Int) = 0 then (if t600 = true then (some (t631 == 50)) else (none)) else ((frame_Parse.f t628).bind fun bt632 => ((wigwagref05_Spans.f k1 bt632.2.2.2.2.2.2.2.2.2.1 x6_1).bind fun t649 => (if t600 = true then (if t631 = 0 then (if bt632.2.2.2.2.2.2.2.2.2.2.2 = 0 then (if t649 = true then (if bt632.2.2.2.2.2.2.2.2.2.2.1 = (t628.length : Int) then (some (bt632.2.2.2.2.2.1 == (IntKind.u64.wrap (a1)))) else (none)) else (none)) else (none)) else (none)) else (none))))) = some r := H
        have A34 := Aside0.mk A340
        clear A340
        by_cases c35 : (x6_1.length : Int) = 0
        · rw [if_pos c35] at H
          have c35b0 : ((x6_1.length : Int) == 0) = true := beq_iff_eq.mpr c35
          have c35b1 : ((x6_1.length : Int) != 0) = false := bne_eq_false_iff_eq.mpr c35
          clear c35
          by_cases c36 : t600 = true
          · subst c36
            have H1 : (some (t631 == 50)) = some r := by rw [if_pos rfl] at H; exact H
            clear H
            have H := H1
            clear H1
            obtain rfl := Option.some.inj H
            obtain ⟨Ao37, co37, eo37⟩ := Kd.R_slice HO_6.out
            subst eo37
            go_wp2_with (first | ((with_reducible refine gate_callee (f := 13) rfl ?_); refine goesL_ (some 59) rfl rfl Try.func13 (by kernel_rfl) rfl #[.agg #[.int .i64 2, .int .u64 0, .int .u64 0, .int .u64 0, .int .u64 0, .int .u64 (IntKind.u64.wrap (a1)), .int .u64 0, .bool false, .slice none 0 0, .slice Ao37 x6_1.length co37]] rfl (by (try simp only [List.map_toArray, List.map_cons, List.map_nil]); first | done | rfl | (simp only [List.length_drop, List.length_take]; rfl)) ?_; (refine (frame_Encode.calls k1 2 0 0 0 0 (IntKind.u64.wrap (a1)) 0 false _ _ ([] : List Int) _ _ x6_1 t628 t631 _ ?side1 ?side2 ?side3 ?side4 A34.out).mono ?_); (case side1 => exact Kd.C_nil _ _); (case side2 => exact Nat.le_refl _); (case side3 => repeat (first | exact (Kd.R_reads' HO_6.out).2.2 | (with_reducible refine Kd.C_alloc ?_ _) | (with_reducible refine Kd.C_drewN ?_ _) | (with_reducible refine Kd.C_drew ?_))); (case side4 => exact (Kd.R_reads' HO_6.out).2.1); rintro e w38 ⟨v629, rfl, ho0, hb⟩; refine ⟨_, rfl, ?_⟩; have n0_ := Aside0.mk (Kd.R_below (by (with_reducible repeat (first | apply Kd.R_alloc | apply Kd.R_drewN | apply Kd.R_drew)); exact HO_6.out) hb); have n1_ := Aside0.mk (Kd.R_lower ho0 (below_size (by repeat (first | (with_reducible first | exact HB.out | apply below_alloc | apply pw_below_drewN | apply below_drew1) | exact HB.out)))); have n2_ := Aside0.mk (below_step (by repeat (first | (with_reducible first | exact HB.out | apply below_alloc | apply pw_below_drewN | apply below_drew1) | exact HB.out)) hb); clear HO_6; clear HB; have HO_6 := n0_; have HO630 := n1_; have HB := n2_; clear n0_ n1_ n2_; (try clear hb); (try clear hb2); (try clear hk); (try clear hi); (try clear ho0)))
            go_ret
            exact ⟨by first | rfl | (simp [errW_none, errW_some] <;> rfl) | (simp [*, errW_none, errW_some] <;> rfl), by repeat (first | (with_reducible first | exact HB.out | apply below_alloc | apply pw_below_drewN | apply below_drew1) | exact HB.out)⟩
          · replace c36 := Bool.eq_false_iff.mpr c36
            subst c36
            have H1 : (none) = some r := by rw [if_neg (show ¬ (false = true) by decide)] at H; exact H
            clear H
            have H := H1
            clear H1
            exact absurd H (by simp)
        · rw [if_neg c35] at H
          have c35b0 : ((x6_1.length : Int) == 0) = false := beq_eq_false_iff_ne.mpr c35
          have c35b1 : ((x6_1.length : Int) != 0) = true := bne_iff_ne.mpr c35
          have c35b2 : ¬ (x6_1 = []) := fun h_ => c35 (by rw [h_]; rfl)
          replace H := Option.bind_eq_some_iff.mp H
          obtain ⟨⟨t632, t633, t634, t635, t636, t637, t638, t639, t640, t643, t646, t647⟩, A390, H⟩ := H
          replace H : ((wigwagref05_Spans.f k1 t643 x6_1).bind fun t649 => (if t600 = true then (if t631 = 0 then (if t647 = 0 then (if t649 = true then (if t646 = (t628.length : Int) then (some (t637 == (IntKind.u64.wrap (a1)))) else (none)) else (none)) else (none)) else (none)) else (none))) = some r := H
          have A39 := Aside0.mk A390
          clear A390
          replace H := Option.bind_eq_some_iff.mp H
          obtain ⟨t649, A400, H⟩ := H
          replace H : (if t600 = true then (if t631 = 0 then (if t647 = 0 then (if t649 = true then (if t646 = (t628.length : Int) then (some (t637 == (IntKind.u64.wrap (a1)))) else (none)) else (none)) else (none)) else (none)) else (none)) = some r := H
          have A40 := Aside0.mk A400
          clear A400
          by_cases c41 : t600 = true
          · subst c41
            have H1 : (if t631 = 0 then (if t647 = 0 then (if t649 = true then (if t646 = (t628.length : Int) then (some (t637 == (IntKind.u64.wrap (a1)))) else (none)) else (none)) else (none)) else (none)) = some r := by rw [if_pos rfl] at H; exact H
            clear H
            have H := H1
            clear H1
            by_cases c42 : t631 = 0
            · rw [if_pos c42] at H
              have c42b0 : (t631 == 0) = true := beq_iff_eq.mpr c42
              have c42b1 : (t631 != 0) = false := bne_eq_false_iff_eq.mpr c42
              clear c42
              by_cases c43 : t647 = 0
              · rw [if_pos c43] at H
                have c43b0 : (t647 == 0) = true := beq_iff_eq.mpr c43
                have c43b1 : (t647 != 0) = false := bne_eq_false_iff_eq.mpr c43
                clear c43
                by_cases c44 : t649 = true
                · subst c44
                  have H1 : (if t646 = (t628.length : Int) then (some (t637 == (IntKind.u64.wrap (a1)))) else (none)) = some r := by rw [if_pos rfl] at H; exact H
                  clear H
                  have H := H1
                  clear H1
                  by_cases c45 : t646 = (t628.length : Int)
                  · rw [if_pos c45] at H
                    have c45b0 : (t646 == (t628.length : Int)) = true := beq_iff_eq.mpr c45
                    have c45b1 : (t646 != (t628.length : Int)) = false := bne_eq_false_iff_eq.mpr c45
                    clear c45
                    obtain rfl := Option.some.inj H
                    obtain ⟨Ao46, co46, eo46⟩ := Kd.R_slice HO_6.out
                    subst eo46
                    go_wp2_with (first | ((with_reducible refine gate_callee (f := 13) rfl ?_); refine goesL_ (some 59) rfl rfl Try.func13 (by kernel_rfl) rfl #[.agg #[.int .i64 2, .int .u64 0, .int .u64 0, .int .u64 0, .int .u64 0, .int .u64 (IntKind.u64.wrap (a1)), .int .u64 0, .bool false, .slice none 0 0, .slice Ao46 x6_1.length co46]] rfl (by (try simp only [List.map_toArray, List.map_cons, List.map_nil]); first | done | rfl | (simp only [List.length_drop, List.length_take]; rfl)) ?_; (refine (frame_Encode.calls k1 2 0 0 0 0 (IntKind.u64.wrap (a1)) 0 false _ _ ([] : List Int) _ _ x6_1 t628 t631 _ ?side1 ?side2 ?side3 ?side4 A34.out).mono ?_); (case side1 => exact Kd.C_nil _ _); (case side2 => exact Nat.le_refl _); (case side3 => repeat (first | exact (Kd.R_reads' HO_6.out).2.2 | (with_reducible refine Kd.C_alloc ?_ _) | (with_reducible refine Kd.C_drewN ?_ _) | (with_reducible refine Kd.C_drew ?_))); (case side4 => exact (Kd.R_reads' HO_6.out).2.1); rintro e w47 ⟨v629, rfl, ho0, hb⟩; refine ⟨_, rfl, ?_⟩; have n0_ := Aside0.mk (Kd.R_below (by (with_reducible repeat (first | apply Kd.R_alloc | apply Kd.R_drewN | apply Kd.R_drew)); exact HO_6.out) hb); have n1_ := Aside0.mk (Kd.R_lower ho0 (below_size (by repeat (first | (with_reducible first | exact HB.out | apply below_alloc | apply pw_below_drewN | apply below_drew1) | exact HB.out)))); have n2_ := Aside0.mk (below_step (by repeat (first | (with_reducible first | exact HB.out | apply below_alloc | apply pw_below_drewN | apply below_drew1) | exact HB.out)) hb); clear HO_6; clear HB; have HO_6 := n0_; have HO630 := n1_; have HB := n2_; clear n0_ n1_ n2_; (try clear hb); (try clear hb2); (try clear hk); (try clear hi); (try clear ho0); obtain ⟨Ao48, co48, eo48⟩ := Kd.R_slice HO630.out; subst eo48) | ((with_reducible refine gate_callee (f := 17) rfl ?_); refine goesL_ (some 72) rfl rfl Try.func17 (by kernel_rfl) rfl #[.slice Ao48 t628.length co48] rfl (by (try simp only [List.map_toArray, List.map_cons, List.map_nil]); first | done | rfl | (simp only [List.length_drop, List.length_take]; rfl)) ?_; (with_reducible refine (frame_Parse.calls _ _ t628 t632 t633 t634 t635 t636 t637 t638 t639 t640 t643 t646 t647 _ ?side1 ?side2 A39.out).mono ?_); (case side1 => repeat (first | exact (Kd.R_reads' HO630.out).2.2 | (with_reducible refine Kd.C_alloc ?_ _) | (with_reducible refine Kd.C_drewN ?_ _) | (with_reducible refine Kd.C_drew ?_))); (case side2 => exact (Kd.R_reads' HO630.out).2.1); rintro e w49 ⟨v641, v644, rfl, ho0, ho1, hb⟩; refine ⟨_, rfl, ?_⟩; have n0_ := Aside0.mk (Kd.R_elder' (by (with_reducible repeat (first | apply Kd.R_alloc | apply Kd.R_drewN | apply Kd.R_drew)); exact HO_6.out) (Kd.R_base ho1) hb); have n1_ := Aside0.mk (Kd.R_elder' (by (with_reducible repeat (first | apply Kd.R_alloc | apply Kd.R_drewN | apply Kd.R_drew)); exact HO630.out) (Kd.R_base ho0) hb); have n2_ := Aside0.mk (Kd.R_lower (Kd.R_new' ho0 (Kd.R_lt (by (with_reducible repeat (first | apply Kd.R_alloc | apply Kd.R_drewN | apply Kd.R_drew)); exact HO630.out))) (below_size (by repeat (first | (with_reducible first | exact HB.out | apply below_alloc | apply pw_below_drewN | apply below_drew1) | exact HB.out)))); have n3_ := Aside0.mk (Kd.R_lower (Kd.R_new' ho1 (Kd.R_lt (by (with_reducible repeat (first | apply Kd.R_alloc | apply Kd.R_drewN | apply Kd.R_drew)); exact HO_6.out))) (below_size (by repeat (first | (with_reducible first | exact HB.out | apply below_alloc | apply pw_below_drewN | apply below_drew1) | exact HB.out)))); have n4_ := Aside0.mk (below_step (by repeat (first | (with_reducible first | exact HB.out | apply below_alloc | apply pw_below_drewN | apply below_drew1) | exact HB.out)) hb); clear HO_6; clear HO630; clear HB; have HO_6 := n0_; have HO630 := n1_; have HO642 := n2_; have HO645 := n3_; have HB := n4_; clear n0_ n1_ n2_ n3_ n4_; (try clear hb); (try clear hb2); (try clear hk); (try clear hi); (try clear ho0); (try clear ho1)) | ((with_reducible refine gate_dst (N := 13) rfl ?_); (try (refine gate_guard (by rfl) ?_; dsimp only)); refine box_event ?hg (N := 13) ?hd (cs := #[.int .i64 0, .int .u64 0, .int .u64 0, .int .u64 0, .int .u64 0, .int .u64 0, .int .u64 0, .bool false, .slice none 0 0, .slice none 0 0]) (t := 27) ?hr ?_; (case hd => rfl); (case hg => rfl); (case hr => first | (go_simp; done) | (go_simp; rfl)); intro gb648 hg w50 hbox hb; have n0_ := Aside0.mk (Kd.R_below (by (with_reducible repeat (first | apply Kd.R_alloc | apply Kd.R_drewN | apply Kd.R_drew)); exact HO_6.out) hb); have n1_ := Aside0.mk (Kd.R_below (by (with_reducible repeat (first | apply Kd.R_alloc | apply Kd.R_drewN | apply Kd.R_drew)); exact HO630.out) hb); have n2_ := Aside0.mk (Kd.R_below (by (with_reducible repeat (first | apply Kd.R_alloc | apply Kd.R_drewN | apply Kd.R_drew)); exact HO642.out) hb); have n3_ := Aside0.mk (Kd.R_below (by (with_reducible repeat (first | apply Kd.R_alloc | apply Kd.R_drewN | apply Kd.R_drew)); exact HO645.out) hb); have n4_ := Aside0.mk (below_step (by repeat (first | (with_reducible first | exact HB.out | apply below_alloc | apply pw_below_drewN | apply below_drew1) | exact HB.out)) hb); have n5_ := Aside0.mk (hbox); have n6_ := Aside0.mk ((by rw [hg]; exact (below_size (by repeat (first | (with_reducible first | exact HB.out | apply below_alloc | apply pw_below_drewN | apply below_drew1) | exact HB.out))) : w.heap.size ≤ gb648)); have n7_ := Aside0.mk ((by rw [hg]; exact (below_size (by repeat (first | (with_reducible first | exact HB.out | apply below_alloc | apply pw_below_drewN | apply below_drew1) | exact HB.out))) : w.heap.size ≤ gb648)); clear HO_6; clear HO630; clear HO642; clear HO645; clear HB; have HO_6 := n0_; have HO630 := n1_; have HO642 := n2_; have HO645 := n3_; have HB := n4_; have BK648 := n5_; have GW648 := n6_; have GE648 := n7_; clear n0_ n1_ n2_ n3_ n4_ n5_ n6_ n7_; clear hb hbox hg; have hcz51_0 : w50.cell? ⟨gb648, 0, none⟩ = some (.int .i64 0) := (blk_cell BK648.out 0).trans rfl; have hcz51_1 : w50.cell? ⟨gb648, 1, none⟩ = some (.int .u64 0) := (blk_cell BK648.out 1).trans rfl; have hcz51_2 : w50.cell? ⟨gb648, 2, none⟩ = some (.int .u64 0) := (blk_cell BK648.out 2).trans rfl; have hcz51_3 : w50.cell? ⟨gb648, 3, none⟩ = some (.int .u64 0) := (blk_cell BK648.out 3).trans rfl; have hcz51_4 : w50.cell? ⟨gb648, 4, none⟩ = some (.int .u64 0) := (blk_cell BK648.out 4).trans rfl; have hcz51_5 : w50.cell? ⟨gb648, 5, none⟩ = some (.int .u64 0) := (blk_cell BK648.out 5).trans rfl; have hcz51_6 : w50.cell? ⟨gb648, 6, none⟩ = some (.int .u64 0) := (blk_cell BK648.out 6).trans rfl; have hcz51_7 : w50.cell? ⟨gb648, 7, none⟩ = some (.bool false) := (blk_cell BK648.out 7).trans rfl; have hcz51_8 : w50.cell? ⟨gb648, 8, none⟩ = some (.slice none 0 0) := (blk_cell BK648.out 8).trans rfl; have hcz51_9 : w50.cell? ⟨gb648, 9, none⟩ = some (.slice none 0 0) := (blk_cell BK648.out 9).trans rfl; have hfz51_0 := blk_frozen BK648.out 0; have hfz51_1 := blk_frozen BK648.out 1; have hfz51_2 := blk_frozen BK648.out 2; have hfz51_3 := blk_frozen BK648.out 3; have hfz51_4 := blk_frozen BK648.out 4; have hfz51_5 := blk_frozen BK648.out 5; have hfz51_6 := blk_frozen BK648.out 6; have hfz51_7 := blk_frozen BK648.out 7; have hfz51_8 := blk_frozen BK648.out 8; have hfz51_9 := blk_frozen BK648.out 9; obtain ⟨Ao52, co52, eo52⟩ := Kd.R_slice HO642.out; subst eo52; obtain ⟨Ao53, co53, eo53⟩ := Kd.R_slice HO645.out; subst eo53) | ((with_reducible refine gate_callee (f := 23) rfl ?_); refine goesL_ (some 79) rfl rfl Try.func23 (by kernel_rfl) rfl #[.slice Ao53 t643.length co53, .slice Ao46 x6_1.length co46] rfl (by (try simp only [List.map_toArray, List.map_cons, List.map_nil]); first | done | rfl | (simp only [List.length_drop, List.length_take]; rfl)) ?_; (with_reducible refine (wigwagref05_Spans.calls k1 _ _ t643 _ _ x6_1 true _ ?side1 ?side2 ?side3 ?side4 A40.out).mono ?_); (case side1 => refine (Kd.R_reads' (e := 47) (base := w.heap.size) (ok := fun k_ => (True ∧ some k_ ≠ (.slice Ao46 x6_1.length co46 : Value).ownBlock)) (n := t643.length) (c := co53) ?_).2.2; exact (by (with_reducible repeat (first | apply Kd.R_alloc | apply Kd.R_drewN | apply Kd.R_drew)); exact (Kd.R_mono (Kd.R_far (p := ⟨gb648, 9, none⟩) (Kd.R_far (p := ⟨gb648, 8, none⟩) (Kd.R_far (p := ⟨gb648, 7, none⟩) (Kd.R_far (p := ⟨gb648, 6, none⟩) (Kd.R_far (p := ⟨gb648, 5, none⟩) (Kd.R_far (p := ⟨gb648, 4, none⟩) (Kd.R_far (p := ⟨gb648, 3, none⟩) (Kd.R_far (p := ⟨gb648, 2, none⟩) (Kd.R_far (p := ⟨gb648, 1, none⟩) (Kd.R_far (p := ⟨gb648, 0, none⟩) (Kd.R_types HO645.out BK648.out (by decide)) (fun _ hk => hk.2) (.int .i64 t632)) (fun _ hk => hk.2) (.int .u64 t633)) (fun _ hk => hk.2) (.int .u64 t634)) (fun _ hk => hk.2) (.int .u64 t635)) (fun _ hk => hk.2) (.int .u64 t636)) (fun _ hk => hk.2) (.int .u64 t637)) (fun _ hk => hk.2) (.int .u64 t638)) (fun _ hk => hk.2) (.bool t639)) (fun _ hk => hk.2) (.slice Ao52 t640.length co52)) (fun _ hk => hk.2) (.slice Ao53 t643.length co53)) (fun _ h_ => h_.1)))); (case side2 => exact (Kd.R_reads' HO645.out).2.1); (case side3 => refine (Kd.R_reads' (e := 47) (base := w.heap.size) (ok := fun k_ => (True ∧ some k_ ≠ (.slice Ao53 t643.length co53 : Value).ownBlock)) (n := x6_1.length) (c := co46) ?_).2.2; exact (by (with_reducible repeat (first | apply Kd.R_alloc | apply Kd.R_drewN | apply Kd.R_drew)); exact (Kd.R_mono (Kd.R_far (p := ⟨gb648, 9, none⟩) (Kd.R_far (p := ⟨gb648, 8, none⟩) (Kd.R_far (p := ⟨gb648, 7, none⟩) (Kd.R_far (p := ⟨gb648, 6, none⟩) (Kd.R_far (p := ⟨gb648, 5, none⟩) (Kd.R_far (p := ⟨gb648, 4, none⟩) (Kd.R_far (p := ⟨gb648, 3, none⟩) (Kd.R_far (p := ⟨gb648, 2, none⟩) (Kd.R_far (p := ⟨gb648, 1, none⟩) (Kd.R_far (p := ⟨gb648, 0, none⟩) (Kd.R_types HO_6.out BK648.out (by decide)) (fun _ hk => hk.2) (.int .i64 t632)) (fun _ hk => hk.2) (.int .u64 t633)) (fun _ hk => hk.2) (.int .u64 t634)) (fun _ hk => hk.2) (.int .u64 t635)) (fun _ hk => hk.2) (.int .u64 t636)) (fun _ hk => hk.2) (.int .u64 t637)) (fun _ hk => hk.2) (.int .u64 t638)) (fun _ hk => hk.2) (.bool t639)) (fun _ hk => hk.2) (.slice Ao52 t640.length co52)) (fun _ hk => hk.2) (.slice Ao53 t643.length co53)) (fun _ h_ => h_.1)))); (case side4 => exact (Kd.R_reads' HO_6.out).2.1); rintro e w' ⟨rfl, ⟨nd, rfl⟩⟩; refine ⟨_, rfl, ?_⟩))
                    go_ret
                    exact ⟨by first | rfl | (simp [errW_none, errW_some] <;> rfl) | (simp [*, errW_none, errW_some] <;> rfl), by repeat (first | (with_reducible first | exact HB.out | apply below_alloc | apply pw_below_drewN | apply below_drew1 | refine below_set ?_ GE648.out) | exact HB.out)⟩
                  · rw [if_neg c45] at H
                    exact absurd H (by simp)
                · replace c44 := Bool.eq_false_iff.mpr c44
                  subst c44
                  have H1 : (none) = some r := by rw [if_neg (show ¬ (false = true) by decide)] at H; exact H
                  clear H
                  have H := H1
                  clear H1
                  exact absurd H (by simp)
              · rw [if_neg c43] at H
                exact absurd H (by simp)
            · rw [if_neg c42] at H
              exact absurd H (by simp)
          · replace c41 := Bool.eq_false_iff.mpr c41
            subst c41
            have H1 : (none) = some r := by rw [if_neg (show ¬ (false = true) by decide)] at H; exact H
            clear H
            have H := H1
            clear H1
            exact absurd H (by simp)

/-- THE ONE PURE STATEMENT of wigwaglaw05_FrameSpans: yours. -/
def wigwaglaw05_FrameSpans.Pure : Prop := ∀ (l0 : List Int) (a1 : Int), l0.length ≤ maxLen → l0.length * 2 ≤ 140737488351232 → (∀ x ∈ l0, (Lit.int .u16 x).wf = true) → (Lit.int .u32 a1).wf = true → ∃ k, wigwaglaw05_FrameSpans.f k l0 a1 = some true
theorem wigwaglaw05_FrameSpans.walk (P : wigwaglaw05_FrameSpans.Pure) (a0 : Option Addr) (len0 cap0 : Nat) (z0 : List Int) (a1 : Int) (w : World) (w0 : (a0 = none ∧ len0 = 0 ∧ cap0 = 0 ∧ z0 = []) ∨ ∃ x, a0 = some x ∧ len0 ≤ cap0 ∧ cap0 ≤ maxLen ∧ z0.length = cap0 ∧ (∀ i, i < z0.length → w.cell? (x.add i) = some (.int .u16 (z0.getD i 0))) ∧ ∀ n ∈ z0, (Lit.int .u16 n).wf = true) (y0 : len0 * 2 ≤ 140737488351232) (w1 : (Lit.int .u32 a1).wf = true) :
    Calls Try.prog 8 #[.slice a0 len0 cap0, .int .u32 a1] w fun e w' => e = .returned (.bool true) ∧ Below w.heap.size w w' := by
  obtain ⟨l0, rfl, hr0, hm0, hw0, hc0⟩ := ReadsInt.ofRowC w0
  obtain ⟨k, h⟩ := P l0 a1 hm0 y0 hw0 w1
  refine (wigwaglaw05_FrameSpans.calls k _ _ l0 a1 true w (Kd.C_of_reads (d := (0 : Int)) (h1 := fun _ => rfl) hr0) hc0 h).mono ?_
  rintro e w' ⟨rfl, hd⟩
  exact ⟨rfl, hd⟩

end Go.Proofs.Ytphakdfholkbdaa.PFra
