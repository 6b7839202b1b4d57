-- Written by a program of this session (wip/tools/xprint.py) for this claim.
import Derived.Test.YtphakdfholkbdaaPFrax0
import Derived.Test.YtphakdfholkbdaaPFrax14
import Derived.Test.YtphakdfholkbdaaPFrax15
namespace Go.Proofs.Ytphakdfholkbdaa.PFra
open Go.RowKit Go.Proofs.YtphakdfholkbdaaW.PrintWords Go.Proofs.YtphakdfholkbdaaW.PrintLast Go.Proofs.YtphakdfholkbdaaW.PrintMore
attribute [local go_sem] max2_int min2_int max_two min_two max_three min_three max_four min_four   -- for this text's walks alone
set_option linter.unusedVariables false
set_option linter.unusedSimpArgs false

-- NOT PRINTED: function 9 (wigwaglaw05_FrameLists)

/-! ### wigwaglaw05_FrameZeros: function 10 -/
def wigwaglaw05_FrameZeros.f (k : Nat) (a0 : Int) : Option (Bool) := (wigwaglaw05_awake.f k).bind fun t662 => (if 0 ≤ (wrap64 ((Int.tmod (wrap64 (a0)) 1500) + 1)) then (if (wrap64 ((Int.tmod (wrap64 (a0)) 1500) + 1) : Int).toNat ≤ 281474976710656 then ((some (List.replicate (wrap64 ((Int.tmod (wrap64 (a0)) 1500) + 1) : Int).toNat 0 : List Int)).bind fun y663 => ((frame_All.f k y663).bind fun bt666 => (if y663.length < 140737488355328 then ((frame_All.f k (y663 ++ [7])).bind fun bt673 => (if t662 = true then (if (bt666.1.length : Int) = (wrap64 ((Int.tmod (wrap64 (a0)) 1500) + 1)) then (if bt666.2 = 0 then (some (bt673.2 == 50)) else (none)) else (none)) else (none))) else (none)))) else (none)) else (none))
theorem wigwaglaw05_FrameZeros.mono : ∀ a0 k, LeO (wigwaglaw05_FrameZeros.f k a0) (wigwaglaw05_FrameZeros.f (k + 1) a0) := by
  intro a0 k
  unfold wigwaglaw05_FrameZeros.f
  repeat' first
      | (with_reducible exact frame_All.mono _ _)
      | (with_reducible exact wigwaglaw05_awake.mono _)
      | (with_reducible exact LeO.refl _)
      | (with_reducible exact LeO.none _)
      | (with_reducible refine LeO.ite ?_ ?_)
      | (with_reducible refine LeO.bind ?_ (fun _ => ?_))
      | exact frame_All.mono _ _
      | exact wigwaglaw05_awake.mono _
      | exact LeO.none _
      | refine LeO.ite ?_ ?_
      | refine LeO.bind ?_ (fun _ => ?_)
set_option maxHeartbeats 8000000 in
set_option maxRecDepth 100000 in
theorem wigwaglaw05_FrameZeros.calls (k : Nat) (a0 : Int) (r : Bool) (w : World) (h : wigwaglaw05_FrameZeros.f k a0 = some r) :
    Calls Try.prog 10 #[.int .u16 a0] w fun e w' => e = .returned (.bool r) ∧ Below w.heap.size w w' := by
  have HB := Aside0.mk (Below.refl w.heap.size w)
  have H : ((wigwaglaw05_awake.f k).bind fun t662 => (if 0 ≤ (wrap64 ((Int.tmod (wrap64 (a0)) 1500) + 1)) then (if (wrap64 ((Int.tmod (wrap64 (a0)) 1500) + 1) : Int).toNat ≤ 281474976710656 then ((some (List.replicate (wrap64 ((Int.tmod (wrap64 (a0)) 1500) + 1) : Int).toNat 0 : List Int)).bind fun y663 => ((frame_All.f k y663).bind fun bt666 => (if y663.length < 140737488355328 then ((frame_All.f k (y663 ++ [7])).bind fun bt673 => (if t662 = true then (if (bt666.1.length : Int) = (wrap64 ((Int.tmod (wrap64 (a0)) 1500) + 1)) then (if bt666.2 = 0 then (some (bt673.2 == 50)) else (none)) else (none)) else (none))) else (none)))) else (none)) else (none))) = some r := h
  clear h
  replace H := Option.bind_eq_some_iff.mp H
  obtain ⟨t662, A20, H⟩ := H
  replace H : (if 0 ≤ (wrap64 ((Int.tmod (wrap64 (a0)) 1500) + 1)) then (if (wrap64 ((Int.tmod (wrap64 (a0)) 1500) + 1) : Int).toNat ≤ 281474976710656 then ((some (List.replicate (wrap64 ((Int.tmod (wrap64 (a0)) 1500) + 1) : Int).toNat 0 : List Int)).bind fun y663 => ((frame_All.f k y663).bind fun bt666 => (if y663.length < 140737488355328 then ((frame_All.f k (y663 ++ [7])).bind fun bt673 => (if t662 = true then (if (bt666.1.length : Int) = (wrap64 ((Int.tmod (wrap64 (a0)) 1500) + 1)) then (if bt666.2 = 0 then (some (bt673.2 == 50)) else (none)) else (none)) else (none))) else (none)))) else (none)) else (none)) = some r := H
  have A2 := Aside0.mk A20
  clear A20
  obtain ⟨ji3, hji3⟩ : ∃ j_ : Int, (wrap64 ((Int.tmod (wrap64 (a0)) 1500) + 1)) = j_ := ⟨_, rfl⟩
  replace H : (if 0 ≤ (ji3) then (if (ji3 : Int).toNat ≤ 281474976710656 then ((some (List.replicate (ji3 : Int).toNat 0 : List Int)).bind fun y663 => ((frame_All.f k y663).bind fun bt666 => (if y663.length < 140737488355328 then ((frame_All.f k (y663 ++ [7])).bind fun bt673 => (if t662 = true then (if (bt666.1.length : Int) = (ji3) then (if bt666.2 = 0 then (some (bt673.2 == 50)) else (none)) else (none)) else (none))) else (none)))) else (none)) else (none)) = some r := by first | (rw [hji3] at H; exact H) | (simp only [hji3] at H ⊢; exact H)
  (try rw [hji3] at A2)
  have hji3w : (IntKind.i64.wrap ((Int.tmod (wrap64 (a0)) 1500) + 1)) = ji3 := (i64_w _).trans hji3
  by_cases c4 : 0 ≤ (ji3)
  · rw [if_pos c4] at H
    have c4b0 := eq_true c4
    have c4b1 : decide (0 ≤ (ji3)) = true := decide_eq_true c4
    clear c4
    by_cases c5 : (ji3 : Int).toNat ≤ 281474976710656
    · rw [if_pos c5] at H
      have c5b0 := eq_true c5
      have c5b1 : decide ((ji3 : Int).toNat ≤ 281474976710656) = true := decide_eq_true c5
      clear c5
      obtain ⟨y663, hy663⟩ : ∃ y_ : List Int, y_ = (List.replicate (ji3 : Int).toNat 0) := ⟨_, rfl⟩
      replace H : ((frame_All.f k y663).bind fun bt666 => (if y663.length < 140737488355328 then ((frame_All.f k (y663 ++ [7])).bind fun bt673 => (if t662 = true then (if (bt666.1.length : Int) = (ji3) then (if bt666.2 = 0 then (some (bt673.2 == 50)) else (none)) else (none)) else (none))) else (none))) = some r := by first | (rw [hy663]; with_reducible exact H) | (have H2_ := (Option.bind_some _ _).symm.trans H; rw [hy663]; with_reducible exact H2_) | (have H2_ := (Option.bind_some _ _).symm.trans H; with_reducible exact H2_) | with_reducible exact H | (rw [hy663]; exact H) | exact H
      have Ny663 := Aside0.mk hy663
      clear hy663
      replace H := Option.bind_eq_some_iff.mp H
      obtain ⟨⟨t666, t669⟩, A60, H⟩ := H
      replace H : (if y663.length < 140737488355328 then ((frame_All.f k (y663 ++ [7])).bind fun bt673 => (if t662 = true then (if (t666.length : Int) = (ji3) then (if t669 = 0 then (some (bt673.2 == 50)) else (none)) else (none)) else (none))) else (none)) = some r := H
      have A6 := Aside0.mk A60
      clear A60
      by_cases c7 : y663.length < 140737488355328
      · rw [if_pos c7] at H
        have LMc7 := Aside0.mk c7
        clear c7
        obtain ⟨y670, hy670⟩ : ∃ y_ : List Int, y_ = (y663 ++ [7]) := ⟨_, rfl⟩
        replace H : ((frame_All.f k y670).bind fun bt673 => (if t662 = true then (if (t666.length : Int) = (ji3) then (if t669 = 0 then (some (bt673.2 == 50)) else (none)) else (none)) else (none))) = some r := by first | (rw [hy670]; with_reducible exact H) | (have H2_ := (Option.bind_some _ _).symm.trans H; rw [hy670]; with_reducible exact H2_) | (have H2_ := (Option.bind_some _ _).symm.trans H; with_reducible exact H2_) | with_reducible exact H | (rw [hy670]; exact H) | exact H
        have Ny670 := Aside0.mk hy670
        clear hy670
        replace H := Option.bind_eq_some_iff.mp H
        obtain ⟨⟨t673, t676⟩, A80, H⟩ := H
        replace H : (if t662 = true then (if (t666.length : Int) = (ji3) then (if t669 = 0 then (some (t676 == 50)) else (none)) else (none)) else (none)) = some r := H
        have A8 := Aside0.mk A80
        clear A80
        by_cases c9 : t662 = true
        · subst c9
          have H1 : (if (t666.length : Int) = (ji3) then (if t669 = 0 then (some (t676 == 50)) else (none)) else (none)) = some r := by rw [if_pos rfl] at H; exact H
          clear H
          have H := H1
          clear H1
          by_cases c10 : (t666.length : Int) = (ji3)
          · rw [if_pos c10] at H
            have c10b0 : ((t666.length : Int) == (ji3)) = true := beq_iff_eq.mpr c10
            have c10b1 : ((t666.length : Int) != (ji3)) = false := bne_eq_false_iff_eq.mpr c10
            clear c10
            by_cases c11 : t669 = 0
            · rw [if_pos c11] at H
              have c11b0 : (t669 == 0) = true := beq_iff_eq.mpr c11
              have c11b1 : (t669 != 0) = false := bne_eq_false_iff_eq.mpr c11
              clear c11
              obtain rfl := Option.some.inj H
              go_enter Try.func10, Try.ntmps10
              go_wp2_with (first | ((with_reducible refine gate_callee (f := 11) rfl ?_); refine goesL_ (some 10) rfl rfl Try.func11 (by kernel_rfl) rfl #[] rfl (by (try simp only [List.map_toArray, List.map_cons, List.map_nil]); first | done | rfl | (simp only [List.length_drop, List.length_take]; rfl)) ?_; (with_reducible refine (wigwaglaw05_awake.calls k  true _ A2.out).mono ?_); rintro e w12 ⟨rfl, hb⟩; refine ⟨_, rfl, ?_⟩; have n0_ := Aside0.mk (below_step (by repeat (first | (with_reducible first | exact HB.out | apply below_alloc | apply pw_below_drewN | apply below_drew1) | exact HB.out)) hb); clear HB; have HB := n0_; clear n0_; (try clear hb); (try clear hb2); (try clear hk); (try clear hi)) | ((with_reducible refine gate_dst (N := 16) rfl ?_); (try (refine gate_guard (by rfl) ?_; dsimp only)); refine Kd.R_make (Kd.int .u8) _ 5 rfl (N := 16) rfl 24 _ _ rfl ji3 rfl rfl Try.underlying24 (.int .u8 0) 1 info5 rfl (by decide) (by omega) 0 (ok := fun _ => True) (okp := fun _ => True) rfl (fun _ hk => hk) trivial (of_decide_eq_true (by first | (with_reducible assumption) | assumption)) (Nat.le_trans (Nat.mul_le_mul_right _ (of_decide_eq_true (by first | (with_reducible assumption) | assumption) : ji3.toNat ≤ 281474976710656)) (by omega)) (Below.refl _ _) (Nat.le_refl _) ?_; intro v664 w13 ho14 hb hg_ hnew_; clear hg_ hnew_; (first | rw [← Ny663.out] at ho14 | (simp only [Int.reduceToNat] at ho14; rw [← Ny663.out] at ho14)); have n0_ := Aside0.mk (Kd.R_lower ho14 (below_size (by repeat (first | (with_reducible first | exact HB.out | apply below_alloc | apply pw_below_drewN | apply below_drew1) | exact HB.out)))); have n1_ := Aside0.mk (below_step (by repeat (first | (with_reducible first | exact HB.out | apply below_alloc | apply pw_below_drewN | apply below_drew1) | exact HB.out)) hb); clear HB; have HO665 := n0_; have HB := n1_; clear n0_ n1_; clear hb ho14; obtain ⟨Ao15, co15, eo15⟩ := Kd.R_slice HO665.out; subst eo15) | ((with_reducible refine gate_callee (f := 19) rfl ?_); refine goesL_ (some 19) rfl rfl Try.func19 (by kernel_rfl) rfl #[.slice Ao15 y663.length co15] rfl (by (try simp only [List.map_toArray, List.map_cons, List.map_nil]); first | done | rfl | (simp only [List.length_drop, List.length_take]; rfl)) ?_; (with_reducible refine (frame_All.calls k (fun k_ => some k_ = (.slice Ao15 y663.length co15 : Value).ownBlock) _ _ y663 t666 t669 _ ?side1 A6.out).mono ?_); (case side1 => exact Kd.R_V (Kd.R_tight rfl (HO665.out))); rintro e w16 ⟨v667, rfl, ho0, hb⟩; refine ⟨_, rfl, ?_⟩; have n0_ := Aside0.mk (Kd.R_below (by (with_reducible repeat (first | apply Kd.R_alloc | apply Kd.R_drewN | apply Kd.R_drew)); exact HO665.out) hb); have n1_ := Aside0.mk (Kd.S_lower (Kd.S_new' (Kd.S_mono (ok' := fun k_ => True) ho0 (fun _ hk_ => trivial)) (Kd.R_lt (by (with_reducible repeat (first | apply Kd.R_alloc | apply Kd.R_drewN | apply Kd.R_drew)); exact HO665.out))) (below_size (by repeat (first | (with_reducible first | exact HB.out | apply below_alloc | apply pw_below_drewN | apply below_drew1) | exact HB.out)))); have n2_ := Aside0.mk (below_step (by repeat (first | (with_reducible first | exact HB.out | apply below_alloc | apply pw_below_drewN | apply below_drew1) | exact HB.out)) hb); clear HO665; clear HB; have HO665 := n0_; have HO668 := n1_; have HB := n2_; clear n0_ n1_ n2_; (try clear hb); (try clear hb2); (try clear hk); (try clear hi); (try clear ho0)) | ((with_reducible refine gate_builtin (b := .append) (xs := #[.tmp 23, .tmp 24]) rfl ?_); (try (refine gate_guard (by rfl) ?_; dsimp only)); at_builtin; refine Kd.R_append (Kd.int .u8) (w0 := w) w.heap.size rfl (.tmp 23) (.tmp 24) 24 5 (.int .u8 0) 1 rfl Try.underlying24 info5 rfl (by decide) (by omega) (.slice Ao15 y663.length co15) y663 7 [.int .u8 7] (fun _ => True) (fun _ => False) rfl rfl ?aP (fun _ hk => hk.elim) ?aF ?aO ?aB ?aS ?aL ?_; (case aP => exact rfl); (case aB => exact (by repeat (first | (with_reducible first | exact HB.out | apply below_alloc | apply pw_below_drewN | apply below_drew1) | exact HB.out))); (case aF => exact (fun _ _ => trivial)); (case aO => exact (by (with_reducible repeat (first | apply Kd.R_alloc | apply Kd.R_drewN | apply Kd.R_drew)); exact HO665.out)); (case aS => exact (below_size (by repeat (first | (with_reducible first | exact HB.out | apply below_alloc | apply pw_below_drewN | apply below_drew1) | exact HB.out)))); (case aL => have := LMc7.out; omega); intro v671 w17 ho hb hg hat; rw [← Ny670.out] at ho; have n0_ := Aside0.mk (Kd.S_after (ok := (fun _ => True)) (by (with_reducible repeat (first | apply Kd.S_alloc | apply Kd.S_drewN | apply Kd.S_drew)); exact HO668.out) hg hat); have n1_ := Aside0.mk (hb); have n2_ := Aside0.mk (ho); clear HO668; clear HB; clear HO665; have HO668 := n0_; have HB := n1_; have HO672 := n2_; clear n0_ n1_ n2_; clear ho hb hg hat; obtain ⟨Ao18, co18, eo18⟩ := Kd.R_slice HO672.out; subst eo18) | ((with_reducible refine gate_callee (f := 19) rfl ?_); refine goesL_ (some 26) rfl rfl Try.func19 (by kernel_rfl) rfl #[.slice Ao18 y670.length co18] rfl (by (try simp only [List.map_toArray, List.map_cons, List.map_nil]); first | done | rfl | (simp only [List.length_drop, List.length_take]; rfl)) ?_; (with_reducible refine (frame_All.calls k (fun k_ => some k_ = (.slice Ao18 y670.length co18 : Value).ownBlock) _ _ y670 t673 t676 _ ?side1 A8.out).mono ?_); (case side1 => exact Kd.R_V (Kd.R_tight rfl (Kd.R_apart' (HO672.out) (Kd.S_typed HO668.out) (by decide)))); rintro e w19 ⟨v674, rfl, ho0, hb⟩; refine ⟨_, rfl, ?_⟩; have n0_ := Aside0.mk (Kd.S_elder' (by (with_reducible repeat (first | apply Kd.S_alloc | apply Kd.S_drewN | apply Kd.S_drew)); exact HO668.out) (Kd.S_base ho0) hb); have n1_ := Aside0.mk (Kd.R_below (by (with_reducible repeat (first | apply Kd.R_alloc | apply Kd.R_drewN | apply Kd.R_drew)); exact HO672.out) hb); have n2_ := Aside0.mk (Kd.S_lower (Kd.S_new' (Kd.S_new' (Kd.S_mono (ok' := fun k_ => True) ho0 (fun _ hk_ => trivial)) (Kd.S_lt (by (with_reducible repeat (first | apply Kd.S_alloc | apply Kd.S_drewN | apply Kd.S_drew)); exact HO668.out))) (Kd.R_lt (by (with_reducible repeat (first | apply Kd.R_alloc | apply Kd.R_drewN | apply Kd.R_drew)); exact HO672.out))) (below_size (by repeat (first | (with_reducible first | exact HB.out | apply below_alloc | apply pw_below_drewN | apply below_drew1) | exact HB.out)))); have n3_ := Aside0.mk (below_step (by repeat (first | (with_reducible first | exact HB.out | apply below_alloc | apply pw_below_drewN | apply below_drew1) | exact HB.out)) hb); clear HO668; clear HO672; clear HB; have HO668 := n0_; have HO672 := n1_; have HO675 := n2_; have HB := n3_; clear n0_ n1_ n2_ n3_; (try clear hb); (try clear hb2); (try clear hk); (try clear hi); (try clear ho0); obtain ⟨Ao20, co20, eo20⟩ := Kd.S_slice HO668.out; subst eo20))
              go_ret
              exact ⟨by first | rfl | (simp [errW_none, errW_some] <;> rfl) | (simp only [← hji3]; first | rfl | (simp [errW_none, errW_some] <;> rfl)) | (simp [*, errW_none, errW_some] <;> rfl), by repeat (first | (with_reducible first | exact HB.out | apply below_alloc | apply pw_below_drewN | apply below_drew1) | exact HB.out)⟩
            · rw [if_neg c11] at H
              exact absurd H (by simp)
          · rw [if_neg c10] at H
            exact absurd H (by simp)
        · replace c9 := Bool.eq_false_iff.mpr c9
          subst c9
          have H1 : (none) = some r := by rw [if_neg (show ¬ (false = true) by decide)] at H; exact H
          clear H
          have H := H1
          clear H1
          exact absurd H (by simp)
      · rw [if_neg c7] at H
        exact absurd H (by simp)
    · rw [if_neg c5] at H
      exact absurd H (by simp)
  · rw [if_neg c4] at H
    exact absurd H (by simp)

/-- THE ONE PURE STATEMENT of wigwaglaw05_FrameZeros: yours. -/
def wigwaglaw05_FrameZeros.Pure : Prop := ∀ (a0 : Int), (Lit.int .u16 a0).wf = true → ∃ k, wigwaglaw05_FrameZeros.f k a0 = some true
theorem wigwaglaw05_FrameZeros.walk (P : wigwaglaw05_FrameZeros.Pure) (a0 : Int) (w : World) (w0 : (Lit.int .u16 a0).wf = true) :
    Calls Try.prog 10 #[.int .u16 a0] w fun e w' => e = .returned (.bool true) ∧ Below w.heap.size w w' := by
  obtain ⟨k, h⟩ := P a0 w0
  refine (wigwaglaw05_FrameZeros.calls k a0 true w h).mono ?_
  rintro e w' ⟨rfl, hd⟩
  exact ⟨rfl, hd⟩

end Go.Proofs.Ytphakdfholkbdaa.PFra
