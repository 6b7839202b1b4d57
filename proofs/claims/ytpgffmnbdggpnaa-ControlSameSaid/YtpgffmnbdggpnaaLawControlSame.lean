/- The row of ControlSame: written by a program of this session (wip/tools/srow.py). -/
import Derived.Test.YtpgffmnbdggpnaaRows
import Derived.Test.YtpgffmnbdggpnaaCtlZ
import Derived.WalkKit
import Derived.ProofKit
import Derived.OpenShut
import Derived.ShutString
import Derived.ChangeOld
import Derived.Below
import Derived.SizedLaws
import Derived.Test.YtpgffmnbdggpnaaRos
import Derived.Test.YtpgffmnbdggpnaaPCvEv90
import Derived.Test.YtpgffmnbdggpnaaOpx
namespace Go.Proofs.Ytpgffmnbdggpnaa.controlSame
open Go.ChangeShapes Go.WideShapes Go.ChangeAt Go.RowKit
open Go.ChangeMaps (open_string shut_string)
open Go.Proofs.YtpgffmnbdggpnaaW.PrintWords (Kd)
set_option linter.unusedVariables false
theorem own : ownKnob Try.prog.godebug = none := by kernel_rfl
theorem laidOut : laidOutB Try.prog = true := by kernel_rfl
set_option maxRecDepth 100000 in
theorem lifted (os : Os) (started : os.Started) (H : Type) (enc : TypeId × Value → H) :
    ReturnsInHanded {} Try.checked os 5 .any (Rows.controlSameSpec.pre6 enc Try.prog Try.f5 Rows.controlSameRow.domain false) (Rows.controlSameSpec.post enc Try.prog Try.f5 false true false false) := by
  refine returnsInHanded_of_change_sized (C := Try.checked) own started (by kernel_rfl) Try.func5
    (ChangeSpec.witness6 (enc := enc) (C := Try.checked) false ⟨#[], #[.agg #[.int .i64 0, .int .u64 0, .int .u64 0, .int .u64 0, .int .u64 0, .int .i64 0, .int .u64 0, .int .u64 0, .int .u64 0, .int .u64 0, .int .u64 0, .int .u64 0, .int .u64 0, .int .u64 0, .int .u64 0, .bool false, .int .u64 0, .int .u64 0, .int .u64 0, .int .u64 0, .int .i64 0, .slice none 0 0, .int .u64 0, .int .u64 0, .int .u64 0, .int .u64 0, .int .u64 0, .int .u64 0, .int .u64 0, .int .u64 0, .int .u64 0, .int .u64 0, .int .u64 0, .int .u64 0, .int .u64 0, .int .u64 0, .int .u64 0, .int .u64 0, .bool false, .int .u64 0, .int .u64 0], .agg #[.int .u64 0, .int .u64 0, .int .u64 0, .int .u64 0, .int .u64 0, .int .u64 0, .int .u64 0, .int .u64 0, .bool false, .bool false]], []⟩ 8 (by kernel_rfl) (by kernel_rfl) (by kernel_rfl) (by kernel_rfl)) ?_
  intro W base args ds gs before hval0 hW hcnd hsz0 _
  have hval : ∀ (j : Nat) t v, Try.f5.params[j]? = some t → args[j]? = some v → Value.okWide Try.prog W .any base t v := hval0
  have hW' := hW
  obtain ⟨p, q, hA0, hV, rfl, hfz, hnd⟩ := hW
  have hA : DataW.TrodAll enc Try.prog W 0 (fun _ => true) true Try.f5.params.toList args.toList ds p := hA0
  rw [Try.params5] at hA hval
  obtain ⟨v0, vs0, d0, ds0, p0, q0, hargs, rfl, rfl, h0, r0⟩ := trodAll_cons hA
  obtain ⟨v1, vs1, d1, ds1, p1, q1, rfl, rfl, rfl, h1, r1⟩ := trodAll_cons r0
  obtain ⟨rfl, rfl, rfl⟩ := trodAll_nil r1
  obtain rfl : args = #[v0, v1] := by cases args; simp_all
  obtain ⟨rfl, rfl⟩ := trodVars_none hV
  have k0 := h0
  have lt0 : ∀ x ∈ p0, x.block < W.heap.size := by obtain ⟨m, hm⟩ := k0; exact DataW.trod_lt m _ _ _ hm
  obtain ⟨cs0, rfl, hs0⟩ := okWide_struct Try.underlying36 (hval 0 36 v0 rfl rfl)
  have lv0 : IsLx (IsRow _ _ _ _ _ _) [.num .i64, .num .u64, .num .u64, .num .u64, .num .u64, .num .i64, .num .u64, .num .u64, .num .u64, .num .u64, .num .u64, .num .u64, .num .u64, .num .u64, .num .u64, .truth, .num .u64, .num .u64, .num .u64, .num .u64, .num .i64, .row 30, .num .u64, .num .u64, .num .u64, .num .u64, .num .u64, .num .u64, .num .u64, .num .u64, .num .u64, .num .u64, .num .u64, .num .u64, .num .u64, .num .u64, .num .u64, .num .u64, .truth, .num .u64, .num .u64] cs0.toList := leavesX_tells 9 36 _ _ (by kernel_rfl) (by simpa using hs0) (by obtain ⟨m, hm⟩ := k0; exact ⟨m, _, by simpa [Value.cells] using hm⟩)
  obtain ⟨l0⟩ := cs0
  have lv0 : IsLx _ [.num .i64, .num .u64, .num .u64, .num .u64, .num .u64, .num .i64, .num .u64, .num .u64, .num .u64, .num .u64, .num .u64, .num .u64, .num .u64, .num .u64, .num .u64, .truth, .num .u64, .num .u64, .num .u64, .num .u64, .num .i64, .row 30, .num .u64, .num .u64, .num .u64, .num .u64, .num .u64, .num .u64, .num .u64, .num .u64, .num .u64, .num .u64, .num .u64, .num .u64, .num .u64, .num .u64, .num .u64, .num .u64, .truth, .num .u64, .num .u64] l0 := lv0
  obtain ⟨a0_0, l0_0, e0_0, w0_0, lv0⟩ := lx_int lv0
  obtain ⟨a0_1, l0_1, e0_1, w0_1, lv0⟩ := lx_int lv0
  obtain ⟨a0_2, l0_2, e0_2, w0_2, lv0⟩ := lx_int lv0
  obtain ⟨a0_3, l0_3, e0_3, w0_3, lv0⟩ := lx_int lv0
  obtain ⟨a0_4, l0_4, e0_4, w0_4, lv0⟩ := lx_int lv0
  obtain ⟨a0_5, l0_5, e0_5, w0_5, lv0⟩ := lx_int lv0
  obtain ⟨a0_6, l0_6, e0_6, w0_6, lv0⟩ := lx_int lv0
  obtain ⟨a0_7, l0_7, e0_7, w0_7, lv0⟩ := lx_int lv0
  obtain ⟨a0_8, l0_8, e0_8, w0_8, lv0⟩ := lx_int lv0
  obtain ⟨a0_9, l0_9, e0_9, w0_9, lv0⟩ := lx_int lv0
  obtain ⟨a0_10, l0_10, e0_10, w0_10, lv0⟩ := lx_int lv0
  obtain ⟨a0_11, l0_11, e0_11, w0_11, lv0⟩ := lx_int lv0
  obtain ⟨a0_12, l0_12, e0_12, w0_12, lv0⟩ := lx_int lv0
  obtain ⟨a0_13, l0_13, e0_13, w0_13, lv0⟩ := lx_int lv0
  obtain ⟨a0_14, l0_14, e0_14, w0_14, lv0⟩ := lx_int lv0
  obtain ⟨a0_15, l0_15, e0_15, lv0⟩ := lx_bool lv0
  obtain ⟨a0_16, l0_16, e0_16, w0_16, lv0⟩ := lx_int lv0
  obtain ⟨a0_17, l0_17, e0_17, w0_17, lv0⟩ := lx_int lv0
  obtain ⟨a0_18, l0_18, e0_18, w0_18, lv0⟩ := lx_int lv0
  obtain ⟨a0_19, l0_19, e0_19, w0_19, lv0⟩ := lx_int lv0
  obtain ⟨a0_20, l0_20, e0_20, w0_20, lv0⟩ := lx_int lv0
  obtain ⟨a0_21, l0_21, e0_21, w0_21, lv0⟩ := lx_row lv0
  obtain ⟨a0_22, l0_22, e0_22, w0_22, lv0⟩ := lx_int lv0
  obtain ⟨a0_23, l0_23, e0_23, w0_23, lv0⟩ := lx_int lv0
  obtain ⟨a0_24, l0_24, e0_24, w0_24, lv0⟩ := lx_int lv0
  obtain ⟨a0_25, l0_25, e0_25, w0_25, lv0⟩ := lx_int lv0
  obtain ⟨a0_26, l0_26, e0_26, w0_26, lv0⟩ := lx_int lv0
  obtain ⟨a0_27, l0_27, e0_27, w0_27, lv0⟩ := lx_int lv0
  obtain ⟨a0_28, l0_28, e0_28, w0_28, lv0⟩ := lx_int lv0
  obtain ⟨a0_29, l0_29, e0_29, w0_29, lv0⟩ := lx_int lv0
  obtain ⟨a0_30, l0_30, e0_30, w0_30, lv0⟩ := lx_int lv0
  obtain ⟨a0_31, l0_31, e0_31, w0_31, lv0⟩ := lx_int lv0
  obtain ⟨a0_32, l0_32, e0_32, w0_32, lv0⟩ := lx_int lv0
  obtain ⟨a0_33, l0_33, e0_33, w0_33, lv0⟩ := lx_int lv0
  obtain ⟨a0_34, l0_34, e0_34, w0_34, lv0⟩ := lx_int lv0
  obtain ⟨a0_35, l0_35, e0_35, w0_35, lv0⟩ := lx_int lv0
  obtain ⟨a0_36, l0_36, e0_36, w0_36, lv0⟩ := lx_int lv0
  obtain ⟨a0_37, l0_37, e0_37, w0_37, lv0⟩ := lx_int lv0
  obtain ⟨a0_38, l0_38, e0_38, lv0⟩ := lx_bool lv0
  obtain ⟨a0_39, l0_39, e0_39, w0_39, lv0⟩ := lx_int lv0
  obtain ⟨a0_40, l0_40, e0_40, w0_40, lv0⟩ := lx_int lv0
  have e0_ := lx_nil lv0
  subst e0_
  subst e0_40
  subst e0_39
  subst e0_38
  subst e0_37
  subst e0_36
  subst e0_35
  subst e0_34
  subst e0_33
  subst e0_32
  subst e0_31
  subst e0_30
  subst e0_29
  subst e0_28
  subst e0_27
  subst e0_26
  subst e0_25
  subst e0_24
  subst e0_23
  subst e0_22
  subst e0_21
  subst e0_20
  subst e0_19
  subst e0_18
  subst e0_17
  subst e0_16
  subst e0_15
  subst e0_14
  subst e0_13
  subst e0_12
  subst e0_11
  subst e0_10
  subst e0_9
  subst e0_8
  subst e0_7
  subst e0_6
  subst e0_5
  subst e0_4
  subst e0_3
  subst e0_2
  subst e0_1
  subst e0_0
  obtain ⟨A0_21, n0_21, c0_21, rfl⟩ := row_form Try.underlying30 w0_21
  obtain ⟨y0_21, hn0_21, hl0_21, hC0_21, x0_21⟩ : ∃ ys, ys.length = n0_21 ∧ n0_21 ≤ c0_21 ∧ Kd.C PCv.k90 W A0_21 n0_21 ys ∧ ∀ y ∈ ys, PCv.WfS90 y := by
    obtain ⟨m, z, hm⟩ := w0_21
    exact open_structs (m := 9) (fun cs => PCv.dec90 W cs) Try.underlying30 (by kernel_rfl) (by kernel_rfl) hm
  subst hn0_21
  have k1 := h1
  have lt1 : ∀ x ∈ p1, x.block < W.heap.size := by obtain ⟨m, hm⟩ := k1; exact DataW.trod_lt m _ _ _ hm
  obtain ⟨cs1, rfl, hs1⟩ := okWide_struct Try.underlying40 (hval 1 40 v1 rfl rfl)
  have lv1 : IsLv [some .u64, some .u64, some .u64, some .u64, some .u64, some .u64, some .u64, some .u64, none, none] cs1.toList := leavesOf_tells 9 40 _ _ (by kernel_rfl) (by simpa using hs1) (by obtain ⟨m, hm⟩ := k1; exact ⟨m, _, by simpa [Value.cells] using hm⟩)
  obtain ⟨l1⟩ := cs1
  have lv1 : IsLv [some .u64, some .u64, some .u64, some .u64, some .u64, some .u64, some .u64, some .u64, none, none] l1 := lv1
  obtain ⟨a1_0, l1_0, e1_0, w1_0, lv1⟩ := lv_int lv1
  obtain ⟨a1_1, l1_1, e1_1, w1_1, lv1⟩ := lv_int lv1
  obtain ⟨a1_2, l1_2, e1_2, w1_2, lv1⟩ := lv_int lv1
  obtain ⟨a1_3, l1_3, e1_3, w1_3, lv1⟩ := lv_int lv1
  obtain ⟨a1_4, l1_4, e1_4, w1_4, lv1⟩ := lv_int lv1
  obtain ⟨a1_5, l1_5, e1_5, w1_5, lv1⟩ := lv_int lv1
  obtain ⟨a1_6, l1_6, e1_6, w1_6, lv1⟩ := lv_int lv1
  obtain ⟨a1_7, l1_7, e1_7, w1_7, lv1⟩ := lv_int lv1
  obtain ⟨a1_8, l1_8, e1_8, lv1⟩ := lv_bool lv1
  obtain ⟨a1_9, l1_9, e1_9, lv1⟩ := lv_bool lv1
  have e1_ := lv_nil lv1
  subst e1_
  subst e1_9
  subst e1_8
  subst e1_7
  subst e1_6
  subst e1_5
  subst e1_4
  subst e1_3
  subst e1_2
  subst e1_1
  subst e1_0
  clear hA0 hval0 hsz0
  refine (PCv.same_law a0_0 a0_1 a0_2 a0_3 a0_4 a0_5 a0_6 a0_7 a0_8 a0_9 a0_10 a0_11 a0_12 a0_13 a0_14 a0_15 a0_16 a0_17 a0_18 a0_19 a0_20 _ _ y0_21 a0_22 a0_23 a0_24 a0_25 a0_26 a0_27 a0_28 a0_29 a0_30 a0_31 a0_32 a0_33 a0_34 a0_35 a0_36 a0_37 a0_38 a0_39 a0_40 a1_0 a1_1 a1_2 a1_3 a1_4 a1_5 a1_6 a1_7 a1_8 a1_9 w0_0 w0_1 w0_2 w0_3 w0_4 w0_5 w0_6 w0_7 w0_8 w0_9 w0_10 w0_11 w0_12 w0_13 w0_14 w0_16 w0_17 w0_18 w0_19 w0_20 x0_21 w0_22 w0_23 w0_24 w0_25 w0_26 w0_27 w0_28 w0_29 w0_30 w0_31 w0_32 w0_33 w0_34 w0_35 w0_36 w0_37 w0_39 w0_40 w1_0 w1_1 w1_2 w1_3 w1_4 w1_5 w1_6 w1_7 W hC0_21 hl0_21).mono fun e W' ⟨he, bel⟩ => ?_
  subst he
  exact ⟨_, rfl, _, _, _, [], _, [], hW', trodAll_mk1 (shut_bool Try.underlying4 _), (trodAll_cons_mk (Below.trod laidOut (by kernel_rfl) (of_decide_eq_true (by kernel_rfl)) k0 bel lt0) (trodAll_cons_mk (Below.trod laidOut (by kernel_rfl) (of_decide_eq_true (by kernel_rfl)) k1 bel lt1) trodAll_mk0)), rfl, bel.frame _, fun h => by cases h⟩
theorem over : Rows.controlSameRow.holds Try.pinned (OpenSpec.ofChange Rows.controlSameSpec) :=
  OpenClaim.holds_of_wide 5 Try.f5 rfl rfl rfl rfl rfl rfl rfl ⟨rfl, rfl, rfl, rfl, rfl⟩ rfl rfl rfl rfl rfl (by kernel_rfl) Try.func5 (by kernel_rfl)
    (of_decide_eq_true (by kernel_rfl)) (by unfold Func.isWrapper; first | (rw [if_pos (by decide +kernel)]; kernel_rfl) | (rw [if_neg (by decide +kernel)]; exact ⟨rfl, rfl⟩))
    (fun os started H enc _ => lifted os started H enc)
theorem proved : Rows.ControlSameSaid := over
#print axioms proved
end Go.Proofs.Ytpgffmnbdggpnaa.controlSame
namespace Go.Proofs.Ytpgffmnbdggpnaa
/-- The row, under a short name, for the claim. -/
theorem controlSame_holds : Rows.ControlSameSaid := controlSame.proved
end Go.Proofs.Ytpgffmnbdggpnaa
