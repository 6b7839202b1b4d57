/- The row of FrameEncodes: written by a program of this session (wip/tools/srow.py). -/
import Derived.Test.YtphakdfholkbdaaRows
import Derived.Test.YtphakdfholkbdaaKPureFrameEncodes
import Derived.WalkKit
import Derived.ProofKit
import Derived.OpenShut
import Derived.ShutString
import Derived.ChangeOld
import Derived.Below
import Derived.SizedLaws
import Derived.Test.YtphakdfholkbdaaKA
import Derived.Test.YtphakdfholkbdaaKG
namespace Go.Proofs.Ytphakdfholkbdaa.frameEncodes
open Go.ChangeShapes Go.WideShapes Go.ChangeAt Go.RowKit
open Go.ChangeMaps (open_string shut_string)
open Go.Proofs.YtphakdfholkbdaaW.PrintWords (Kd)
set_option linter.unusedVariables false
theorem own : ownKnob Try.prog.godebug = none := by kernel_rfl
theorem laidOut : laidOutB Try.prog = true := by kernel_rfl
set_option maxRecDepth 100000 in
theorem lifted (os : Os) (started : os.Started) (H : Type) (enc : TypeId × Value → H) :
    ReturnsInHanded {} Try.checked os 4 .any (Rows.frameEncodesSpec.pre6 enc Try.prog Try.f4 Rows.frameEncodesRow.domain false) (Rows.frameEncodesSpec.post enc Try.prog Try.f4 false true false false) := by
  refine returnsInHanded_of_change_sized (C := Try.checked) own started (by kernel_rfl) Try.func4
    (ChangeSpec.witness6 (enc := enc) (C := Try.checked) false ⟨#[], #[.agg #[.int .i64 0, .int .u64 0, .int .u64 0, .int .u64 0, .int .u64 0, .int .u64 0, .int .u64 0, .bool false, .slice none 0 0, .slice none 0 0]], []⟩ 8 (by kernel_rfl) (by kernel_rfl) (by kernel_rfl) (by kernel_rfl)) ?_
  intro W base args ds gs before hval0 hW hcnd hsz0 _
  have hval : ∀ (j : Nat) t v, Try.f4.params[j]? = some t → args[j]? = some v → Value.okWide Try.prog W .any base t v := hval0
  have hW' := hW
  obtain ⟨p, q, hA0, hV, rfl, hfz, hnd⟩ := hW
  have hA : DataW.TrodAll enc Try.prog W 0 (fun _ => true) true Try.f4.params.toList args.toList ds p := hA0
  rw [Try.params4] at hA hval
  obtain ⟨v0, vs0, d0, ds0, p0, q0, hargs, rfl, rfl, h0, r0⟩ := trodAll_cons hA
  obtain ⟨rfl, rfl, rfl⟩ := trodAll_nil r0
  obtain rfl : args = #[v0] := by cases args; simp_all
  obtain ⟨rfl, rfl⟩ := trodVars_none hV
  have k0 := h0
  have lt0 : ∀ x ∈ p0, x.block < W.heap.size := by obtain ⟨m, hm⟩ := k0; exact DataW.trod_lt m _ _ _ hm
  obtain ⟨cs0, rfl, hs0⟩ := okWide_struct Try.underlying27 (hval 0 27 v0 rfl rfl)
  have lv0 : IsLx (IsRow _ _ _ _ _ _) [.num .i64, .num .u64, .num .u64, .num .u64, .num .u64, .num .u64, .num .u64, .truth, .row 24, .row 25] cs0.toList := leavesX_tells 9 27 _ _ (by kernel_rfl) (by simpa using hs0) (by obtain ⟨m, hm⟩ := k0; exact ⟨m, _, by simpa [Value.cells] using hm⟩)
  obtain ⟨l0⟩ := cs0
  have lv0 : IsLx _ [.num .i64, .num .u64, .num .u64, .num .u64, .num .u64, .num .u64, .num .u64, .truth, .row 24, .row 25] l0 := lv0
  obtain ⟨a0_0, l0_0, e0_0, w0_0, lv0⟩ := lx_int lv0
  obtain ⟨a0_1, l0_1, e0_1, w0_1, lv0⟩ := lx_int lv0
  obtain ⟨a0_2, l0_2, e0_2, w0_2, lv0⟩ := lx_int lv0
  obtain ⟨a0_3, l0_3, e0_3, w0_3, lv0⟩ := lx_int lv0
  obtain ⟨a0_4, l0_4, e0_4, w0_4, lv0⟩ := lx_int lv0
  obtain ⟨a0_5, l0_5, e0_5, w0_5, lv0⟩ := lx_int lv0
  obtain ⟨a0_6, l0_6, e0_6, w0_6, lv0⟩ := lx_int lv0
  obtain ⟨a0_7, l0_7, e0_7, lv0⟩ := lx_bool lv0
  obtain ⟨a0_8, l0_8, e0_8, w0_8, lv0⟩ := lx_row lv0
  obtain ⟨a0_9, l0_9, e0_9, w0_9, lv0⟩ := lx_row lv0
  have e0_ := lx_nil lv0
  subst e0_
  subst e0_9
  subst e0_8
  subst e0_7
  subst e0_6
  subst e0_5
  subst e0_4
  subst e0_3
  subst e0_2
  subst e0_1
  subst e0_0
  obtain ⟨A0_8, n0_8, c0_8, rfl⟩ := row_form Try.underlying24 w0_8
  obtain ⟨y0_8, hn0_8, hl0_8, hC0_8, x0_8⟩ : ∃ ys, ys.length = n0_8 ∧ n0_8 ≤ c0_8 ∧ Kd.C (Kd.int .u8) W A0_8 n0_8 ys ∧ ∀ y ∈ ys, (Lit.int .u8 y).wf = true := by
    obtain ⟨m, z, hm⟩ := w0_8
    exact open_structs (m := 9) (fun cs => decI W cs) Try.underlying24 (by kernel_rfl) (by kernel_rfl) hm
  subst hn0_8
  obtain ⟨A0_9, n0_9, c0_9, rfl⟩ := row_form Try.underlying25 w0_9
  obtain ⟨y0_9, hn0_9, hl0_9, hC0_9, x0_9⟩ : ∃ ys, ys.length = n0_9 ∧ n0_9 ≤ c0_9 ∧ Kd.C PFra.k47 W A0_9 n0_9 ys ∧ ∀ y ∈ ys, PFra.WfS47 y := by
    obtain ⟨m, z, hm⟩ := w0_9
    exact open_structs (m := 9) (fun cs => PFra.dec47 W cs) Try.underlying25 (by kernel_rfl) (by kernel_rfl) hm
  subst hn0_9
  clear hA0 hval0 hsz0
  obtain ⟨k, hk⟩ := Pure.FrameEncodes a0_0 a0_1 a0_2 a0_3 a0_4 a0_5 a0_6 a0_7 y0_8 y0_9 w0_0 w0_1 w0_2 w0_3 w0_4 w0_5 w0_6 x0_8 x0_9
  refine (PFra.wigwaglaw05_FrameEncodes.calls k a0_0 a0_1 a0_2 a0_3 a0_4 a0_5 a0_6 a0_7 _ _ y0_8 _ _ y0_9 true W hC0_8 hl0_8 hC0_9 hl0_9 hk).mono fun e W' ⟨he, bel⟩ => ?_
  subst he
  exact ⟨_, rfl, _, _, _, [], _, [], hW', trodAll_mk1 (shut_bool Try.underlying4 _), (trodAll_cons_mk (Below.trod laidOut (by kernel_rfl) (of_decide_eq_true (by kernel_rfl)) k0 bel lt0) trodAll_mk0), rfl, bel.frame _, fun h => by cases h⟩
theorem over : Rows.frameEncodesRow.holds Try.pinned (OpenSpec.ofChange Rows.frameEncodesSpec) :=
  OpenClaim.holds_of_wide 4 Try.f4 rfl rfl rfl rfl rfl rfl rfl ⟨rfl, rfl, rfl, rfl, rfl⟩ rfl rfl rfl rfl rfl (by kernel_rfl) Try.func4 (by kernel_rfl)
    (of_decide_eq_true (by kernel_rfl)) (by unfold Func.isWrapper; first | (rw [if_pos (by decide +kernel)]; kernel_rfl) | (rw [if_neg (by decide +kernel)]; exact ⟨rfl, rfl⟩))
    (fun os started H enc _ => lifted os started H enc)
theorem proved : Rows.FrameEncodesSaid := over
#print axioms proved
end Go.Proofs.Ytphakdfholkbdaa.frameEncodes
namespace Go.Proofs.Ytphakdfholkbdaa
/-- The row, under a short name, for the claim. -/
theorem frameEncodes_holds : Rows.FrameEncodesSaid := frameEncodes.proved
end Go.Proofs.Ytphakdfholkbdaa
