/- The row of FrameBack: written by a program of this session (wip/tools/srow.py). -/
import Derived.Test.YtphakdfholkbdaaRows
import Derived.Test.YtphakdfholkbdaaKT
import Derived.WalkKit
import Derived.ProofKit
import Derived.OpenShut
import Derived.ShutString
import Derived.ChangeOld
import Derived.Below
import Derived.SizedLaws
import Derived.Test.YtphakdfholkbdaaKA
namespace Go.Proofs.Ytphakdfholkbdaa.frameBack
open Go.ChangeShapes Go.WideShapes Go.ChangeAt Go.RowKit
open Go.ChangeMaps (open_string shut_string)
open Go.Proofs.YtphakdfholkbdaaW.PrintWords (Kd)
set_option linter.unusedVariables false
theorem own : ownKnob Try.prog.godebug = none := by kernel_rfl
theorem laidOut : laidOutB Try.prog = true := by kernel_rfl
set_option maxRecDepth 100000 in
theorem lifted (os : Os) (started : os.Started) (H : Type) (enc : TypeId × Value → H) :
    ReturnsInHanded {} Try.checked os 6 .any (Rows.frameBackSpec.pre6 enc Try.prog Try.f6 Rows.frameBackRow.domain false) (Rows.frameBackSpec.post enc Try.prog Try.f6 false true false false) := by
  refine returnsInHanded_of_change_sized (C := Try.checked) own started (by kernel_rfl) Try.func6
    (ChangeSpec.witness6 (enc := enc) (C := Try.checked) false ⟨#[], #[.agg #[.int .i64 0, .int .u64 0, .int .u64 0, .int .u64 0, .int .u64 0, .int .u64 0, .int .u64 0, .bool false, .slice none 0 0, .slice none 0 0], .agg #[.int .i64 0, .int .u64 0, .int .u64 0, .int .u64 0, .int .u64 0, .int .u64 0, .int .u64 0, .bool false, .slice none 0 0, .slice none 0 0], .slice none 0 0], []⟩ 8 (by kernel_rfl) (by kernel_rfl) (by kernel_rfl) (by kernel_rfl)) ?_
  intro W base args ds gs before hval0 hW hcnd hsz0 _
  have hval : ∀ (j : Nat) t v, Try.f6.params[j]? = some t → args[j]? = some v → Value.okWide Try.prog W .any base t v := hval0
  have hW' := hW
  obtain ⟨p, q, hA0, hV, rfl, hfz, hnd⟩ := hW
  have hA : DataW.TrodAll enc Try.prog W 0 (fun _ => true) true Try.f6.params.toList args.toList ds p := hA0
  rw [Try.params6] at hA hval
  obtain ⟨v0, vs0, d0, ds0, p0, q0, hargs, rfl, rfl, h0, r0⟩ := trodAll_cons hA
  obtain ⟨v1, vs1, d1, ds1, p1, q1, rfl, rfl, rfl, h1, r1⟩ := trodAll_cons r0
  obtain ⟨v2, vs2, d2, ds2, p2, q2, rfl, rfl, rfl, h2, r2⟩ := trodAll_cons r1
  obtain ⟨rfl, rfl, rfl⟩ := trodAll_nil r2
  obtain rfl : args = #[v0, v1, v2] := by cases args; simp_all
  obtain ⟨rfl, rfl⟩ := trodVars_none hV
  have k0 := h0
  have lt0 : ∀ x ∈ p0, x.block < W.heap.size := by obtain ⟨m, hm⟩ := k0; exact DataW.trod_lt m _ _ _ hm
  obtain ⟨cs0, rfl, hs0⟩ := okWide_struct Try.underlying27 (hval 0 27 v0 rfl rfl)
  have lv0 : IsLx (IsRow _ _ _ _ _ _) [.num .i64, .num .u64, .num .u64, .num .u64, .num .u64, .num .u64, .num .u64, .truth, .row 24, .row 25] cs0.toList := leavesX_tells 9 27 _ _ (by kernel_rfl) (by simpa using hs0) (by obtain ⟨m, hm⟩ := k0; exact ⟨m, _, by simpa [Value.cells] using hm⟩)
  obtain ⟨l0⟩ := cs0
  have lv0 : IsLx _ [.num .i64, .num .u64, .num .u64, .num .u64, .num .u64, .num .u64, .num .u64, .truth, .row 24, .row 25] l0 := lv0
  obtain ⟨a0_0, l0_0, e0_0, w0_0, lv0⟩ := lx_int lv0
  obtain ⟨a0_1, l0_1, e0_1, w0_1, lv0⟩ := lx_int lv0
  obtain ⟨a0_2, l0_2, e0_2, w0_2, lv0⟩ := lx_int lv0
  obtain ⟨a0_3, l0_3, e0_3, w0_3, lv0⟩ := lx_int lv0
  obtain ⟨a0_4, l0_4, e0_4, w0_4, lv0⟩ := lx_int lv0
  obtain ⟨a0_5, l0_5, e0_5, w0_5, lv0⟩ := lx_int lv0
  obtain ⟨a0_6, l0_6, e0_6, w0_6, lv0⟩ := lx_int lv0
  obtain ⟨a0_7, l0_7, e0_7, lv0⟩ := lx_bool lv0
  obtain ⟨a0_8, l0_8, e0_8, w0_8, lv0⟩ := lx_row lv0
  obtain ⟨a0_9, l0_9, e0_9, w0_9, lv0⟩ := lx_row lv0
  have e0_ := lx_nil lv0
  subst e0_
  subst e0_9
  subst e0_8
  subst e0_7
  subst e0_6
  subst e0_5
  subst e0_4
  subst e0_3
  subst e0_2
  subst e0_1
  subst e0_0
  obtain ⟨A0_8, n0_8, c0_8, rfl⟩ := row_form Try.underlying24 w0_8
  obtain ⟨y0_8, hn0_8, hl0_8, hC0_8, x0_8⟩ : ∃ ys, ys.length = n0_8 ∧ n0_8 ≤ c0_8 ∧ Kd.C (Kd.int .u8) W A0_8 n0_8 ys ∧ ∀ y ∈ ys, (Lit.int .u8 y).wf = true := by
    obtain ⟨m, z, hm⟩ := w0_8
    exact open_structs (m := 9) (fun cs => decI W cs) Try.underlying24 (by kernel_rfl) (by kernel_rfl) hm
  subst hn0_8
  obtain ⟨A0_9, n0_9, c0_9, rfl⟩ := row_form Try.underlying25 w0_9
  obtain ⟨y0_9, hn0_9, hl0_9, hC0_9, x0_9⟩ : ∃ ys, ys.length = n0_9 ∧ n0_9 ≤ c0_9 ∧ Kd.C PFra.k47 W A0_9 n0_9 ys ∧ ∀ y ∈ ys, PFra.WfS47 y := by
    obtain ⟨m, z, hm⟩ := w0_9
    exact open_structs (m := 9) (fun cs => PFra.dec47 W cs) Try.underlying25 (by kernel_rfl) (by kernel_rfl) hm
  subst hn0_9
  have k1 := h1
  have lt1 : ∀ x ∈ p1, x.block < W.heap.size := by obtain ⟨m, hm⟩ := k1; exact DataW.trod_lt m _ _ _ hm
  obtain ⟨cs1, rfl, hs1⟩ := okWide_struct Try.underlying27 (hval 1 27 v1 rfl rfl)
  have lv1 : IsLx (IsRow _ _ _ _ _ _) [.num .i64, .num .u64, .num .u64, .num .u64, .num .u64, .num .u64, .num .u64, .truth, .row 24, .row 25] cs1.toList := leavesX_tells 9 27 _ _ (by kernel_rfl) (by simpa using hs1) (by obtain ⟨m, hm⟩ := k1; exact ⟨m, _, by simpa [Value.cells] using hm⟩)
  obtain ⟨l1⟩ := cs1
  have lv1 : IsLx _ [.num .i64, .num .u64, .num .u64, .num .u64, .num .u64, .num .u64, .num .u64, .truth, .row 24, .row 25] l1 := lv1
  obtain ⟨a1_0, l1_0, e1_0, w1_0, lv1⟩ := lx_int lv1
  obtain ⟨a1_1, l1_1, e1_1, w1_1, lv1⟩ := lx_int lv1
  obtain ⟨a1_2, l1_2, e1_2, w1_2, lv1⟩ := lx_int lv1
  obtain ⟨a1_3, l1_3, e1_3, w1_3, lv1⟩ := lx_int lv1
  obtain ⟨a1_4, l1_4, e1_4, w1_4, lv1⟩ := lx_int lv1
  obtain ⟨a1_5, l1_5, e1_5, w1_5, lv1⟩ := lx_int lv1
  obtain ⟨a1_6, l1_6, e1_6, w1_6, lv1⟩ := lx_int lv1
  obtain ⟨a1_7, l1_7, e1_7, lv1⟩ := lx_bool lv1
  obtain ⟨a1_8, l1_8, e1_8, w1_8, lv1⟩ := lx_row lv1
  obtain ⟨a1_9, l1_9, e1_9, w1_9, lv1⟩ := lx_row lv1
  have e1_ := lx_nil lv1
  subst e1_
  subst e1_9
  subst e1_8
  subst e1_7
  subst e1_6
  subst e1_5
  subst e1_4
  subst e1_3
  subst e1_2
  subst e1_1
  subst e1_0
  obtain ⟨A1_8, n1_8, c1_8, rfl⟩ := row_form Try.underlying24 w1_8
  obtain ⟨y1_8, hn1_8, hl1_8, hC1_8, x1_8⟩ : ∃ ys, ys.length = n1_8 ∧ n1_8 ≤ c1_8 ∧ Kd.C (Kd.int .u8) W A1_8 n1_8 ys ∧ ∀ y ∈ ys, (Lit.int .u8 y).wf = true := by
    obtain ⟨m, z, hm⟩ := w1_8
    exact open_structs (m := 9) (fun cs => decI W cs) Try.underlying24 (by kernel_rfl) (by kernel_rfl) hm
  subst hn1_8
  obtain ⟨A1_9, n1_9, c1_9, rfl⟩ := row_form Try.underlying25 w1_9
  obtain ⟨y1_9, hn1_9, hl1_9, hC1_9, x1_9⟩ : ∃ ys, ys.length = n1_9 ∧ n1_9 ≤ c1_9 ∧ Kd.C PFra.k47 W A1_9 n1_9 ys ∧ ∀ y ∈ ys, PFra.WfS47 y := by
    obtain ⟨m, z, hm⟩ := w1_9
    exact open_structs (m := 9) (fun cs => PFra.dec47 W cs) Try.underlying25 (by kernel_rfl) (by kernel_rfl) hm
  subst hn1_9
  obtain ⟨a2, len2, cap2, rfl⟩ := okWide_slice Try.underlying24 (hval 2 24 v2 rfl rfl)
  have k2 := h2
  have lt2 : ∀ x ∈ p2, x.block < W.heap.size := by obtain ⟨m, hm⟩ := k2; exact DataW.trod_lt m _ _ _ hm
  obtain ⟨y2, hn2, hl2, hC2, w2⟩ : ∃ ys, ys.length = len2 ∧ len2 ≤ cap2 ∧ Kd.C (Kd.int .u8) W a2 len2 ys ∧ ∀ y ∈ ys, (Lit.int .u8 y).wf = true := by
    obtain ⟨m, hm⟩ := k2
    exact open_structs (m := 9) (fun cs => decI W cs) Try.underlying24 (by kernel_rfl) (by kernel_rfl) (by simpa [Value.cells] using hm)
  subst hn2
  clear hA0 hval0 hsz0
  refine (PFra.back_law a0_0 a0_1 a0_2 a0_3 a0_4 a0_5 a0_6 a0_7 _ _ y0_8 _ _ y0_9 a1_0 a1_1 a1_2 a1_3 a1_4 a1_5 a1_6 a1_7 _ _ y1_8 _ _ y1_9 _ _ y2 w0_0 w0_1 w0_2 w0_3 w0_4 w0_5 w0_6 x0_8 x0_9 w1_0 w1_1 w1_2 w1_3 w1_4 w1_5 w1_6 x1_8 x1_9 w2 W hC0_8 hl0_8 hC0_9 hl0_9 hC1_8 hl1_8 hC1_9 hl1_9 hC2 hl2).mono fun e W' ⟨he, bel⟩ => ?_
  subst he
  exact ⟨_, rfl, _, _, _, [], _, [], hW', trodAll_mk1 (shut_bool Try.underlying4 _), (trodAll_cons_mk (Below.trod laidOut (by kernel_rfl) (of_decide_eq_true (by kernel_rfl)) k0 bel lt0) (trodAll_cons_mk (Below.trod laidOut (by kernel_rfl) (of_decide_eq_true (by kernel_rfl)) k1 bel lt1) (trodAll_cons_mk (Below.trod laidOut (by kernel_rfl) (of_decide_eq_true (by kernel_rfl)) k2 bel lt2) trodAll_mk0))), rfl, bel.frame _, fun h => by cases h⟩
theorem over : Rows.frameBackRow.holds Try.pinned (OpenSpec.ofChange Rows.frameBackSpec) :=
  OpenClaim.holds_of_wide 6 Try.f6 rfl rfl rfl rfl rfl rfl rfl ⟨rfl, rfl, rfl, rfl, rfl⟩ rfl rfl rfl rfl rfl (by kernel_rfl) Try.func6 (by kernel_rfl)
    (of_decide_eq_true (by kernel_rfl)) (by unfold Func.isWrapper; first | (rw [if_pos (by decide +kernel)]; kernel_rfl) | (rw [if_neg (by decide +kernel)]; exact ⟨rfl, rfl⟩))
    (fun os started H enc _ => lifted os started H enc)
theorem proved : Rows.FrameBackSaid := over
#print axioms proved
end Go.Proofs.Ytphakdfholkbdaa.frameBack
namespace Go.Proofs.Ytphakdfholkbdaa
/-- The row, under a short name, for the claim. -/
theorem frameBack_holds : Rows.FrameBackSaid := frameBack.proved
end Go.Proofs.Ytphakdfholkbdaa
