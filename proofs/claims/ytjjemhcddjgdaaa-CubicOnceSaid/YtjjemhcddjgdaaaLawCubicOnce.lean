-- Written by a program of this session (wip/tools/xprint.py) for this claim.
import Derived.Test.YtjjemhcddjgdaaaRows
import Derived.Test.YtjjemhcddjgdaaaPCubx7
import Derived.Test.YtjjemhcddjgdaaaPureCubicOnce
import Derived.WalkKit
import Derived.ProofKit
import Derived.OpenShut
import Derived.ShutString
import Derived.ChangeOld
import Derived.Below
import Derived.SizedLaws
import Derived.Test.YtjjemhcddjgdaaaOpen
namespace Go.Proofs.Ytjjemhcddjgdaaa.cubicOnce
open Go.ChangeShapes Go.WideShapes Go.ChangeAt Go.RowKit
open Go.ChangeMaps (open_string shut_string)
set_option linter.unusedVariables false
theorem own : ownKnob Try.prog.godebug = none := by kernel_rfl
theorem laidOut : laidOutB Try.prog = true := by kernel_rfl
def IsRow (k : IntKind) (w : World) (a : Option Addr) (len cap : Nat) (zs : List Int) : Prop :=
  (a = none ∧ len = 0 ∧ cap = 0 ∧ zs = []) ∨
  ∃ x, a = some x ∧ len ≤ cap ∧ cap ≤ maxLen ∧ zs.length = cap ∧ (∀ i, i < zs.length → w.cell? (x.add i) = some (.int k (zs.getD i 0))) ∧ ∀ n ∈ zs, (Lit.int k n).wf = true
set_option maxRecDepth 100000 in
theorem lifted (os : Os) (started : os.Started) (H : Type) (enc : TypeId × Value → H) :
    ReturnsInHanded {} Try.checked os 5 .any (Rows.cubicOnceSpec.pre6 enc Try.prog Try.f5 Rows.cubicOnceRow.domain false) (Rows.cubicOnceSpec.post enc Try.prog Try.f5 false true false false) := by
  refine returnsInHanded_of_change_sized (C := Try.checked) own started (by kernel_rfl) Try.func5
    (ChangeSpec.witness6 (enc := enc) (C := Try.checked) false ⟨#[], #[.agg #[.int .u64 0, .int .u64 0, .int .u64 0, .bool false, .int .u64 0, .int .u64 0, .int .u64 0, .int .u64 0], .int .u32 0, .int .u32 0, .int .u32 0, .int .u64 0], []⟩ 8 (by kernel_rfl) (by kernel_rfl) (by kernel_rfl) (by kernel_rfl)) ?_
  intro W base args ds gs before hval0 hW hcnd hsz0 _
  have hsz : (DataW.weightsEach Try.prog (Try.f5.params.toList ++ Rows.cubicOnceSpec.plain.varTypes Try.prog) (ds ++ gs)).all (· ≤ reachBytes) = true := hsz0
  have hval : ∀ (j : Nat) t v, Try.f5.params[j]? = some t → args[j]? = some v → Value.okWide Try.prog W .any base t v := hval0
  have hW' := hW
  obtain ⟨p, q, hA0, hV, rfl, hfz, hnd⟩ := hW
  have hA : DataW.TrodAll enc Try.prog W 0 (fun _ => true) true Try.f5.params.toList args.toList ds p := hA0
  rw [Try.params5] at hA hval hsz
  obtain ⟨v0, vs0, d0, ds0, p0, q0, hargs, rfl, rfl, h0, r0⟩ := trodAll_cons hA
  obtain ⟨v1, vs1, d1, ds1, p1, q1, rfl, rfl, rfl, h1, r1⟩ := trodAll_cons r0
  obtain ⟨v2, vs2, d2, ds2, p2, q2, rfl, rfl, rfl, h2, r2⟩ := trodAll_cons r1
  obtain ⟨v3, vs3, d3, ds3, p3, q3, rfl, rfl, rfl, h3, r3⟩ := trodAll_cons r2
  obtain ⟨v4, vs4, d4, ds4, p4, q4, rfl, rfl, rfl, h4, r4⟩ := trodAll_cons r3
  obtain ⟨rfl, rfl, rfl⟩ := trodAll_nil r4
  obtain rfl : args = #[v0, v1, v2, v3, v4] := by cases args; simp_all
  obtain ⟨rfl, rfl⟩ := trodVars_none hV
  have k0 := h0
  have lt0 : ∀ x ∈ p0, x.block < W.heap.size := by obtain ⟨m, hm⟩ := k0; exact DataW.trod_lt m _ _ _ hm
  obtain ⟨cs0, rfl, hs0⟩ := okWide_struct Try.underlying26 (hval 0 26 v0 rfl rfl)
  have lv0 : IsLv [some .u64, some .u64, some .u64, none, some .u64, some .u64, some .u64, some .u64] cs0.toList := leavesOf_tells 9 26 _ _ (by kernel_rfl) (by simpa using hs0) (by obtain ⟨m, hm⟩ := k0; exact ⟨m, _, by simpa [Value.cells] using hm⟩)
  obtain ⟨l0⟩ := cs0
  have lv0 : IsLv [some .u64, some .u64, some .u64, none, some .u64, some .u64, some .u64, some .u64] l0 := lv0
  obtain ⟨a0_0, l0_0, e0_0, w0_0, lv0⟩ := lv_int lv0
  obtain ⟨a0_1, l0_1, e0_1, w0_1, lv0⟩ := lv_int lv0
  obtain ⟨a0_2, l0_2, e0_2, w0_2, lv0⟩ := lv_int lv0
  obtain ⟨a0_3, l0_3, e0_3, lv0⟩ := lv_bool lv0
  obtain ⟨a0_4, l0_4, e0_4, w0_4, lv0⟩ := lv_int lv0
  obtain ⟨a0_5, l0_5, e0_5, w0_5, lv0⟩ := lv_int lv0
  obtain ⟨a0_6, l0_6, e0_6, w0_6, lv0⟩ := lv_int lv0
  obtain ⟨a0_7, l0_7, e0_7, w0_7, lv0⟩ := lv_int lv0
  have e0_ := lv_nil lv0
  subst e0_
  subst e0_7
  subst e0_6
  subst e0_5
  subst e0_4
  subst e0_3
  subst e0_2
  subst e0_1
  subst e0_0
  obtain ⟨a1, rfl, rfl, rfl, w1⟩ := open_int Try.underlying36 (hval 1 36 v1 rfl rfl) h1
  obtain ⟨a2, rfl, rfl, rfl, w2⟩ := open_int Try.underlying36 (hval 2 36 v2 rfl rfl) h2
  obtain ⟨a3, rfl, rfl, rfl, w3⟩ := open_int Try.underlying36 (hval 3 36 v3 rfl rfl) h3
  obtain ⟨a4, rfl, rfl, rfl, w4⟩ := open_int Try.underlying24 (hval 4 24 v4 rfl rfl) h4
  clear hA0 hval0 hsz0 hsz
  refine (PCub.wigwaglaw12_CubicOnce.walk Pure.CubicOnce a0_0 a0_1 a0_2 a0_3 a0_4 a0_5 a0_6 a0_7 a1 a2 a3 a4 W w0_0 w0_1 w0_2 w0_4 w0_5 w0_6 w0_7 w1 w2 w3 w4).mono fun e W' ⟨he, bel⟩ => ?_
  subst he
  exact ⟨_, rfl, _, _, _, [], _, [], hW', trodAll_mk1 (shut_bool Try.underlying4 _), (trodAll_cons_mk (Below.trod laidOut (by kernel_rfl) (of_decide_eq_true (by kernel_rfl)) k0 bel lt0) (trodAll_cons_mk (shut_int Try.underlying36 w1) (trodAll_cons_mk (shut_int Try.underlying36 w2) (trodAll_cons_mk (shut_int Try.underlying36 w3) (trodAll_cons_mk (shut_int Try.underlying24 w4) trodAll_mk0))))), rfl, bel.frame _, fun h => by cases h⟩
theorem over : Rows.cubicOnceRow.holds Try.pinned (OpenSpec.ofChange Rows.cubicOnceSpec) :=
  OpenClaim.holds_of_wide 5 Try.f5 rfl rfl rfl rfl rfl rfl rfl ⟨rfl, rfl, rfl, rfl, rfl⟩ rfl rfl rfl rfl rfl (by kernel_rfl) Try.func5 (by kernel_rfl)
    (of_decide_eq_true (by kernel_rfl)) (by unfold Func.isWrapper; first | (rw [if_pos (by decide +kernel)]; kernel_rfl) | (rw [if_neg (by decide +kernel)]; exact ⟨rfl, rfl⟩))
    (fun os started H enc _ => lifted os started H enc)
theorem proved : Rows.CubicOnceSaid := over
#print axioms proved
end Go.Proofs.Ytjjemhcddjgdaaa.cubicOnce
namespace Go.Proofs.Ytjjemhcddjgdaaa
/-- The row, under a short name, for the claim. -/
theorem cubicOnce_holds : Rows.CubicOnceSaid := cubicOnce.proved
end Go.Proofs.Ytjjemhcddjgdaaa
