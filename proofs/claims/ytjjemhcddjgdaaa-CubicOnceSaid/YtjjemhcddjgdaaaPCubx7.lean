-- Written by a program of this session (wip/tools/xprint.py) for this claim.
import Derived.Test.YtjjemhcddjgdaaaPCubx0
import Derived.Test.YtjjemhcddjgdaaaPCubx1
import Derived.Test.YtjjemhcddjgdaaaPCubx5
import Derived.Test.YtjjemhcddjgdaaaPCubx6
namespace Go.Proofs.Ytjjemhcddjgdaaa.PCub
open Go.RowKit Go.Proofs.YtjjemhcddjgdaaaW.PrintWords Go.Proofs.YtjjemhcddjgdaaaW.PrintLast Go.Proofs.YtjjemhcddjgdaaaW.PrintMore
attribute [local go_sem] max2_int min2_int max_two min_two max_three min_three max_four min_four   -- for this text's walks alone
set_option linter.unusedVariables false
set_option linter.unusedSimpArgs false

attribute [local go_sem high] eqA26
/-! ### wigwaglaw12_CubicOnce: function 5 -/
def wigwaglaw12_CubicOnce.f (a0_0 : Int) (a0_1 : Int) (a0_2 : Int) (a0_3 : Bool) (a0_4 : Int) (a0_5 : Int) (a0_6 : Int) (a0_7 : Int) (a1 : Int) (a2 : Int) (a3 : Int) (a4 : Int) : Option (Bool) := (wigwaglaw12_awake.f).bind fun t199 => ((cubic_Loss.f a0_0 a0_1 a0_2 a0_3 a0_4 a0_5 a0_6 a0_7 (IntKind.u64.wrap (a1)) (IntKind.u64.wrap (a2))).bind fun bt200 => (if (IntKind.u64.wrap (a1)) < a0_2 then (if t199 = true then (some (bt200.1 == a0_0 && (bt200.2.1 == a0_1 && (bt200.2.2.1 == a0_2 && (bt200.2.2.2.1 == a0_3 && (bt200.2.2.2.2.1 == a0_4 && (bt200.2.2.2.2.2.1 == a0_5 && (bt200.2.2.2.2.2.2.1 == a0_6 && (bt200.2.2.2.2.2.2.2 == a0_7))))))))) else (none)) else ((cubic_Loss.f bt200.1 bt200.2.1 bt200.2.2.1 bt200.2.2.2.1 bt200.2.2.2.2.1 bt200.2.2.2.2.2.1 bt200.2.2.2.2.2.2.1 bt200.2.2.2.2.2.2.2 (IntKind.u64.wrap ((IntKind.u64.wrap (a2)) + 1)) (IntKind.u64.wrap ((IntKind.u64.wrap (a2)) + 2))).bind fun bt209 => ((cubic_Loss.f bt200.1 bt200.2.1 bt200.2.2.1 bt200.2.2.2.1 bt200.2.2.2.2.1 bt200.2.2.2.2.2.1 bt200.2.2.2.2.2.2.1 bt200.2.2.2.2.2.2.2 (mn (IntKind.u64.wrap (a3)) (IntKind.u64.wrap (a2))) (IntKind.u64.wrap ((IntKind.u64.wrap (a2)) + 5))).bind fun bt218 => (if (bt218.1 == bt200.1 && (bt218.2.1 == bt200.2.1 && (bt218.2.2.1 == bt200.2.2.1 && (bt218.2.2.2.1 == bt200.2.2.2.1 && (bt218.2.2.2.2.1 == bt200.2.2.2.2.1 && (bt218.2.2.2.2.2.1 == bt200.2.2.2.2.2.1 && (bt218.2.2.2.2.2.2.1 == bt200.2.2.2.2.2.2.1 && (bt218.2.2.2.2.2.2.2 == bt200.2.2.2.2.2.2.2)))))))) = true then ((cubic_Ack.f bt200.1 bt200.2.1 bt200.2.2.1 bt200.2.2.2.1 bt200.2.2.2.2.1 bt200.2.2.2.2.2.1 bt200.2.2.2.2.2.2.1 bt200.2.2.2.2.2.2.2 a4 (mn (IntKind.u64.wrap (a3)) (IntKind.u64.wrap (a2))) (IntKind.u64.wrap (a2)) 5 false).bind fun bt226 => (if (bt226.1 == bt200.1 && (bt226.2.1 == bt200.2.1 && (bt226.2.2.1 == bt200.2.2.1 && (bt226.2.2.2.1 == bt200.2.2.2.1 && (bt226.2.2.2.2.1 == bt200.2.2.2.2.1 && (bt226.2.2.2.2.2.1 == bt200.2.2.2.2.2.1 && (bt226.2.2.2.2.2.2.1 == bt200.2.2.2.2.2.2.1 && (bt226.2.2.2.2.2.2.2 == bt200.2.2.2.2.2.2.2)))))))) = true then ((cubic_Ack.f a0_0 a0_1 a0_2 a0_3 a0_4 a0_5 a0_6 a0_7 a4 (IntKind.u64.wrap (a1)) (IntKind.u64.wrap (a2)) 5 true).bind fun bt234 => (if t199 = true then (if (bt234.1 == a0_0 && (bt234.2.1 == a0_1 && (bt234.2.2.1 == a0_2 && (bt234.2.2.2.1 == a0_3 && (bt234.2.2.2.2.1 == a0_4 && (bt234.2.2.2.2.2.1 == a0_5 && (bt234.2.2.2.2.2.2.1 == a0_6 && (bt234.2.2.2.2.2.2.2 == a0_7)))))))) = true then (if bt200.1 = bt200.2.1 then (if bt200.2.2.2.1 = true then (none) else (if bt209.2.2.2.2.2.1 ≤ bt200.2.2.2.2.2.1 then (some true) else (some (decide (bt200.1 ≥ bt200.2.2.2.2.2.1))))) else (none)) else (none)) else (none))) else (none))) else (none))))))
def wigwaglaw12_CubicOnce.T7 : Bool × List (List Nat × List Nat) := (true, [([], []), ([], []), ([], []), ([2], [2]), ([3], [3]), ([0, 1, 4], [0, 1, 4]), ([], []), ([5, 6], [5, 6]), ([7, 5], [7]), ([8], [8]), ([8], [8]), ([8], [8]), ([8], [8]), ([12, 8], [8, 12]), ([9, 10, 11, 13, 8, 8], [8, 9, 10, 11, 13]), ([8], [8]), ([14, 15, 8], [8, 14, 15]), ([8, 16], [8, 16]), ([17, 14], [17]), ([18], [18]), ([18], [18]), ([18], [18]), ([21, 18], [18, 21]), ([18], [18]), ([23, 18], [18, 23]), ([19, 20, 22, 24, 18, 18], [18, 19, 20, 22, 24]), ([18], [18]), ([25, 26, 18], [18, 25, 26]), ([18, 27], [18, 27]), ([28, 25, 0, 1, 2, 3, 4, 5, 6, 7, 8, 9, 10, 11, 12, 13, 14, 15, 16, 17, 18, 19, 20, 21, 22, 23, 24, 25, 26, 27, 28], [28])])
def wigwaglaw12_CubicOnce.B7 : List Nat := [0, 0, 0, 4, 12, 31, 0, 127, 255, 511, 511, 511, 511, 4607, 16383, 511, 65535, 131071, 262143, 524287, 524287, 524287, 2621439, 524287, 8912895, 33554431, 524287, 134217727, 268435455, 536870911]
theorem wigwaglaw12_CubicOnce.tab7 : rtab .any (opsOf Try.f5 7) = wigwaglaw12_CubicOnce.T7 := by kernel_rfl
theorem wigwaglaw12_CubicOnce.bits7 : waitsOk wigwaglaw12_CubicOnce.T7.2 wigwaglaw12_CubicOnce.B7 = true := by kernel_rfl
set_option maxHeartbeats 8000000 in
set_option maxRecDepth 100000 in
theorem wigwaglaw12_CubicOnce.calls (a0_0 : Int) (a0_1 : Int) (a0_2 : Int) (a0_3 : Bool) (a0_4 : Int) (a0_5 : Int) (a0_6 : Int) (a0_7 : Int) (a1 : Int) (a2 : Int) (a3 : Int) (a4 : Int) (r : Bool) (w : World) (h : wigwaglaw12_CubicOnce.f a0_0 a0_1 a0_2 a0_3 a0_4 a0_5 a0_6 a0_7 a1 a2 a3 a4 = some r) :
    Calls Try.prog 5 #[.agg #[.int .u64 a0_0, .int .u64 a0_1, .int .u64 a0_2, .bool a0_3, .int .u64 a0_4, .int .u64 a0_5, .int .u64 a0_6, .int .u64 a0_7], .int .u32 a1, .int .u32 a2, .int .u32 a3, .int .u64 a4] w fun e w' => e = .returned (.bool r) ∧ Below w.heap.size w w' := by
  have hu26 := Try.underlying26
  have HB := Aside0.mk (Below.refl w.heap.size w)
  have H : ((wigwaglaw12_awake.f).bind fun t199 => ((cubic_Loss.f a0_0 a0_1 a0_2 a0_3 a0_4 a0_5 a0_6 a0_7 (IntKind.u64.wrap (a1)) (IntKind.u64.wrap (a2))).bind fun bt200 => (if (IntKind.u64.wrap (a1)) < a0_2 then (if t199 = true then (some (bt200.1 == a0_0 && (bt200.2.1 == a0_1 && (bt200.2.2.1 == a0_2 && (bt200.2.2.2.1 == a0_3 && (bt200.2.2.2.2.1 == a0_4 && (bt200.2.2.2.2.2.1 == a0_5 && (bt200.2.2.2.2.2.2.1 == a0_6 && (bt200.2.2.2.2.2.2.2 == a0_7))))))))) else (none)) else ((cubic_Loss.f bt200.1 bt200.2.1 bt200.2.2.1 bt200.2.2.2.1 bt200.2.2.2.2.1 bt200.2.2.2.2.2.1 bt200.2.2.2.2.2.2.1 bt200.2.2.2.2.2.2.2 (IntKind.u64.wrap ((IntKind.u64.wrap (a2)) + 1)) (IntKind.u64.wrap ((IntKind.u64.wrap (a2)) + 2))).bind fun bt209 => ((cubic_Loss.f bt200.1 bt200.2.1 bt200.2.2.1 bt200.2.2.2.1 bt200.2.2.2.2.1 bt200.2.2.2.2.2.1 bt200.2.2.2.2.2.2.1 bt200.2.2.2.2.2.2.2 (mn (IntKind.u64.wrap (a3)) (IntKind.u64.wrap (a2))) (IntKind.u64.wrap ((IntKind.u64.wrap (a2)) + 5))).bind fun bt218 => (if (bt218.1 == bt200.1 && (bt218.2.1 == bt200.2.1 && (bt218.2.2.1 == bt200.2.2.1 && (bt218.2.2.2.1 == bt200.2.2.2.1 && (bt218.2.2.2.2.1 == bt200.2.2.2.2.1 && (bt218.2.2.2.2.2.1 == bt200.2.2.2.2.2.1 && (bt218.2.2.2.2.2.2.1 == bt200.2.2.2.2.2.2.1 && (bt218.2.2.2.2.2.2.2 == bt200.2.2.2.2.2.2.2)))))))) = true then ((cubic_Ack.f bt200.1 bt200.2.1 bt200.2.2.1 bt200.2.2.2.1 bt200.2.2.2.2.1 bt200.2.2.2.2.2.1 bt200.2.2.2.2.2.2.1 bt200.2.2.2.2.2.2.2 a4 (mn (IntKind.u64.wrap (a3)) (IntKind.u64.wrap (a2))) (IntKind.u64.wrap (a2)) 5 false).bind fun bt226 => (if (bt226.1 == bt200.1 && (bt226.2.1 == bt200.2.1 && (bt226.2.2.1 == bt200.2.2.1 && (bt226.2.2.2.1 == bt200.2.2.2.1 && (bt226.2.2.2.2.1 == bt200.2.2.2.2.1 && (bt226.2.2.2.2.2.1 == bt200.2.2.2.2.2.1 && (bt226.2.2.2.2.2.2.1 == bt200.2.2.2.2.2.2.1 && (bt226.2.2.2.2.2.2.2 == bt200.2.2.2.2.2.2.2)))))))) = true then ((cubic_Ack.f a0_0 a0_1 a0_2 a0_3 a0_4 a0_5 a0_6 a0_7 a4 (IntKind.u64.wrap (a1)) (IntKind.u64.wrap (a2)) 5 true).bind fun bt234 => (if t199 = true then (if (bt234.1 == a0_0 && (bt234.2.1 == a0_1 && (bt234.2.2.1 == a0_2 && (bt234.2.2.2.1 == a0_3 && (bt234.2.2.2.2.1 == a0_4 && (bt234.2.2.2.2.2.1 == a0_5 && (bt234.2.2.2.2.2.2.1 == a0_6 && (bt234.2.2.2.2.2.2.2 == a0_7)))))))) = true then (if bt200.1 = bt200.2.1 then (if bt200.2.2.2.1 = true then (none) else (if bt209.2.2.2.2.2.1 ≤ bt200.2.2.2.2.2.1 then (some true) else (some (decide (bt200.1 ≥ bt200.2.2.2.2.2.1))))) else (none)) else (none)) else (none))) else (none))) else (none))))))) = some r := h
  clear h
  replace H := Option.bind_eq_some_iff.mp H
  obtain ⟨t199, A60, H⟩ := H
  replace H : ((cubic_Loss.f a0_0 a0_1 a0_2 a0_3 a0_4 a0_5 a0_6 a0_7 (IntKind.u64.wrap (a1)) (IntKind.u64.wrap (a2))).bind fun bt200 => (if (IntKind.u64.wrap (a1)) < a0_2 then (if t199 = true then (some (bt200.1 == a0_0 && (bt200.2.1 == a0_1 && (bt200.2.2.1 == a0_2 && (bt200.2.2.2.1 == a0_3 && (bt200.2.2.2.2.1 == a0_4 && (bt200.2.2.2.2.2.1 == a0_5 && (bt200.2.2.2.2.2.2.1 == a0_6 && (bt200.2.2.2.2.2.2.2 == a0_7))))))))) else (none)) else ((cubic_Loss.f bt200.1 bt200.2.1 bt200.2.2.1 bt200.2.2.2.1 bt200.2.2.2.2.1 bt200.2.2.2.2.2.1 bt200.2.2.2.2.2.2.1 bt200.2.2.2.2.2.2.2 (IntKind.u64.wrap ((IntKind.u64.wrap (a2)) + 1)) (IntKind.u64.wrap ((IntKind.u64.wrap (a2)) + 2))).bind fun bt209 => ((cubic_Loss.f bt200.1 bt200.2.1 bt200.2.2.1 bt200.2.2.2.1 bt200.2.2.2.2.1 bt200.2.2.2.2.2.1 bt200.2.2.2.2.2.2.1 bt200.2.2.2.2.2.2.2 (mn (IntKind.u64.wrap (a3)) (IntKind.u64.wrap (a2))) (IntKind.u64.wrap ((IntKind.u64.wrap (a2)) + 5))).bind fun bt218 => (if (bt218.1 == bt200.1 && (bt218.2.1 == bt200.2.1 && (bt218.2.2.1 == bt200.2.2.1 && (bt218.2.2.2.1 == bt200.2.2.2.1 && (bt218.2.2.2.2.1 == bt200.2.2.2.2.1 && (bt218.2.2.2.2.2.1 == bt200.2.2.2.2.2.1 && (bt218.2.2.2.2.2.2.1 == bt200.2.2.2.2.2.2.1 && (bt218.2.2.2.2.2.2.2 == bt200.2.2.2.2.2.2.2)))))))) = true then ((cubic_Ack.f bt200.1 bt200.2.1 bt200.2.2.1 bt200.2.2.2.1 bt200.2.2.2.2.1 bt200.2.2.2.2.2.1 bt200.2.2.2.2.2.2.1 bt200.2.2.2.2.2.2.2 a4 (mn (IntKind.u64.wrap (a3)) (IntKind.u64.wrap (a2))) (IntKind.u64.wrap (a2)) 5 false).bind fun bt226 => (if (bt226.1 == bt200.1 && (bt226.2.1 == bt200.2.1 && (bt226.2.2.1 == bt200.2.2.1 && (bt226.2.2.2.1 == bt200.2.2.2.1 && (bt226.2.2.2.2.1 == bt200.2.2.2.2.1 && (bt226.2.2.2.2.2.1 == bt200.2.2.2.2.2.1 && (bt226.2.2.2.2.2.2.1 == bt200.2.2.2.2.2.2.1 && (bt226.2.2.2.2.2.2.2 == bt200.2.2.2.2.2.2.2)))))))) = true then ((cubic_Ack.f a0_0 a0_1 a0_2 a0_3 a0_4 a0_5 a0_6 a0_7 a4 (IntKind.u64.wrap (a1)) (IntKind.u64.wrap (a2)) 5 true).bind fun bt234 => (if t199 = true then (if (bt234.1 == a0_0 && (bt234.2.1 == a0_1 && (bt234.2.2.1 == a0_2 && (bt234.2.2.2.1 == a0_3 && (bt234.2.2.2.2.1 == a0_4 && (bt234.2.2.2.2.2.1 == a0_5 && (bt234.2.2.2.2.2.2.1 == a0_6 && (bt234.2.2.2.2.2.2.2 == a0_7)))))))) = true then (if bt200.1 = bt200.2.1 then (if bt200.2.2.2.1 = true then (none) else (if bt209.2.2.2.2.2.1 ≤ bt200.2.2.2.2.2.1 then (some true) else (some (decide (bt200.1 ≥ bt200.2.2.2.2.2.1))))) else (none)) else (none)) else (none))) else (none))) else (none)))))) = some r := H
  have A6 := Aside0.mk A60
  clear A60
  replace H := Option.bind_eq_some_iff.mp H
  obtain ⟨⟨t200, t201, t202, t203, t204, t205, t206, t207⟩, A70, H⟩ := H
  replace H : (if (IntKind.u64.wrap (a1)) < a0_2 then (if t199 = true then (some (t200 == a0_0 && (t201 == a0_1 && (t202 == a0_2 && (t203 == a0_3 && (t204 == a0_4 && (t205 == a0_5 && (t206 == a0_6 && (t207 == a0_7))))))))) else (none)) else ((cubic_Loss.f t200 t201 t202 t203 t204 t205 t206 t207 (IntKind.u64.wrap ((IntKind.u64.wrap (a2)) + 1)) (IntKind.u64.wrap ((IntKind.u64.wrap (a2)) + 2))).bind fun bt209 => ((cubic_Loss.f t200 t201 t202 t203 t204 t205 t206 t207 (mn (IntKind.u64.wrap (a3)) (IntKind.u64.wrap (a2))) (IntKind.u64.wrap ((IntKind.u64.wrap (a2)) + 5))).bind fun bt218 => (if (bt218.1 == t200 && (bt218.2.1 == t201 && (bt218.2.2.1 == t202 && (bt218.2.2.2.1 == t203 && (bt218.2.2.2.2.1 == t204 && (bt218.2.2.2.2.2.1 == t205 && (bt218.2.2.2.2.2.2.1 == t206 && (bt218.2.2.2.2.2.2.2 == t207)))))))) = true then ((cubic_Ack.f t200 t201 t202 t203 t204 t205 t206 t207 a4 (mn (IntKind.u64.wrap (a3)) (IntKind.u64.wrap (a2))) (IntKind.u64.wrap (a2)) 5 false).bind fun bt226 => (if (bt226.1 == t200 && (bt226.2.1 == t201 && (bt226.2.2.1 == t202 && (bt226.2.2.2.1 == t203 && (bt226.2.2.2.2.1 == t204 && (bt226.2.2.2.2.2.1 == t205 && (bt226.2.2.2.2.2.2.1 == t206 && (bt226.2.2.2.2.2.2.2 == t207)))))))) = true then ((cubic_Ack.f a0_0 a0_1 a0_2 a0_3 a0_4 a0_5 a0_6 a0_7 a4 (IntKind.u64.wrap (a1)) (IntKind.u64.wrap (a2)) 5 true).bind fun bt234 => (if t199 = true then (if (bt234.1 == a0_0 && (bt234.2.1 == a0_1 && (bt234.2.2.1 == a0_2 && (bt234.2.2.2.1 == a0_3 && (bt234.2.2.2.2.1 == a0_4 && (bt234.2.2.2.2.2.1 == a0_5 && (bt234.2.2.2.2.2.2.1 == a0_6 && (bt234.2.2.2.2.2.2.2 == a0_7)))))))) = true then (if t200 = t201 then (if t203 = true then (none) else (if bt209.2.2.2.2.2.1 ≤ t205 then (some true) else (some (decide (t200 ≥ t205))))) else (none)) else (none)) else (none))) else (none))) else (none))))) = some r := H
  have A7 := Aside0.mk A70
  clear A70
  by_cases c8 : (IntKind.u64.wrap (a1)) < a0_2
  · rw [if_pos c8] at H
    have c8b0 : decide ((IntKind.u64.wrap (a1)) < a0_2) = true := decide_eq_true c8
    clear c8
    by_cases c9 : t199 = true
    · subst c9
      have H1 : (some (t200 == a0_0 && (t201 == a0_1 && (t202 == a0_2 && (t203 == a0_3 && (t204 == a0_4 && (t205 == a0_5 && (t206 == a0_6 && (t207 == a0_7))))))))) = some r := by rw [if_pos rfl] at H; exact H
      clear H
      have H := H1
      clear H1
      obtain rfl := Option.some.inj H
      go_enter Try.func5, Try.ntmps5
      go_wp2_with (first | ((with_reducible refine gate_dst (N := 5) rfl ?_); refine box_event ?hg (N := 5) ?hd (cs := #[.int .u64 a0_0, .int .u64 a0_1, .int .u64 a0_2, .bool a0_3, .int .u64 a0_4, .int .u64 a0_5, .int .u64 a0_6, .int .u64 a0_7]) (t := 26) ?hr ?_; (case hd => rfl); (case hg => rfl); (case hr => first | (go_simp; done) | (go_simp; rfl)); intro gb198 hg w10 hbox hb; have n0_ := Aside0.mk (below_step (by repeat (first | (with_reducible first | exact HB.out | apply below_alloc | apply pw_below_drewN | apply below_drew1) | exact HB.out)) hb); have n1_ := Aside0.mk (hbox); have n2_ := Aside0.mk ((by rw [hg]; exact (below_size (by repeat (first | (with_reducible first | exact HB.out | apply below_alloc | apply pw_below_drewN | apply below_drew1) | exact HB.out))) : w.heap.size ≤ gb198)); have n3_ := Aside0.mk ((by rw [hg]; exact (below_size (by repeat (first | (with_reducible first | exact HB.out | apply below_alloc | apply pw_below_drewN | apply below_drew1) | exact HB.out))) : w.heap.size ≤ gb198)); clear HB; have HB := n0_; have BK198 := n1_; have GW198 := n2_; have GE198 := n3_; clear n0_ n1_ n2_ n3_; clear hb hbox hg) | ((with_reducible refine gate_callee (f := 7) rfl ?_); refine goesL_ (some 16) rfl rfl Try.func7 (by kernel_rfl) rfl #[] rfl (by (try simp only [List.map_toArray, List.map_cons, List.map_nil]); first | done | rfl | (simp only [List.length_drop, List.length_take]; rfl)) ?_; (with_reducible refine (wigwaglaw12_awake.calls  true _ A6.out).mono ?_); rintro e w11 ⟨rfl, hb⟩; refine ⟨_, rfl, ?_⟩; have n0_ := Aside0.mk (blk_below (g := gb198) (o := .cells #[.int .u64 a0_0, .int .u64 a0_1, .int .u64 a0_2, .bool a0_3, .int .u64 a0_4, .int .u64 a0_5, .int .u64 a0_6, .int .u64 a0_7] 26 (0, 0)) (by (with_reducible repeat (first | refine blk_drewN ?_ _ | refine blk_drew ?_ | refine blk_alloc ?_ _)); exact BK198.out) hb); have n1_ := Aside0.mk (below_step (by repeat (first | (with_reducible first | exact HB.out | apply below_alloc | apply pw_below_drewN | apply below_drew1 | refine below_set ?_ GE198.out) | exact HB.out)) hb); clear BK198; clear HB; have BK198 := n0_; have HB := n1_; clear n0_ n1_; (try clear hb); (try clear hb2); (try clear hk); (try clear hi); have hcz12_0 : w11.cell? ⟨gb198, 0, none⟩ = some (.int .u64 a0_0) := (blk_cell BK198.out 0).trans rfl; have hcz12_1 : w11.cell? ⟨gb198, 1, none⟩ = some (.int .u64 a0_1) := (blk_cell BK198.out 1).trans rfl; have hcz12_2 : w11.cell? ⟨gb198, 2, none⟩ = some (.int .u64 a0_2) := (blk_cell BK198.out 2).trans rfl; have hcz12_3 : w11.cell? ⟨gb198, 3, none⟩ = some (.bool a0_3) := (blk_cell BK198.out 3).trans rfl; have hcz12_4 : w11.cell? ⟨gb198, 4, none⟩ = some (.int .u64 a0_4) := (blk_cell BK198.out 4).trans rfl; have hcz12_5 : w11.cell? ⟨gb198, 5, none⟩ = some (.int .u64 a0_5) := (blk_cell BK198.out 5).trans rfl; have hcz12_6 : w11.cell? ⟨gb198, 6, none⟩ = some (.int .u64 a0_6) := (blk_cell BK198.out 6).trans rfl; have hcz12_7 : w11.cell? ⟨gb198, 7, none⟩ = some (.int .u64 a0_7) := (blk_cell BK198.out 7).trans rfl; have hfz12_0 := blk_frozen BK198.out 0; have hfz12_1 := blk_frozen BK198.out 1; have hfz12_2 := blk_frozen BK198.out 2; have hfz12_3 := blk_frozen BK198.out 3; have hfz12_4 := blk_frozen BK198.out 4; have hfz12_5 := blk_frozen BK198.out 5; have hfz12_6 := blk_frozen BK198.out 6; have hfz12_7 := blk_frozen BK198.out 7) | ((with_reducible refine gate_callee (f := 10) rfl ?_); refine goesL_ (some 22) rfl rfl Try.func10 (by kernel_rfl) rfl #[.agg #[.int .u64 a0_0, .int .u64 a0_1, .int .u64 a0_2, .bool a0_3, .int .u64 a0_4, .int .u64 a0_5, .int .u64 a0_6, .int .u64 a0_7], .int .u64 (IntKind.u64.wrap (a1)), .int .u64 (IntKind.u64.wrap (a2))] rfl (by (try simp only [List.map_toArray, List.map_cons, List.map_nil]); first | done | rfl | (simp only [List.length_drop, List.length_take]; rfl)) ?_; (with_reducible refine (cubic_Loss.calls a0_0 a0_1 a0_2 a0_3 a0_4 a0_5 a0_6 a0_7 (IntKind.u64.wrap (a1)) (IntKind.u64.wrap (a2)) t200 t201 t202 t203 t204 t205 t206 t207 _ A7.out).mono ?_); rintro e w13 ⟨rfl, hb⟩; refine ⟨_, rfl, ?_⟩; have n0_ := Aside0.mk (blk_below (g := gb198) (o := .cells #[.int .u64 a0_0, .int .u64 a0_1, .int .u64 a0_2, .bool a0_3, .int .u64 a0_4, .int .u64 a0_5, .int .u64 a0_6, .int .u64 a0_7] 26 (0, 0)) (by (with_reducible repeat (first | refine blk_drewN ?_ _ | refine blk_drew ?_ | refine blk_alloc ?_ _)); exact BK198.out) hb); have n1_ := Aside0.mk (below_step (by repeat (first | (with_reducible first | exact HB.out | apply below_alloc | apply pw_below_drewN | apply below_drew1 | refine below_set ?_ GE198.out) | exact HB.out)) hb); clear BK198; clear HB; have BK198 := n0_; have HB := n1_; clear n0_ n1_; (try clear hb); (try clear hb2); (try clear hk); (try clear hi)) | ((with_reducible refine gate_dst (N := 12) rfl ?_); refine box_event ?hg (N := 12) ?hd (cs := #[.int .u64 0, .int .u64 0, .int .u64 0, .bool false, .int .u64 0, .int .u64 0, .int .u64 0, .int .u64 0]) (t := 26) ?hr ?_; (case hd => rfl); (case hg => rfl); (case hr => first | (go_simp; done) | (go_simp; rfl)); intro gb208 hg w14 hbox hb; have n0_ := Aside0.mk (blk_below (g := gb198) (o := .cells #[.int .u64 a0_0, .int .u64 a0_1, .int .u64 a0_2, .bool a0_3, .int .u64 a0_4, .int .u64 a0_5, .int .u64 a0_6, .int .u64 a0_7] 26 (0, 0)) (by (with_reducible repeat (first | refine blk_drewN ?_ _ | refine blk_drew ?_ | refine blk_alloc ?_ _)); exact BK198.out) hb); have n1_ := Aside0.mk (below_step (by repeat (first | (with_reducible first | exact HB.out | apply below_alloc | apply pw_below_drewN | apply below_drew1 | refine below_set ?_ GE198.out) | exact HB.out)) hb); have n2_ := Aside0.mk (hbox); have n3_ := Aside0.mk ((by rw [hg]; exact (below_size (by repeat (first | (with_reducible first | exact HB.out | apply below_alloc | apply pw_below_drewN | apply below_drew1 | refine below_set ?_ GE198.out) | exact HB.out))) : w.heap.size ≤ gb208)); have n4_ := Aside0.mk ((by rw [hg]; exact (below_size (by repeat (first | (with_reducible first | exact HB.out | apply below_alloc | apply pw_below_drewN | apply below_drew1 | refine below_set ?_ GE198.out) | exact HB.out))) : w.heap.size ≤ gb208)); have n5_ := Aside0.mk ((by rw [hg]; exact Nat.ne_of_lt (blk_lt (g := gb198) (o := .cells #[.int .u64 a0_0, .int .u64 a0_1, .int .u64 a0_2, .bool a0_3, .int .u64 a0_4, .int .u64 a0_5, .int .u64 a0_6, .int .u64 a0_7] 26 (0, 0)) (by (with_reducible repeat (first | refine blk_drewN ?_ _ | refine blk_drew ?_ | refine blk_alloc ?_ _)); exact BK198.out)) : gb198 ≠ gb208)); have n6_ := Aside0.mk ((by rw [hg]; exact Nat.ne_of_gt (blk_lt (g := gb198) (o := .cells #[.int .u64 a0_0, .int .u64 a0_1, .int .u64 a0_2, .bool a0_3, .int .u64 a0_4, .int .u64 a0_5, .int .u64 a0_6, .int .u64 a0_7] 26 (0, 0)) (by (with_reducible repeat (first | refine blk_drewN ?_ _ | refine blk_drew ?_ | refine blk_alloc ?_ _)); exact BK198.out)) : gb208 ≠ gb198)); clear BK198; clear HB; have BK198 := n0_; have HB := n1_; have BK208 := n2_; have GW208 := n3_; have GE208 := n4_; have NB198_208 := n5_; have NB208_198 := n6_; clear n0_ n1_ n2_ n3_ n4_ n5_ n6_; clear hb hbox hg; have hnb15 := NB208_198.out; have hnc15 := NB198_208.out; have hcz16_0 : w14.cell? ⟨gb208, 0, none⟩ = some (.int .u64 0) := (blk_cell BK208.out 0).trans rfl; have hcz16_1 : w14.cell? ⟨gb208, 1, none⟩ = some (.int .u64 0) := (blk_cell BK208.out 1).trans rfl; have hcz16_2 : w14.cell? ⟨gb208, 2, none⟩ = some (.int .u64 0) := (blk_cell BK208.out 2).trans rfl; have hcz16_3 : w14.cell? ⟨gb208, 3, none⟩ = some (.bool false) := (blk_cell BK208.out 3).trans rfl; have hcz16_4 : w14.cell? ⟨gb208, 4, none⟩ = some (.int .u64 0) := (blk_cell BK208.out 4).trans rfl; have hcz16_5 : w14.cell? ⟨gb208, 5, none⟩ = some (.int .u64 0) := (blk_cell BK208.out 5).trans rfl; have hcz16_6 : w14.cell? ⟨gb208, 6, none⟩ = some (.int .u64 0) := (blk_cell BK208.out 6).trans rfl; have hcz16_7 : w14.cell? ⟨gb208, 7, none⟩ = some (.int .u64 0) := (blk_cell BK208.out 7).trans rfl; have hfz16_0 := blk_frozen BK208.out 0; have hfz16_1 := blk_frozen BK208.out 1; have hfz16_2 := blk_frozen BK208.out 2; have hfz16_3 := blk_frozen BK208.out 3; have hfz16_4 := blk_frozen BK208.out 4; have hfz16_5 := blk_frozen BK208.out 5; have hfz16_6 := blk_frozen BK208.out 6; have hfz16_7 := blk_frozen BK208.out 7; have hcz17_0 : w14.cell? ⟨gb198, 0, none⟩ = some (.int .u64 a0_0) := (blk_cell BK198.out 0).trans rfl; have hcz17_1 : w14.cell? ⟨gb198, 1, none⟩ = some (.int .u64 a0_1) := (blk_cell BK198.out 1).trans rfl; have hcz17_2 : w14.cell? ⟨gb198, 2, none⟩ = some (.int .u64 a0_2) := (blk_cell BK198.out 2).trans rfl; have hcz17_3 : w14.cell? ⟨gb198, 3, none⟩ = some (.bool a0_3) := (blk_cell BK198.out 3).trans rfl; have hcz17_4 : w14.cell? ⟨gb198, 4, none⟩ = some (.int .u64 a0_4) := (blk_cell BK198.out 4).trans rfl; have hcz17_5 : w14.cell? ⟨gb198, 5, none⟩ = some (.int .u64 a0_5) := (blk_cell BK198.out 5).trans rfl; have hcz17_6 : w14.cell? ⟨gb198, 6, none⟩ = some (.int .u64 a0_6) := (blk_cell BK198.out 6).trans rfl; have hcz17_7 : w14.cell? ⟨gb198, 7, none⟩ = some (.int .u64 a0_7) := (blk_cell BK198.out 7).trans rfl; have hfz17_0 := blk_frozen BK198.out 0; have hfz17_1 := blk_frozen BK198.out 1; have hfz17_2 := blk_frozen BK198.out 2; have hfz17_3 := blk_frozen BK198.out 3; have hfz17_4 := blk_frozen BK198.out 4; have hfz17_5 := blk_frozen BK198.out 5; have hfz17_6 := blk_frozen BK198.out 6; have hfz17_7 := blk_frozen BK198.out 7))
      go_ret
      exact ⟨by first | rfl | (simp [errW_none, errW_some] <;> rfl) | (simp [*, errW_none, errW_some] <;> rfl), by repeat (first | (with_reducible first | exact HB.out | apply below_alloc | apply pw_below_drewN | apply below_drew1 | refine below_set ?_ GE198.out | refine below_set ?_ GE208.out) | exact HB.out)⟩
    · replace c9 := Bool.eq_false_iff.mpr c9
      subst c9
      have H1 : (none) = some r := by rw [if_neg (show ¬ (false = true) by decide)] at H; exact H
      clear H
      have H := H1
      clear H1
      exact absurd H (by simp)
  · rw [if_neg c8] at H
    have c8b0 : decide ((IntKind.u64.wrap (a1)) < a0_2) = false := decide_eq_false c8
    clear c8
    obtain ⟨ji18, hji18⟩ : ∃ j_ : Int, (mn (IntKind.u64.wrap (a3)) (IntKind.u64.wrap (a2))) = j_ := ⟨_, rfl⟩
    replace H : ((cubic_Loss.f t200 t201 t202 t203 t204 t205 t206 t207 (IntKind.u64.wrap ((IntKind.u64.wrap (a2)) + 1)) (IntKind.u64.wrap ((IntKind.u64.wrap (a2)) + 2))).bind fun bt209 => ((cubic_Loss.f t200 t201 t202 t203 t204 t205 t206 t207 (ji18) (IntKind.u64.wrap ((IntKind.u64.wrap (a2)) + 5))).bind fun bt218 => (if (bt218.1 == t200 && (bt218.2.1 == t201 && (bt218.2.2.1 == t202 && (bt218.2.2.2.1 == t203 && (bt218.2.2.2.2.1 == t204 && (bt218.2.2.2.2.2.1 == t205 && (bt218.2.2.2.2.2.2.1 == t206 && (bt218.2.2.2.2.2.2.2 == t207)))))))) = true then ((cubic_Ack.f t200 t201 t202 t203 t204 t205 t206 t207 a4 (ji18) (IntKind.u64.wrap (a2)) 5 false).bind fun bt226 => (if (bt226.1 == t200 && (bt226.2.1 == t201 && (bt226.2.2.1 == t202 && (bt226.2.2.2.1 == t203 && (bt226.2.2.2.2.1 == t204 && (bt226.2.2.2.2.2.1 == t205 && (bt226.2.2.2.2.2.2.1 == t206 && (bt226.2.2.2.2.2.2.2 == t207)))))))) = true then ((cubic_Ack.f a0_0 a0_1 a0_2 a0_3 a0_4 a0_5 a0_6 a0_7 a4 (IntKind.u64.wrap (a1)) (IntKind.u64.wrap (a2)) 5 true).bind fun bt234 => (if t199 = true then (if (bt234.1 == a0_0 && (bt234.2.1 == a0_1 && (bt234.2.2.1 == a0_2 && (bt234.2.2.2.1 == a0_3 && (bt234.2.2.2.2.1 == a0_4 && (bt234.2.2.2.2.2.1 == a0_5 && (bt234.2.2.2.2.2.2.1 == a0_6 && (bt234.2.2.2.2.2.2.2 == a0_7)))))))) = true then (if t200 = t201 then (if t203 = true then (none) else (if bt209.2.2.2.2.2.1 ≤ t205 then (some true) else (some (decide (t200 ≥ t205))))) else (none)) else (none)) else (none))) else (none))) else (none)))) = some r := by first | (rw [hji18] at H; exact H) | (simp only [hji18] at H ⊢; exact H)
    (try rw [hji18] at A6)
    (try rw [hji18] at A7)
    have hji18_ : (if (IntKind.u64.wrap (a2)) < (IntKind.u64.wrap (a3)) then (IntKind.u64.wrap (a2)) else (IntKind.u64.wrap (a3))) = ji18 := hji18
    replace H := Option.bind_eq_some_iff.mp H
    obtain ⟨⟨t209, t210, t211, t212, t213, t214, t215, t216⟩, A190, H⟩ := H
    replace H : ((cubic_Loss.f t200 t201 t202 t203 t204 t205 t206 t207 (ji18) (IntKind.u64.wrap ((IntKind.u64.wrap (a2)) + 5))).bind fun bt218 => (if (bt218.1 == t200 && (bt218.2.1 == t201 && (bt218.2.2.1 == t202 && (bt218.2.2.2.1 == t203 && (bt218.2.2.2.2.1 == t204 && (bt218.2.2.2.2.2.1 == t205 && (bt218.2.2.2.2.2.2.1 == t206 && (bt218.2.2.2.2.2.2.2 == t207)))))))) = true then ((cubic_Ack.f t200 t201 t202 t203 t204 t205 t206 t207 a4 (ji18) (IntKind.u64.wrap (a2)) 5 false).bind fun bt226 => (if (bt226.1 == t200 && (bt226.2.1 == t201 && (bt226.2.2.1 == t202 && (bt226.2.2.2.1 == t203 && (bt226.2.2.2.2.1 == t204 && (bt226.2.2.2.2.2.1 == t205 && (bt226.2.2.2.2.2.2.1 == t206 && (bt226.2.2.2.2.2.2.2 == t207)))))))) = true then ((cubic_Ack.f a0_0 a0_1 a0_2 a0_3 a0_4 a0_5 a0_6 a0_7 a4 (IntKind.u64.wrap (a1)) (IntKind.u64.wrap (a2)) 5 true).bind fun bt234 => (if t199 = true then (if (bt234.1 == a0_0 && (bt234.2.1 == a0_1 && (bt234.2.2.1 == a0_2 && (bt234.2.2.2.1 == a0_3 && (bt234.2.2.2.2.1 == a0_4 && (bt234.2.2.2.2.2.1 == a0_5 && (bt234.2.2.2.2.2.2.1 == a0_6 && (bt234.2.2.2.2.2.2.2 == a0_7)))))))) = true then (if t200 = t201 then (if t203 = true then (none) else (if t214 ≤ t205 then (some true) else (some (decide (t200 ≥ t205))))) else (none)) else (none)) else (none))) else (none))) else (none))) = some r := H
    have A19 := Aside0.mk A190
    clear A190
    replace H := Option.bind_eq_some_iff.mp H
    obtain ⟨⟨t218, t219, t220, t221, t222, t223, t224, t225⟩, A200, H⟩ := H
    replace H : (if (t218 == t200 && (t219 == t201 && (t220 == t202 && (t221 == t203 && (t222 == t204 && (t223 == t205 && (t224 == t206 && (t225 == t207)))))))) = true then ((cubic_Ack.f t200 t201 t202 t203 t204 t205 t206 t207 a4 (ji18) (IntKind.u64.wrap (a2)) 5 false).bind fun bt226 => (if (bt226.1 == t200 && (bt226.2.1 == t201 && (bt226.2.2.1 == t202 && (bt226.2.2.2.1 == t203 && (bt226.2.2.2.2.1 == t204 && (bt226.2.2.2.2.2.1 == t205 && (bt226.2.2.2.2.2.2.1 == t206 && (bt226.2.2.2.2.2.2.2 == t207)))))))) = true then ((cubic_Ack.f a0_0 a0_1 a0_2 a0_3 a0_4 a0_5 a0_6 a0_7 a4 (IntKind.u64.wrap (a1)) (IntKind.u64.wrap (a2)) 5 true).bind fun bt234 => (if t199 = true then (if (bt234.1 == a0_0 && (bt234.2.1 == a0_1 && (bt234.2.2.1 == a0_2 && (bt234.2.2.2.1 == a0_3 && (bt234.2.2.2.2.1 == a0_4 && (bt234.2.2.2.2.2.1 == a0_5 && (bt234.2.2.2.2.2.2.1 == a0_6 && (bt234.2.2.2.2.2.2.2 == a0_7)))))))) = true then (if t200 = t201 then (if t203 = true then (none) else (if t214 ≤ t205 then (some true) else (some (decide (t200 ≥ t205))))) else (none)) else (none)) else (none))) else (none))) else (none)) = some r := H
    have A20 := Aside0.mk A200
    clear A200
    by_cases c21 : (t218 == t200 && (t219 == t201 && (t220 == t202 && (t221 == t203 && (t222 == t204 && (t223 == t205 && (t224 == t206 && (t225 == t207)))))))) = true
    · rw [if_pos c21] at H
      have c21b0 : (t218 == t200 && (t219 == t201 && (t220 == t202 && (t221 == t203 && (t222 == t204 && (t223 == t205 && (t224 == t206 && (t225 == t207)))))))) = true := c21
      (try (have c21b1 : decide (t218 = t200 && (t219 == t201 && (t220 == t202 && (t221 == t203 && (t222 == t204 && (t223 == t205 && (t224 == t206 && (t225 == t207)))))))) = true := by simpa using c21))
      (try (have c21b2 : (t218 == t200 && (t219 == t201 && (t220 == t202 && (t221 == t203 && (t222 == t204 && (t223 == t205 && (t224 == t206 && (t225 == t207)))))))) = true := by simpa using c21))
      clear c21
      replace H := Option.bind_eq_some_iff.mp H
      obtain ⟨⟨t226, t227, t228, t229, t230, t231, t232, t233⟩, A220, H⟩ := H
      replace H : (if (t226 == t200 && (t227 == t201 && (t228 == t202 && (t229 == t203 && (t230 == t204 && (t231 == t205 && (t232 == t206 && (t233 == t207)))))))) = true then ((cubic_Ack.f a0_0 a0_1 a0_2 a0_3 a0_4 a0_5 a0_6 a0_7 a4 (IntKind.u64.wrap (a1)) (IntKind.u64.wrap (a2)) 5 true).bind fun bt234 => (if t199 = true then (if (bt234.1 == a0_0 && (bt234.2.1 == a0_1 && (bt234.2.2.1 == a0_2 && (bt234.2.2.2.1 == a0_3 && (bt234.2.2.2.2.1 == a0_4 && (bt234.2.2.2.2.2.1 == a0_5 && (bt234.2.2.2.2.2.2.1 == a0_6 && (bt234.2.2.2.2.2.2.2 == a0_7)))))))) = true then (if t200 = t201 then (if t203 = true then (none) else (if t214 ≤ t205 then (some true) else (some (decide (t200 ≥ t205))))) else (none)) else (none)) else (none))) else (none)) = some r := H
      have A22 := Aside0.mk A220
      clear A220
      by_cases c23 : (t226 == t200 && (t227 == t201 && (t228 == t202 && (t229 == t203 && (t230 == t204 && (t231 == t205 && (t232 == t206 && (t233 == t207)))))))) = true
      · rw [if_pos c23] at H
        have c23b0 : (t226 == t200 && (t227 == t201 && (t228 == t202 && (t229 == t203 && (t230 == t204 && (t231 == t205 && (t232 == t206 && (t233 == t207)))))))) = true := c23
        (try (have c23b1 : decide (t226 = t200 && (t227 == t201 && (t228 == t202 && (t229 == t203 && (t230 == t204 && (t231 == t205 && (t232 == t206 && (t233 == t207)))))))) = true := by simpa using c23))
        (try (have c23b2 : (t226 == t200 && (t227 == t201 && (t228 == t202 && (t229 == t203 && (t230 == t204 && (t231 == t205 && (t232 == t206 && (t233 == t207)))))))) = true := by simpa using c23))
        clear c23
        replace H := Option.bind_eq_some_iff.mp H
        obtain ⟨⟨t234, t235, t236, t237, t238, t239, t240, t241⟩, A240, H⟩ := H
        replace H : (if t199 = true then (if (t234 == a0_0 && (t235 == a0_1 && (t236 == a0_2 && (t237 == a0_3 && (t238 == a0_4 && (t239 == a0_5 && (t240 == a0_6 && (t241 == a0_7)))))))) = true then (if t200 = t201 then (if t203 = true then (none) else (if t214 ≤ t205 then (some true) else (some (decide (t200 ≥ t205))))) else (none)) else (none)) else (none)) = some r := H
        have A24 := Aside0.mk A240
        clear A240
        by_cases c25 : t199 = true
        · subst c25
          have H1 : (if (t234 == a0_0 && (t235 == a0_1 && (t236 == a0_2 && (t237 == a0_3 && (t238 == a0_4 && (t239 == a0_5 && (t240 == a0_6 && (t241 == a0_7)))))))) = true then (if t200 = t201 then (if t203 = true then (none) else (if t214 ≤ t205 then (some true) else (some (decide (t200 ≥ t205))))) else (none)) else (none)) = some r := by rw [if_pos rfl] at H; exact H
          clear H
          have H := H1
          clear H1
          by_cases c26 : (t234 == a0_0 && (t235 == a0_1 && (t236 == a0_2 && (t237 == a0_3 && (t238 == a0_4 && (t239 == a0_5 && (t240 == a0_6 && (t241 == a0_7)))))))) = true
          · rw [if_pos c26] at H
            have c26b0 : (t234 == a0_0 && (t235 == a0_1 && (t236 == a0_2 && (t237 == a0_3 && (t238 == a0_4 && (t239 == a0_5 && (t240 == a0_6 && (t241 == a0_7)))))))) = true := c26
            (try (have c26b1 : decide (t234 = a0_0 && (t235 == a0_1 && (t236 == a0_2 && (t237 == a0_3 && (t238 == a0_4 && (t239 == a0_5 && (t240 == a0_6 && (t241 == a0_7)))))))) = true := by simpa using c26))
            (try (have c26b2 : (t234 == a0_0 && (t235 == a0_1 && (t236 == a0_2 && (t237 == a0_3 && (t238 == a0_4 && (t239 == a0_5 && (t240 == a0_6 && (t241 == a0_7)))))))) = true := by simpa using c26))
            clear c26
            by_cases c27 : t200 = t201
            · rw [if_pos c27] at H
              have c27b0 : (t200 == t201) = true := beq_iff_eq.mpr c27
              have c27b1 : (t200 != t201) = false := bne_eq_false_iff_eq.mpr c27
              clear c27
              by_cases c28 : t203 = true
              · subst c28
                have H1 : (none) = some r := by rw [if_pos rfl] at H; exact H
                clear H
                have H := H1
                clear H1
                exact absurd H (by simp)
              · replace c28 := Bool.eq_false_iff.mpr c28
                subst c28
                have c21b3 : (t218 == t200 && (t219 == t201 && (t220 == t202 && (!t221 && (t222 == t204 && (t223 == t205 && (t224 == t206 && (t225 == t207)))))))) = true := by simpa using c21b0
                have c23b3 : (t226 == t200 && (t227 == t201 && (t228 == t202 && (!t229 && (t230 == t204 && (t231 == t205 && (t232 == t206 && (t233 == t207)))))))) = true := by simpa using c23b0
                have H1 : (if t214 ≤ t205 then (some true) else (some (decide (t200 ≥ t205)))) = some r := by rw [if_neg (show ¬ (false = true) by decide)] at H; exact H
                clear H
                have H := H1
                clear H1
                by_cases c29 : t214 ≤ t205
                · rw [if_pos c29] at H
                  have c29b0 : decide (t214 ≤ t205) = true := decide_eq_true c29
                  clear c29
                  obtain rfl := Option.some.inj H
                  go_enter Try.func5, Try.ntmps5
                  try go_wp2_with (first | ((with_reducible refine gate_dst (N := 5) rfl ?_); refine box_event ?hg (N := 5) ?hd (cs := #[.int .u64 a0_0, .int .u64 a0_1, .int .u64 a0_2, .bool a0_3, .int .u64 a0_4, .int .u64 a0_5, .int .u64 a0_6, .int .u64 a0_7]) (t := 26) ?hr ?_; (case hd => rfl); (case hg => rfl); (case hr => first | (go_simp; done) | (go_simp; rfl)); intro gb198 hg w30 hbox hb; have n0_ := Aside0.mk (below_step (by repeat (first | (with_reducible first | exact HB.out | apply below_alloc | apply pw_below_drewN | apply below_drew1) | exact HB.out)) hb); have n1_ := Aside0.mk (hbox); have n2_ := Aside0.mk ((by rw [hg]; exact (below_size (by repeat (first | (with_reducible first | exact HB.out | apply below_alloc | apply pw_below_drewN | apply below_drew1) | exact HB.out))) : w.heap.size ≤ gb198)); have n3_ := Aside0.mk ((by rw [hg]; exact (below_size (by repeat (first | (with_reducible first | exact HB.out | apply below_alloc | apply pw_below_drewN | apply below_drew1) | exact HB.out))) : w.heap.size ≤ gb198)); clear HB; have HB := n0_; have BK198 := n1_; have GW198 := n2_; have GE198 := n3_; clear n0_ n1_ n2_ n3_; clear hb hbox hg) | ((with_reducible refine gate_callee (f := 7) rfl ?_); refine goesL_ (some 16) rfl rfl Try.func7 (by kernel_rfl) rfl #[] rfl (by (try simp only [List.map_toArray, List.map_cons, List.map_nil]); first | done | rfl | (simp only [List.length_drop, List.length_take]; rfl)) ?_; (with_reducible refine (wigwaglaw12_awake.calls  true _ A6.out).mono ?_); rintro e w31 ⟨rfl, hb⟩; refine ⟨_, rfl, ?_⟩; have n0_ := Aside0.mk (blk_below (g := gb198) (o := .cells #[.int .u64 a0_0, .int .u64 a0_1, .int .u64 a0_2, .bool a0_3, .int .u64 a0_4, .int .u64 a0_5, .int .u64 a0_6, .int .u64 a0_7] 26 (0, 0)) (by (with_reducible repeat (first | refine blk_drewN ?_ _ | refine blk_drew ?_ | refine blk_alloc ?_ _)); exact BK198.out) hb); have n1_ := Aside0.mk (below_step (by repeat (first | (with_reducible first | exact HB.out | apply below_alloc | apply pw_below_drewN | apply below_drew1 | refine below_set ?_ GE198.out) | exact HB.out)) hb); clear BK198; clear HB; have BK198 := n0_; have HB := n1_; clear n0_ n1_; (try clear hb); (try clear hb2); (try clear hk); (try clear hi); have hcz32_0 : w31.cell? ⟨gb198, 0, none⟩ = some (.int .u64 a0_0) := (blk_cell BK198.out 0).trans rfl; have hcz32_1 : w31.cell? ⟨gb198, 1, none⟩ = some (.int .u64 a0_1) := (blk_cell BK198.out 1).trans rfl; have hcz32_2 : w31.cell? ⟨gb198, 2, none⟩ = some (.int .u64 a0_2) := (blk_cell BK198.out 2).trans rfl; have hcz32_3 : w31.cell? ⟨gb198, 3, none⟩ = some (.bool a0_3) := (blk_cell BK198.out 3).trans rfl; have hcz32_4 : w31.cell? ⟨gb198, 4, none⟩ = some (.int .u64 a0_4) := (blk_cell BK198.out 4).trans rfl; have hcz32_5 : w31.cell? ⟨gb198, 5, none⟩ = some (.int .u64 a0_5) := (blk_cell BK198.out 5).trans rfl; have hcz32_6 : w31.cell? ⟨gb198, 6, none⟩ = some (.int .u64 a0_6) := (blk_cell BK198.out 6).trans rfl; have hcz32_7 : w31.cell? ⟨gb198, 7, none⟩ = some (.int .u64 a0_7) := (blk_cell BK198.out 7).trans rfl; have hfz32_0 := blk_frozen BK198.out 0; have hfz32_1 := blk_frozen BK198.out 1; have hfz32_2 := blk_frozen BK198.out 2; have hfz32_3 := blk_frozen BK198.out 3; have hfz32_4 := blk_frozen BK198.out 4; have hfz32_5 := blk_frozen BK198.out 5; have hfz32_6 := blk_frozen BK198.out 6; have hfz32_7 := blk_frozen BK198.out 7) | ((with_reducible refine gate_callee (f := 10) rfl ?_); refine goesL_ (some 22) rfl rfl Try.func10 (by kernel_rfl) rfl #[.agg #[.int .u64 a0_0, .int .u64 a0_1, .int .u64 a0_2, .bool a0_3, .int .u64 a0_4, .int .u64 a0_5, .int .u64 a0_6, .int .u64 a0_7], .int .u64 (IntKind.u64.wrap (a1)), .int .u64 (IntKind.u64.wrap (a2))] rfl (by (try simp only [List.map_toArray, List.map_cons, List.map_nil]); first | done | rfl | (simp only [List.length_drop, List.length_take]; rfl)) ?_; (with_reducible refine (cubic_Loss.calls a0_0 a0_1 a0_2 a0_3 a0_4 a0_5 a0_6 a0_7 (IntKind.u64.wrap (a1)) (IntKind.u64.wrap (a2)) t200 t201 t202 false t204 t205 t206 t207 _ A7.out).mono ?_); rintro e w33 ⟨rfl, hb⟩; refine ⟨_, rfl, ?_⟩; have n0_ := Aside0.mk (blk_below (g := gb198) (o := .cells #[.int .u64 a0_0, .int .u64 a0_1, .int .u64 a0_2, .bool a0_3, .int .u64 a0_4, .int .u64 a0_5, .int .u64 a0_6, .int .u64 a0_7] 26 (0, 0)) (by (with_reducible repeat (first | refine blk_drewN ?_ _ | refine blk_drew ?_ | refine blk_alloc ?_ _)); exact BK198.out) hb); have n1_ := Aside0.mk (below_step (by repeat (first | (with_reducible first | exact HB.out | apply below_alloc | apply pw_below_drewN | apply below_drew1 | refine below_set ?_ GE198.out) | exact HB.out)) hb); clear BK198; clear HB; have BK198 := n0_; have HB := n1_; clear n0_ n1_; (try clear hb); (try clear hb2); (try clear hk); (try clear hi)) | ((with_reducible refine gate_dst (N := 12) rfl ?_); refine box_event ?hg (N := 12) ?hd (cs := #[.int .u64 0, .int .u64 0, .int .u64 0, .bool false, .int .u64 0, .int .u64 0, .int .u64 0, .int .u64 0]) (t := 26) ?hr ?_; (case hd => rfl); (case hg => rfl); (case hr => first | (go_simp; done) | (go_simp; rfl)); intro gb208 hg w34 hbox hb; have n0_ := Aside0.mk (blk_below (g := gb198) (o := .cells #[.int .u64 a0_0, .int .u64 a0_1, .int .u64 a0_2, .bool a0_3, .int .u64 a0_4, .int .u64 a0_5, .int .u64 a0_6, .int .u64 a0_7] 26 (0, 0)) (by (with_reducible repeat (first | refine blk_drewN ?_ _ | refine blk_drew ?_ | refine blk_alloc ?_ _)); exact BK198.out) hb); have n1_ := Aside0.mk (below_step (by repeat (first | (with_reducible first | exact HB.out | apply below_alloc | apply pw_below_drewN | apply below_drew1 | refine below_set ?_ GE198.out) | exact HB.out)) hb); have n2_ := Aside0.mk (hbox); have n3_ := Aside0.mk ((by rw [hg]; exact (below_size (by repeat (first | (with_reducible first | exact HB.out | apply below_alloc | apply pw_below_drewN | apply below_drew1 | refine below_set ?_ GE198.out) | exact HB.out))) : w.heap.size ≤ gb208)); have n4_ := Aside0.mk ((by rw [hg]; exact (below_size (by repeat (first | (with_reducible first | exact HB.out | apply below_alloc | apply pw_below_drewN | apply below_drew1 | refine below_set ?_ GE198.out) | exact HB.out))) : w.heap.size ≤ gb208)); have n5_ := Aside0.mk ((by rw [hg]; exact Nat.ne_of_lt (blk_lt (g := gb198) (o := .cells #[.int .u64 a0_0, .int .u64 a0_1, .int .u64 a0_2, .bool a0_3, .int .u64 a0_4, .int .u64 a0_5, .int .u64 a0_6, .int .u64 a0_7] 26 (0, 0)) (by (with_reducible repeat (first | refine blk_drewN ?_ _ | refine blk_drew ?_ | refine blk_alloc ?_ _)); exact BK198.out)) : gb198 ≠ gb208)); have n6_ := Aside0.mk ((by rw [hg]; exact Nat.ne_of_gt (blk_lt (g := gb198) (o := .cells #[.int .u64 a0_0, .int .u64 a0_1, .int .u64 a0_2, .bool a0_3, .int .u64 a0_4, .int .u64 a0_5, .int .u64 a0_6, .int .u64 a0_7] 26 (0, 0)) (by (with_reducible repeat (first | refine blk_drewN ?_ _ | refine blk_drew ?_ | refine blk_alloc ?_ _)); exact BK198.out)) : gb208 ≠ gb198)); clear BK198; clear HB; have BK198 := n0_; have HB := n1_; have BK208 := n2_; have GW208 := n3_; have GE208 := n4_; have NB198_208 := n5_; have NB208_198 := n6_; clear n0_ n1_ n2_ n3_ n4_ n5_ n6_; clear hb hbox hg; have hnb35 := NB208_198.out; have hnc35 := NB198_208.out; have hcz36_0 : w34.cell? ⟨gb208, 0, none⟩ = some (.int .u64 0) := (blk_cell BK208.out 0).trans rfl; have hcz36_1 : w34.cell? ⟨gb208, 1, none⟩ = some (.int .u64 0) := (blk_cell BK208.out 1).trans rfl; have hcz36_2 : w34.cell? ⟨gb208, 2, none⟩ = some (.int .u64 0) := (blk_cell BK208.out 2).trans rfl; have hcz36_3 : w34.cell? ⟨gb208, 3, none⟩ = some (.bool false) := (blk_cell BK208.out 3).trans rfl; have hcz36_4 : w34.cell? ⟨gb208, 4, none⟩ = some (.int .u64 0) := (blk_cell BK208.out 4).trans rfl; have hcz36_5 : w34.cell? ⟨gb208, 5, none⟩ = some (.int .u64 0) := (blk_cell BK208.out 5).trans rfl; have hcz36_6 : w34.cell? ⟨gb208, 6, none⟩ = some (.int .u64 0) := (blk_cell BK208.out 6).trans rfl; have hcz36_7 : w34.cell? ⟨gb208, 7, none⟩ = some (.int .u64 0) := (blk_cell BK208.out 7).trans rfl; have hfz36_0 := blk_frozen BK208.out 0; have hfz36_1 := blk_frozen BK208.out 1; have hfz36_2 := blk_frozen BK208.out 2; have hfz36_3 := blk_frozen BK208.out 3; have hfz36_4 := blk_frozen BK208.out 4; have hfz36_5 := blk_frozen BK208.out 5; have hfz36_6 := blk_frozen BK208.out 6; have hfz36_7 := blk_frozen BK208.out 7; have hcz37_0 : w34.cell? ⟨gb198, 0, none⟩ = some (.int .u64 a0_0) := (blk_cell BK198.out 0).trans rfl; have hcz37_1 : w34.cell? ⟨gb198, 1, none⟩ = some (.int .u64 a0_1) := (blk_cell BK198.out 1).trans rfl; have hcz37_2 : w34.cell? ⟨gb198, 2, none⟩ = some (.int .u64 a0_2) := (blk_cell BK198.out 2).trans rfl; have hcz37_3 : w34.cell? ⟨gb198, 3, none⟩ = some (.bool a0_3) := (blk_cell BK198.out 3).trans rfl; have hcz37_4 : w34.cell? ⟨gb198, 4, none⟩ = some (.int .u64 a0_4) := (blk_cell BK198.out 4).trans rfl; have hcz37_5 : w34.cell? ⟨gb198, 5, none⟩ = some (.int .u64 a0_5) := (blk_cell BK198.out 5).trans rfl; have hcz37_6 : w34.cell? ⟨gb198, 6, none⟩ = some (.int .u64 a0_6) := (blk_cell BK198.out 6).trans rfl; have hcz37_7 : w34.cell? ⟨gb198, 7, none⟩ = some (.int .u64 a0_7) := (blk_cell BK198.out 7).trans rfl; have hfz37_0 := blk_frozen BK198.out 0; have hfz37_1 := blk_frozen BK198.out 1; have hfz37_2 := blk_frozen BK198.out 2; have hfz37_3 := blk_frozen BK198.out 3; have hfz37_4 := blk_frozen BK198.out 4; have hfz37_5 := blk_frozen BK198.out 5; have hfz37_6 := blk_frozen BK198.out 6; have hfz37_7 := blk_frozen BK198.out 7) | ((with_reducible refine gate_callee (f := 10) rfl ?_); refine goesL_ (some 46) rfl rfl Try.func10 (by kernel_rfl) rfl #[.agg #[.int .u64 t200, .int .u64 t201, .int .u64 t202, .bool false, .int .u64 t204, .int .u64 t205, .int .u64 t206, .int .u64 t207], .int .u64 (IntKind.u64.wrap ((IntKind.u64.wrap (a2)) + 1)), .int .u64 (IntKind.u64.wrap ((IntKind.u64.wrap (a2)) + 2))] rfl (by (try simp only [List.map_toArray, List.map_cons, List.map_nil]); first | done | rfl | (simp only [List.length_drop, List.length_take]; rfl)) ?_; (with_reducible refine (cubic_Loss.calls t200 t201 t202 false t204 t205 t206 t207 (IntKind.u64.wrap ((IntKind.u64.wrap (a2)) + 1)) (IntKind.u64.wrap ((IntKind.u64.wrap (a2)) + 2)) t209 t210 t211 t212 t213 t214 t215 t216 _ A19.out).mono ?_); rintro e w38 ⟨rfl, hb⟩; refine ⟨_, rfl, ?_⟩; have n0_ := Aside0.mk (blk_below (g := gb198) (o := .cells #[.int .u64 a0_0, .int .u64 a0_1, .int .u64 a0_2, .bool a0_3, .int .u64 a0_4, .int .u64 a0_5, .int .u64 a0_6, .int .u64 a0_7] 26 (0, 0)) (by (with_reducible repeat (first | refine blk_drewN ?_ _ | refine blk_drew ?_ | refine blk_alloc ?_ _)); refine blk_far ?_ NB198_208.out _; (with_reducible repeat (first | refine blk_drewN ?_ _ | refine blk_drew ?_ | refine blk_alloc ?_ _)); refine blk_far ?_ NB198_208.out _; (with_reducible repeat (first | refine blk_drewN ?_ _ | refine blk_drew ?_ | refine blk_alloc ?_ _)); refine blk_far ?_ NB198_208.out _; (with_reducible repeat (first | refine blk_drewN ?_ _ | refine blk_drew ?_ | refine blk_alloc ?_ _)); refine blk_far ?_ NB198_208.out _; (with_reducible repeat (first | refine blk_drewN ?_ _ | refine blk_drew ?_ | refine blk_alloc ?_ _)); refine blk_far ?_ NB198_208.out _; (with_reducible repeat (first | refine blk_drewN ?_ _ | refine blk_drew ?_ | refine blk_alloc ?_ _)); refine blk_far ?_ NB198_208.out _; (with_reducible repeat (first | refine blk_drewN ?_ _ | refine blk_drew ?_ | refine blk_alloc ?_ _)); refine blk_far ?_ NB198_208.out _; (with_reducible repeat (first | refine blk_drewN ?_ _ | refine blk_drew ?_ | refine blk_alloc ?_ _)); refine blk_far ?_ NB198_208.out _; (with_reducible repeat (first | refine blk_drewN ?_ _ | refine blk_drew ?_ | refine blk_alloc ?_ _)); exact BK198.out) hb); have n1_ := Aside0.mk (blk_below (g := gb208) (o := .cells #[.int .u64 t200, .int .u64 t201, .int .u64 t202, .bool false, .int .u64 t204, .int .u64 t205, .int .u64 t206, .int .u64 t207] 26 (0, 0)) (by (with_reducible repeat (first | refine blk_drewN ?_ _ | refine blk_drew ?_ | refine blk_alloc ?_ _)); refine blk_put (cs := #[.int .u64 t200, .int .u64 t201, .int .u64 t202, .bool false, .int .u64 t204, .int .u64 t205, .int .u64 t206, .int .u64 0]) ?_ 7 _ rfl; (with_reducible repeat (first | refine blk_drewN ?_ _ | refine blk_drew ?_ | refine blk_alloc ?_ _)); refine blk_put (cs := #[.int .u64 t200, .int .u64 t201, .int .u64 t202, .bool false, .int .u64 t204, .int .u64 t205, .int .u64 0, .int .u64 0]) ?_ 6 _ rfl; (with_reducible repeat (first | refine blk_drewN ?_ _ | refine blk_drew ?_ | refine blk_alloc ?_ _)); refine blk_put (cs := #[.int .u64 t200, .int .u64 t201, .int .u64 t202, .bool false, .int .u64 t204, .int .u64 0, .int .u64 0, .int .u64 0]) ?_ 5 _ rfl; (with_reducible repeat (first | refine blk_drewN ?_ _ | refine blk_drew ?_ | refine blk_alloc ?_ _)); refine blk_put (cs := #[.int .u64 t200, .int .u64 t201, .int .u64 t202, .bool false, .int .u64 0, .int .u64 0, .int .u64 0, .int .u64 0]) ?_ 4 _ rfl; (with_reducible repeat (first | refine blk_drewN ?_ _ | refine blk_drew ?_ | refine blk_alloc ?_ _)); refine blk_put (cs := #[.int .u64 t200, .int .u64 t201, .int .u64 t202, .bool false, .int .u64 0, .int .u64 0, .int .u64 0, .int .u64 0]) ?_ 3 _ rfl; (with_reducible repeat (first | refine blk_drewN ?_ _ | refine blk_drew ?_ | refine blk_alloc ?_ _)); refine blk_put (cs := #[.int .u64 t200, .int .u64 t201, .int .u64 0, .bool false, .int .u64 0, .int .u64 0, .int .u64 0, .int .u64 0]) ?_ 2 _ rfl; (with_reducible repeat (first | refine blk_drewN ?_ _ | refine blk_drew ?_ | refine blk_alloc ?_ _)); refine blk_put (cs := #[.int .u64 t200, .int .u64 0, .int .u64 0, .bool false, .int .u64 0, .int .u64 0, .int .u64 0, .int .u64 0]) ?_ 1 _ rfl; (with_reducible repeat (first | refine blk_drewN ?_ _ | refine blk_drew ?_ | refine blk_alloc ?_ _)); refine blk_put (cs := #[.int .u64 0, .int .u64 0, .int .u64 0, .bool false, .int .u64 0, .int .u64 0, .int .u64 0, .int .u64 0]) ?_ 0 _ rfl; (with_reducible repeat (first | refine blk_drewN ?_ _ | refine blk_drew ?_ | refine blk_alloc ?_ _)); exact BK208.out) hb); have n2_ := Aside0.mk (below_step (by repeat (first | (with_reducible first | exact HB.out | apply below_alloc | apply pw_below_drewN | apply below_drew1 | refine below_set ?_ GE198.out | refine below_set ?_ GE208.out) | exact HB.out)) hb); clear BK198; clear BK208; clear HB; have BK198 := n0_; have BK208 := n1_; have HB := n2_; clear n0_ n1_ n2_; (try clear hb); (try clear hb2); (try clear hk); (try clear hi)) | ((with_reducible refine gate_dst (N := 14) rfl ?_); refine box_event ?hg (N := 14) ?hd (cs := #[.int .u64 0, .int .u64 0, .int .u64 0, .bool false, .int .u64 0, .int .u64 0, .int .u64 0, .int .u64 0]) (t := 26) ?hr ?_; (case hd => rfl); (case hg => rfl); (case hr => first | (go_simp; done) | (go_simp; rfl)); intro gb217 hg w39 hbox hb; have n0_ := Aside0.mk (blk_below (g := gb198) (o := .cells #[.int .u64 a0_0, .int .u64 a0_1, .int .u64 a0_2, .bool a0_3, .int .u64 a0_4, .int .u64 a0_5, .int .u64 a0_6, .int .u64 a0_7] 26 (0, 0)) (by (with_reducible repeat (first | refine blk_drewN ?_ _ | refine blk_drew ?_ | refine blk_alloc ?_ _)); exact BK198.out) hb); have n1_ := Aside0.mk (blk_below (g := gb208) (o := .cells #[.int .u64 t200, .int .u64 t201, .int .u64 t202, .bool false, .int .u64 t204, .int .u64 t205, .int .u64 t206, .int .u64 t207] 26 (0, 0)) (by (with_reducible repeat (first | refine blk_drewN ?_ _ | refine blk_drew ?_ | refine blk_alloc ?_ _)); exact BK208.out) hb); have n2_ := Aside0.mk (below_step (by repeat (first | (with_reducible first | exact HB.out | apply below_alloc | apply pw_below_drewN | apply below_drew1 | refine below_set ?_ GE198.out | refine below_set ?_ GE208.out) | exact HB.out)) hb); have n3_ := Aside0.mk (hbox); have n4_ := Aside0.mk ((by rw [hg]; exact (below_size (by repeat (first | (with_reducible first | exact HB.out | apply below_alloc | apply pw_below_drewN | apply below_drew1 | refine below_set ?_ GE198.out | refine below_set ?_ GE208.out) | exact HB.out))) : w.heap.size ≤ gb217)); have n5_ := Aside0.mk ((by rw [hg]; exact (below_size (by repeat (first | (with_reducible first | exact HB.out | apply below_alloc | apply pw_below_drewN | apply below_drew1 | refine below_set ?_ GE198.out | refine below_set ?_ GE208.out) | exact HB.out))) : w.heap.size ≤ gb217)); have n6_ := Aside0.mk ((by rw [hg]; exact Nat.ne_of_lt (blk_lt (g := gb198) (o := .cells #[.int .u64 a0_0, .int .u64 a0_1, .int .u64 a0_2, .bool a0_3, .int .u64 a0_4, .int .u64 a0_5, .int .u64 a0_6, .int .u64 a0_7] 26 (0, 0)) (by (with_reducible repeat (first | refine blk_drewN ?_ _ | refine blk_drew ?_ | refine blk_alloc ?_ _)); exact BK198.out)) : gb198 ≠ gb217)); have n7_ := Aside0.mk ((by rw [hg]; exact Nat.ne_of_gt (blk_lt (g := gb198) (o := .cells #[.int .u64 a0_0, .int .u64 a0_1, .int .u64 a0_2, .bool a0_3, .int .u64 a0_4, .int .u64 a0_5, .int .u64 a0_6, .int .u64 a0_7] 26 (0, 0)) (by (with_reducible repeat (first | refine blk_drewN ?_ _ | refine blk_drew ?_ | refine blk_alloc ?_ _)); exact BK198.out)) : gb217 ≠ gb198)); have n8_ := Aside0.mk ((by rw [hg]; exact Nat.ne_of_lt (blk_lt (g := gb208) (o := .cells #[.int .u64 t200, .int .u64 t201, .int .u64 t202, .bool false, .int .u64 t204, .int .u64 t205, .int .u64 t206, .int .u64 t207] 26 (0, 0)) (by (with_reducible repeat (first | refine blk_drewN ?_ _ | refine blk_drew ?_ | refine blk_alloc ?_ _)); exact BK208.out)) : gb208 ≠ gb217)); have n9_ := Aside0.mk ((by rw [hg]; exact Nat.ne_of_gt (blk_lt (g := gb208) (o := .cells #[.int .u64 t200, .int .u64 t201, .int .u64 t202, .bool false, .int .u64 t204, .int .u64 t205, .int .u64 t206, .int .u64 t207] 26 (0, 0)) (by (with_reducible repeat (first | refine blk_drewN ?_ _ | refine blk_drew ?_ | refine blk_alloc ?_ _)); exact BK208.out)) : gb217 ≠ gb208)); clear BK198; clear BK208; clear HB; have BK198 := n0_; have BK208 := n1_; have HB := n2_; have BK217 := n3_; have GW217 := n4_; have GE217 := n5_; have NB198_217 := n6_; have NB217_198 := n7_; have NB208_217 := n8_; have NB217_208 := n9_; clear n0_ n1_ n2_ n3_ n4_ n5_ n6_ n7_ n8_ n9_; clear hb hbox hg; have hnb40 := NB217_198.out; have hnc40 := NB198_217.out; have hnb41 := NB217_208.out; have hnc41 := NB208_217.out; have hcz42_0 : w39.cell? ⟨gb217, 0, none⟩ = some (.int .u64 0) := (blk_cell BK217.out 0).trans rfl; have hcz42_1 : w39.cell? ⟨gb217, 1, none⟩ = some (.int .u64 0) := (blk_cell BK217.out 1).trans rfl; have hcz42_2 : w39.cell? ⟨gb217, 2, none⟩ = some (.int .u64 0) := (blk_cell BK217.out 2).trans rfl; have hcz42_3 : w39.cell? ⟨gb217, 3, none⟩ = some (.bool false) := (blk_cell BK217.out 3).trans rfl; have hcz42_4 : w39.cell? ⟨gb217, 4, none⟩ = some (.int .u64 0) := (blk_cell BK217.out 4).trans rfl; have hcz42_5 : w39.cell? ⟨gb217, 5, none⟩ = some (.int .u64 0) := (blk_cell BK217.out 5).trans rfl; have hcz42_6 : w39.cell? ⟨gb217, 6, none⟩ = some (.int .u64 0) := (blk_cell BK217.out 6).trans rfl; have hcz42_7 : w39.cell? ⟨gb217, 7, none⟩ = some (.int .u64 0) := (blk_cell BK217.out 7).trans rfl; have hfz42_0 := blk_frozen BK217.out 0; have hfz42_1 := blk_frozen BK217.out 1; have hfz42_2 := blk_frozen BK217.out 2; have hfz42_3 := blk_frozen BK217.out 3; have hfz42_4 := blk_frozen BK217.out 4; have hfz42_5 := blk_frozen BK217.out 5; have hfz42_6 := blk_frozen BK217.out 6; have hfz42_7 := blk_frozen BK217.out 7))
                  generalize hW_ : ((((((((w39.setCell ⟨gb217, 0, none⟩ (.int .u64 t209)).setCell ⟨gb217, 1, none⟩ (.int .u64 t210)).setCell ⟨gb217, 2, none⟩ (.int .u64 t211)).setCell ⟨gb217, 3, none⟩ (.bool t212)).setCell ⟨gb217, 4, none⟩ (.int .u64 t213)).setCell ⟨gb217, 5, none⟩ (.int .u64 t214)).setCell ⟨gb217, 6, none⟩ (.int .u64 t215)).setCell ⟨gb217, 7, none⟩ (.int .u64 t216)) = w43
                  have n0_ : Aside0 (w43.heap[gb198]? = some (.cells #[.int .u64 a0_0, .int .u64 a0_1, .int .u64 a0_2, .bool a0_3, .int .u64 a0_4, .int .u64 a0_5, .int .u64 a0_6, .int .u64 a0_7] 26 (0, 0))) := ⟨by rw [← hW_]; exact (by (with_reducible repeat (first | refine blk_drewN ?_ _ | refine blk_drew ?_ | refine blk_alloc ?_ _)); refine blk_far ?_ NB198_217.out _; (with_reducible repeat (first | refine blk_drewN ?_ _ | refine blk_drew ?_ | refine blk_alloc ?_ _)); refine blk_far ?_ NB198_217.out _; (with_reducible repeat (first | refine blk_drewN ?_ _ | refine blk_drew ?_ | refine blk_alloc ?_ _)); refine blk_far ?_ NB198_217.out _; (with_reducible repeat (first | refine blk_drewN ?_ _ | refine blk_drew ?_ | refine blk_alloc ?_ _)); refine blk_far ?_ NB198_217.out _; (with_reducible repeat (first | refine blk_drewN ?_ _ | refine blk_drew ?_ | refine blk_alloc ?_ _)); refine blk_far ?_ NB198_217.out _; (with_reducible repeat (first | refine blk_drewN ?_ _ | refine blk_drew ?_ | refine blk_alloc ?_ _)); refine blk_far ?_ NB198_217.out _; (with_reducible repeat (first | refine blk_drewN ?_ _ | refine blk_drew ?_ | refine blk_alloc ?_ _)); refine blk_far ?_ NB198_217.out _; (with_reducible repeat (first | refine blk_drewN ?_ _ | refine blk_drew ?_ | refine blk_alloc ?_ _)); refine blk_far ?_ NB198_217.out _; (with_reducible repeat (first | refine blk_drewN ?_ _ | refine blk_drew ?_ | refine blk_alloc ?_ _)); exact BK198.out)⟩
                  have n1_ : Aside0 (w43.heap[gb208]? = some (.cells #[.int .u64 t200, .int .u64 t201, .int .u64 t202, .bool false, .int .u64 t204, .int .u64 t205, .int .u64 t206, .int .u64 t207] 26 (0, 0))) := ⟨by rw [← hW_]; exact (by (with_reducible repeat (first | refine blk_drewN ?_ _ | refine blk_drew ?_ | refine blk_alloc ?_ _)); refine blk_far ?_ NB208_217.out _; (with_reducible repeat (first | refine blk_drewN ?_ _ | refine blk_drew ?_ | refine blk_alloc ?_ _)); refine blk_far ?_ NB208_217.out _; (with_reducible repeat (first | refine blk_drewN ?_ _ | refine blk_drew ?_ | refine blk_alloc ?_ _)); refine blk_far ?_ NB208_217.out _; (with_reducible repeat (first | refine blk_drewN ?_ _ | refine blk_drew ?_ | refine blk_alloc ?_ _)); refine blk_far ?_ NB208_217.out _; (with_reducible repeat (first | refine blk_drewN ?_ _ | refine blk_drew ?_ | refine blk_alloc ?_ _)); refine blk_far ?_ NB208_217.out _; (with_reducible repeat (first | refine blk_drewN ?_ _ | refine blk_drew ?_ | refine blk_alloc ?_ _)); refine blk_far ?_ NB208_217.out _; (with_reducible repeat (first | refine blk_drewN ?_ _ | refine blk_drew ?_ | refine blk_alloc ?_ _)); refine blk_far ?_ NB208_217.out _; (with_reducible repeat (first | refine blk_drewN ?_ _ | refine blk_drew ?_ | refine blk_alloc ?_ _)); refine blk_far ?_ NB208_217.out _; (with_reducible repeat (first | refine blk_drewN ?_ _ | refine blk_drew ?_ | refine blk_alloc ?_ _)); exact BK208.out)⟩
                  have n2_ : Aside0 (w43.heap[gb217]? = some (.cells #[.int .u64 t209, .int .u64 t210, .int .u64 t211, .bool t212, .int .u64 t213, .int .u64 t214, .int .u64 t215, .int .u64 t216] 26 (0, 0))) := ⟨by rw [← hW_]; exact (by (with_reducible repeat (first | refine blk_drewN ?_ _ | refine blk_drew ?_ | refine blk_alloc ?_ _)); refine blk_put (cs := #[.int .u64 t209, .int .u64 t210, .int .u64 t211, .bool t212, .int .u64 t213, .int .u64 t214, .int .u64 t215, .int .u64 0]) ?_ 7 _ rfl; (with_reducible repeat (first | refine blk_drewN ?_ _ | refine blk_drew ?_ | refine blk_alloc ?_ _)); refine blk_put (cs := #[.int .u64 t209, .int .u64 t210, .int .u64 t211, .bool t212, .int .u64 t213, .int .u64 t214, .int .u64 0, .int .u64 0]) ?_ 6 _ rfl; (with_reducible repeat (first | refine blk_drewN ?_ _ | refine blk_drew ?_ | refine blk_alloc ?_ _)); refine blk_put (cs := #[.int .u64 t209, .int .u64 t210, .int .u64 t211, .bool t212, .int .u64 t213, .int .u64 0, .int .u64 0, .int .u64 0]) ?_ 5 _ rfl; (with_reducible repeat (first | refine blk_drewN ?_ _ | refine blk_drew ?_ | refine blk_alloc ?_ _)); refine blk_put (cs := #[.int .u64 t209, .int .u64 t210, .int .u64 t211, .bool t212, .int .u64 0, .int .u64 0, .int .u64 0, .int .u64 0]) ?_ 4 _ rfl; (with_reducible repeat (first | refine blk_drewN ?_ _ | refine blk_drew ?_ | refine blk_alloc ?_ _)); refine blk_put (cs := #[.int .u64 t209, .int .u64 t210, .int .u64 t211, .bool false, .int .u64 0, .int .u64 0, .int .u64 0, .int .u64 0]) ?_ 3 _ rfl; (with_reducible repeat (first | refine blk_drewN ?_ _ | refine blk_drew ?_ | refine blk_alloc ?_ _)); refine blk_put (cs := #[.int .u64 t209, .int .u64 t210, .int .u64 0, .bool false, .int .u64 0, .int .u64 0, .int .u64 0, .int .u64 0]) ?_ 2 _ rfl; (with_reducible repeat (first | refine blk_drewN ?_ _ | refine blk_drew ?_ | refine blk_alloc ?_ _)); refine blk_put (cs := #[.int .u64 t209, .int .u64 0, .int .u64 0, .bool false, .int .u64 0, .int .u64 0, .int .u64 0, .int .u64 0]) ?_ 1 _ rfl; (with_reducible repeat (first | refine blk_drewN ?_ _ | refine blk_drew ?_ | refine blk_alloc ?_ _)); refine blk_put (cs := #[.int .u64 0, .int .u64 0, .int .u64 0, .bool false, .int .u64 0, .int .u64 0, .int .u64 0, .int .u64 0]) ?_ 0 _ rfl; (with_reducible repeat (first | refine blk_drewN ?_ _ | refine blk_drew ?_ | refine blk_alloc ?_ _)); exact BK217.out)⟩
                  have n3_ : Aside0 (Below w.heap.size w w43) := ⟨by rw [← hW_]; exact (by repeat (first | (with_reducible first | exact HB.out | apply below_alloc | apply pw_below_drewN | apply below_drew1 | refine below_set ?_ GE198.out | refine below_set ?_ GE208.out | refine below_set ?_ GE217.out) | exact HB.out))⟩
                  (try clear BK198)
                  (try clear BK208)
                  (try clear BK217)
                  (try clear HB)
                  clear hW_
                  have BK198 := n0_
                  have BK208 := n1_
                  have BK217 := n2_
                  have HB := n3_
                  clear n0_ n1_ n2_ n3_
                  have n0_ := Aside0.mk (blk_drew BK198.out)
                  have n1_ := Aside0.mk (blk_drew BK208.out)
                  have n2_ := Aside0.mk (blk_drew BK217.out)
                  have n3_ := Aside0.mk (below_drew1 HB.out)
                  clear BK198
                  clear BK208
                  clear BK217
                  clear HB
                  have BK198 := n0_
                  have BK208 := n1_
                  have BK217 := n2_
                  have HB := n3_
                  clear n0_ n1_ n2_ n3_
                  refine start_ (n := 30) (S := fun w' => w'.cell? ⟨gb208, 0, none⟩ = some (.int .u64 t200) ∧ w'.cell? ⟨gb208, 1, none⟩ = some (.int .u64 t201) ∧ w'.cell? ⟨gb208, 2, none⟩ = some (.int .u64 t202) ∧ w'.cell? ⟨gb208, 3, none⟩ = some (.bool false) ∧ w'.cell? ⟨gb208, 4, none⟩ = some (.int .u64 t204) ∧ w'.cell? ⟨gb208, 5, none⟩ = some (.int .u64 t205) ∧ w'.cell? ⟨gb208, 6, none⟩ = some (.int .u64 t206) ∧ w'.cell? ⟨gb208, 7, none⟩ = some (.int .u64 t207) ∧ w'.cell? ⟨gb198, 0, none⟩ = some (.int .u64 a0_0) ∧ w'.cell? ⟨gb198, 1, none⟩ = some (.int .u64 a0_1) ∧ w'.cell? ⟨gb198, 2, none⟩ = some (.int .u64 a0_2) ∧ w'.cell? ⟨gb198, 3, none⟩ = some (.bool a0_3) ∧ w'.cell? ⟨gb198, 4, none⟩ = some (.int .u64 a0_4) ∧ w'.cell? ⟨gb198, 5, none⟩ = some (.int .u64 a0_5) ∧ w'.cell? ⟨gb198, 6, none⟩ = some (.int .u64 a0_6) ∧ w'.cell? ⟨gb198, 7, none⟩ = some (.int .u64 a0_7)) (ds := []) #[false, false, false, false, false, false, false, false, false, false, false, false, false, false, false, false, false, false, false, false, false, false, false, false, false, false, false, false, false, false] (by kernel_rfl) rfl rfl ⟨(blk_cell BK208.out 0).trans rfl, (blk_cell BK208.out 1).trans rfl, (blk_cell BK208.out 2).trans rfl, (blk_cell BK208.out 3).trans rfl, (blk_cell BK208.out 4).trans rfl, (blk_cell BK208.out 5).trans rfl, (blk_cell BK208.out 6).trans rfl, (blk_cell BK208.out 7).trans rfl, (blk_cell BK198.out 0).trans rfl, (blk_cell BK198.out 1).trans rfl, (blk_cell BK198.out 2).trans rfl, (blk_cell BK198.out 3).trans rfl, (blk_cell BK198.out 4).trans rfl, (blk_cell BK198.out 5).trans rfl, (blk_cell BK198.out 6).trans rfl, (blk_cell BK198.out 7).trans rfl⟩ (fun hHeld => ?_); refine with_tabW wigwaglaw12_CubicOnce.tab7 wigwaglaw12_CubicOnce.bits7 (fun HT_ HW_ => ?_)
                  generalize w43.drew = w44 at BK198 BK208 BK217 HB hHeld ⊢
                  refine pure_ (i := 1) (N := some 48) (v := ?_) (a' := ?_) #[false, true, false, false, false, false, false, false, false, false, false, false, false, false, false, false, false, false, false, false, false, false, false, false, false, false, false, false, false, false] rfl rfl (any_of HT_.out (by kernel_rfl)) (fun _ _ _ h => h) (Or.inl ⟨by rfl, ?_⟩) ?_ ?_
                  rotate_left
                  · intro w'
                    go_simp
                    with_reducible rfl
                  rotate_left
                  · simp only [Act.put, List.setIfInBounds_toArray, List.set_cons_zero, List.set_cons_succ, i64_w, i32_w]
                    rfl
                  refine pure_ (i := 2) (N := some 49) (v := ?_) (a' := ?_) #[false, true, true, false, false, false, false, false, false, false, false, false, false, false, false, false, false, false, false, false, false, false, false, false, false, false, false, false, false, false] rfl rfl (any_of HT_.out (by kernel_rfl)) (fun _ _ _ h => h) (Or.inl ⟨by rfl, ?_⟩) ?_ ?_
                  rotate_left
                  · intro w'
                    go_simp
                    with_reducible rfl
                  rotate_left
                  · simp only [Act.put, List.setIfInBounds_toArray, List.set_cons_zero, List.set_cons_succ, i64_w, i32_w]
                    rfl
                  refine pure_ (i := 3) (N := some 50) (v := ?_) (a' := ?_) #[false, true, true, true, false, false, false, false, false, false, false, false, false, false, false, false, false, false, false, false, false, false, false, false, false, false, false, false, false, false] rfl rfl (any_of HT_.out (by kernel_rfl)) (fun _ _ _ h => h) (Or.inl ⟨by rfl, ?_⟩) ?_ ?_
                  rotate_left
                  · intro w'
                    go_simp
                    with_reducible rfl
                  rotate_left
                  · simp only [Act.put, List.setIfInBounds_toArray, List.set_cons_zero, List.set_cons_succ, i64_w, i32_w]
                    rfl
                  refine pure_ (i := 4) (N := some 51) (v := ?_) (a' := ?_) #[false, true, true, true, true, false, false, false, false, false, false, false, false, false, false, false, false, false, false, false, false, false, false, false, false, false, false, false, false, false] rfl rfl (any_of HT_.out (by kernel_rfl)) (fun _ _ _ h => h) (Or.inl ⟨by rfl, ?_⟩) ?_ ?_
                  rotate_left
                  · intro w'
                    go_simp
                    with_reducible rfl
                  rotate_left
                  · simp only [Act.put, List.setIfInBounds_toArray, List.set_cons_zero, List.set_cons_succ, i64_w, i32_w]
                    rfl
                  refine take_ (i := 0) (N := some 47) (v := ?_) (a' := ?_) #[true, true, true, true, true, false, false, false, false, false, false, false, false, false, false, false, false, false, false, false, false, false, false, false, false, false, false, false, false, false] rfl rfl (take_ofW HT_.out HW_.out (by kernel_rfl)) (fun _ _ _ h => h) (Or.inl ⟨by rfl, ?_⟩) hHeld ?_ ?_
                  rotate_left
                  · rintro w' ⟨s0, s1, s2, s3, s4, s5, s6, s7, s8, s9, s10, s11, s12, s13, s14, s15⟩
                    go_simp
                    with_reducible rfl
                  rotate_left
                  · simp only [Act.put, List.setIfInBounds_toArray, List.set_cons_zero, List.set_cons_succ, i64_w, i32_w]
                    rfl
                  refine take_ (i := 6) (N := some 53) (v := ?_) (a' := ?_) #[true, true, true, true, true, false, true, false, false, false, false, false, false, false, false, false, false, false, false, false, false, false, false, false, false, false, false, false, false, false] rfl rfl (take_ofW HT_.out HW_.out (by kernel_rfl)) (fun _ _ _ h => h) (Or.inl ⟨by rfl, ?_⟩) hHeld ?_ ?_
                  rotate_left
                  · rintro w' ⟨s0, s1, s2, s3, s4, s5, s6, s7, s8, s9, s10, s11, s12, s13, s14, s15⟩
                    go_simp
                    with_reducible rfl
                  rotate_left
                  · simp only [Act.put, List.setIfInBounds_toArray, List.set_cons_zero, List.set_cons_succ, i64_w, i32_w]
                    rfl
                  refine one_ (i := 5) (N := some 52) #[true, true, true, true, true, true, true, false, false, false, false, false, false, false, false, false, false, false, false, false, false, false, false, false, false, false, false, false, false, false] rfl rfl (one_of HT_.out (by kernel_rfl)) (by decide) (fun K hK => ?_)
                  refine goes_ Try.func10 (by kernel_rfl) rfl #[.agg #[.int .u64 t200, .int .u64 t201, .int .u64 t202, .bool false, .int .u64 t204, .int .u64 t205, .int .u64 t206, .int .u64 t207], .int .u64 ji18, .int .u64 (IntKind.u64.wrap ((IntKind.u64.wrap (a2)) + 5))] (by rfl) rfl rfl (by (try simp only [List.map_toArray, List.map_cons, List.map_nil]); first | done | (simp only [hji18]; rfl) | rfl | (simp only [List.length_drop, List.length_take]; rfl)) ?_
                  with_reducible refine (cubic_Loss.calls t200 t201 t202 false t204 t205 t206 t207 ji18 (IntKind.u64.wrap ((IntKind.u64.wrap (a2)) + 5)) t218 t219 t220 t221 t222 t223 t224 t225 _ A20.out).mono ?_
                  rintro e w45 ⟨rfl, hb⟩
                  refine ⟨_, rfl, ?_⟩
                  have n0_ := Aside0.mk (blk_below (g := gb198) (o := .cells #[.int .u64 a0_0, .int .u64 a0_1, .int .u64 a0_2, .bool a0_3, .int .u64 a0_4, .int .u64 a0_5, .int .u64 a0_6, .int .u64 a0_7] 26 (0, 0)) (by (with_reducible repeat (first | refine blk_drewN ?_ _ | refine blk_drew ?_ | refine blk_alloc ?_ _)); exact BK198.out) hb)
                  have n1_ := Aside0.mk (blk_below (g := gb208) (o := .cells #[.int .u64 t200, .int .u64 t201, .int .u64 t202, .bool false, .int .u64 t204, .int .u64 t205, .int .u64 t206, .int .u64 t207] 26 (0, 0)) (by (with_reducible repeat (first | refine blk_drewN ?_ _ | refine blk_drew ?_ | refine blk_alloc ?_ _)); exact BK208.out) hb)
                  have n2_ := Aside0.mk (blk_below (g := gb217) (o := .cells #[.int .u64 t209, .int .u64 t210, .int .u64 t211, .bool t212, .int .u64 t213, .int .u64 t214, .int .u64 t215, .int .u64 t216] 26 (0, 0)) (by (with_reducible repeat (first | refine blk_drewN ?_ _ | refine blk_drew ?_ | refine blk_alloc ?_ _)); exact BK217.out) hb)
                  have n3_ := Aside0.mk (below_step (by repeat (first | (with_reducible first | exact HB.out | apply below_alloc | apply pw_below_drewN | apply below_drew1 | refine below_set ?_ GE198.out | refine below_set ?_ GE208.out | refine below_set ?_ GE217.out) | exact HB.out)) hb)
                  clear BK198
                  clear BK208
                  clear BK217
                  clear HB
                  have BK198 := n0_
                  have BK208 := n1_
                  have BK217 := n2_
                  have HB := n3_
                  clear n0_ n1_ n2_ n3_
                  (try clear hb)
                  (try clear hb2)
                  (try clear hk)
                  (try clear hi)
                  refine hK.out _ _ ⟨(blk_cell BK208.out 0).trans rfl, (blk_cell BK208.out 1).trans rfl, (blk_cell BK208.out 2).trans rfl, (blk_cell BK208.out 3).trans rfl, (blk_cell BK208.out 4).trans rfl, (blk_cell BK208.out 5).trans rfl, (blk_cell BK208.out 6).trans rfl, (blk_cell BK208.out 7).trans rfl, (blk_cell BK198.out 0).trans rfl, (blk_cell BK198.out 1).trans rfl, (blk_cell BK198.out 2).trans rfl, (blk_cell BK198.out 3).trans rfl, (blk_cell BK198.out 4).trans rfl, (blk_cell BK198.out 5).trans rfl, (blk_cell BK198.out 6).trans rfl, (blk_cell BK198.out 7).trans rfl⟩ (fun hHeld => ?_)
                  clear hK K
                  refine norm_ (a' := ?_) ?_ ?_
                  rotate_left
                  · show Act.put _ (some 52) _ = _
                    simp only [Act.put, List.setIfInBounds_toArray, List.set_cons_zero, List.set_cons_succ, i64_w, i32_w]
                    rfl
                  refine pure_ (i := 7) (N := some 54) (v := ?_) (a' := ?_) #[true, true, true, true, true, true, true, true, false, false, false, false, false, false, false, false, false, false, false, false, false, false, false, false, false, false, false, false, false, false] rfl rfl (any_of HT_.out (by kernel_rfl)) (fun _ _ _ h => h) (Or.inl ⟨by rfl, ?_⟩) ?_ ?_
                  rotate_left
                  · intro w'
                    go_simp
                    with_reducible rfl
                  rotate_left
                  · simp only [Act.put, List.setIfInBounds_toArray, List.set_cons_zero, List.set_cons_succ, i64_w, i32_w]
                    rfl
                  refine pure_ (i := 8) (N := some 55) (v := ?_) (a' := ?_) #[true, true, true, true, true, true, true, true, true, false, false, false, false, false, false, false, false, false, false, false, false, false, false, false, false, false, false, false, false, false] rfl rfl (any_of HT_.out (by kernel_rfl)) (fun _ _ _ h => h) (Or.inl ⟨by rfl, ?_⟩) ?_ ?_
                  rotate_left
                  · intro w'
                    go_simp
                    with_reducible rfl
                  rotate_left
                  · simp only [Act.put, List.setIfInBounds_toArray, List.set_cons_zero, List.set_cons_succ, i64_w, i32_w]
                    rfl
                  refine pure_ (i := 10) (N := some 57) (v := ?_) (a' := ?_) #[true, true, true, true, true, true, true, true, true, false, true, false, false, false, false, false, false, false, false, false, false, false, false, false, false, false, false, false, false, false] rfl rfl (any_of HT_.out (by kernel_rfl)) (fun _ _ _ h => h) (Or.inl ⟨by rfl, ?_⟩) ?_ ?_
                  rotate_left
                  · intro w'
                    go_simp
                    with_reducible rfl
                  rotate_left
                  · simp only [Act.put, List.setIfInBounds_toArray, List.set_cons_zero, List.set_cons_succ, i64_w, i32_w]
                    rfl
                  refine pure_ (i := 11) (N := some 58) (v := ?_) (a' := ?_) #[true, true, true, true, true, true, true, true, true, false, true, true, false, false, false, false, false, false, false, false, false, false, false, false, false, false, false, false, false, false] rfl rfl (any_of HT_.out (by kernel_rfl)) (fun _ _ _ h => h) (Or.inl ⟨by rfl, ?_⟩) ?_ ?_
                  rotate_left
                  · intro w'
                    go_simp
                    with_reducible rfl
                  rotate_left
                  · simp only [Act.put, List.setIfInBounds_toArray, List.set_cons_zero, List.set_cons_succ, i64_w, i32_w]
                    rfl
                  refine pure_ (i := 12) (N := some 59) (v := ?_) (a' := ?_) #[true, true, true, true, true, true, true, true, true, false, true, true, true, false, false, false, false, false, false, false, false, false, false, false, false, false, false, false, false, false] rfl rfl (any_of HT_.out (by kernel_rfl)) (fun _ _ _ h => h) (Or.inl ⟨by rfl, ?_⟩) ?_ ?_
                  rotate_left
                  · intro w'
                    go_simp
                    with_reducible rfl
                  rotate_left
                  · simp only [Act.put, List.setIfInBounds_toArray, List.set_cons_zero, List.set_cons_succ, i64_w, i32_w]
                    rfl
                  refine pure_ (i := 13) (N := some 60) (v := ?_) (a' := ?_) #[true, true, true, true, true, true, true, true, true, false, true, true, true, true, false, false, false, false, false, false, false, false, false, false, false, false, false, false, false, false] rfl rfl (any_of HT_.out (by kernel_rfl)) (fun _ _ _ h => h) (Or.inl ⟨by rfl, ?_⟩) ?_ ?_
                  rotate_left
                  · intro w'
                    go_simp
                    with_reducible rfl
                  rotate_left
                  · simp only [Act.put, List.setIfInBounds_toArray, List.set_cons_zero, List.set_cons_succ, i64_w, i32_w]
                    rfl
                  refine take_ (i := 9) (N := some 56) (v := ?_) (a' := ?_) #[true, true, true, true, true, true, true, true, true, true, true, true, true, true, false, false, false, false, false, false, false, false, false, false, false, false, false, false, false, false] rfl rfl (take_ofW HT_.out HW_.out (by kernel_rfl)) (fun _ _ _ h => h) (Or.inl ⟨by rfl, ?_⟩) hHeld ?_ ?_
                  rotate_left
                  · rintro w' ⟨s0, s1, s2, s3, s4, s5, s6, s7, s8, s9, s10, s11, s12, s13, s14, s15⟩
                    go_simp
                    with_reducible rfl
                  rotate_left
                  · simp only [Act.put, List.setIfInBounds_toArray, List.set_cons_zero, List.set_cons_succ, i64_w, i32_w]
                    rfl
                  refine take_ (i := 15) (N := some 62) (v := ?_) (a' := ?_) #[true, true, true, true, true, true, true, true, true, true, true, true, true, true, false, true, false, false, false, false, false, false, false, false, false, false, false, false, false, false] rfl rfl (take_ofW HT_.out HW_.out (by kernel_rfl)) (fun _ _ _ h => h) (Or.inl ⟨by rfl, ?_⟩) hHeld ?_ ?_
                  rotate_left
                  · rintro w' ⟨s0, s1, s2, s3, s4, s5, s6, s7, s8, s9, s10, s11, s12, s13, s14, s15⟩
                    go_simp
                    with_reducible rfl
                  rotate_left
                  · simp only [Act.put, List.setIfInBounds_toArray, List.set_cons_zero, List.set_cons_succ, i64_w, i32_w]
                    rfl
                  refine one_ (i := 14) (N := some 61) #[true, true, true, true, true, true, true, true, true, true, true, true, true, true, true, true, false, false, false, false, false, false, false, false, false, false, false, false, false, false] rfl rfl (one_of HT_.out (by kernel_rfl)) (by decide) (fun K hK => ?_)
                  refine goes_ Try.func9 (by kernel_rfl) rfl #[.agg #[.int .u64 t200, .int .u64 t201, .int .u64 t202, .bool false, .int .u64 t204, .int .u64 t205, .int .u64 t206, .int .u64 t207], .int .u64 a4, .int .u64 ji18, .int .u64 (IntKind.u64.wrap (a2)), .int .u64 5, .bool false] (by rfl) rfl rfl (by (try simp only [List.map_toArray, List.map_cons, List.map_nil]); first | done | (simp only [hji18]; rfl) | rfl | (simp only [List.length_drop, List.length_take]; rfl)) ?_
                  with_reducible refine (cubic_Ack.calls t200 t201 t202 false t204 t205 t206 t207 a4 ji18 (IntKind.u64.wrap (a2)) 5 false t226 t227 t228 t229 t230 t231 t232 t233 _ A22.out).mono ?_
                  rintro e w46 ⟨rfl, hb⟩
                  refine ⟨_, rfl, ?_⟩
                  have n0_ := Aside0.mk (blk_below (g := gb198) (o := .cells #[.int .u64 a0_0, .int .u64 a0_1, .int .u64 a0_2, .bool a0_3, .int .u64 a0_4, .int .u64 a0_5, .int .u64 a0_6, .int .u64 a0_7] 26 (0, 0)) (by (with_reducible repeat (first | refine blk_drewN ?_ _ | refine blk_drew ?_ | refine blk_alloc ?_ _)); exact BK198.out) hb)
                  have n1_ := Aside0.mk (blk_below (g := gb208) (o := .cells #[.int .u64 t200, .int .u64 t201, .int .u64 t202, .bool false, .int .u64 t204, .int .u64 t205, .int .u64 t206, .int .u64 t207] 26 (0, 0)) (by (with_reducible repeat (first | refine blk_drewN ?_ _ | refine blk_drew ?_ | refine blk_alloc ?_ _)); exact BK208.out) hb)
                  have n2_ := Aside0.mk (blk_below (g := gb217) (o := .cells #[.int .u64 t209, .int .u64 t210, .int .u64 t211, .bool t212, .int .u64 t213, .int .u64 t214, .int .u64 t215, .int .u64 t216] 26 (0, 0)) (by (with_reducible repeat (first | refine blk_drewN ?_ _ | refine blk_drew ?_ | refine blk_alloc ?_ _)); exact BK217.out) hb)
                  have n3_ := Aside0.mk (below_step (by repeat (first | (with_reducible first | exact HB.out | apply below_alloc | apply pw_below_drewN | apply below_drew1 | refine below_set ?_ GE198.out | refine below_set ?_ GE208.out | refine below_set ?_ GE217.out) | exact HB.out)) hb)
                  clear BK198
                  clear BK208
                  clear BK217
                  clear HB
                  have BK198 := n0_
                  have BK208 := n1_
                  have BK217 := n2_
                  have HB := n3_
                  clear n0_ n1_ n2_ n3_
                  (try clear hb)
                  (try clear hb2)
                  (try clear hk)
                  (try clear hi)
                  refine hK.out _ _ ⟨(blk_cell BK208.out 0).trans rfl, (blk_cell BK208.out 1).trans rfl, (blk_cell BK208.out 2).trans rfl, (blk_cell BK208.out 3).trans rfl, (blk_cell BK208.out 4).trans rfl, (blk_cell BK208.out 5).trans rfl, (blk_cell BK208.out 6).trans rfl, (blk_cell BK208.out 7).trans rfl, (blk_cell BK198.out 0).trans rfl, (blk_cell BK198.out 1).trans rfl, (blk_cell BK198.out 2).trans rfl, (blk_cell BK198.out 3).trans rfl, (blk_cell BK198.out 4).trans rfl, (blk_cell BK198.out 5).trans rfl, (blk_cell BK198.out 6).trans rfl, (blk_cell BK198.out 7).trans rfl⟩ (fun hHeld => ?_)
                  clear hK K
                  refine norm_ (a' := ?_) ?_ ?_
                  rotate_left
                  · show Act.put _ (some 61) _ = _
                    simp only [Act.put, List.setIfInBounds_toArray, List.set_cons_zero, List.set_cons_succ, i64_w, i32_w]
                    rfl
                  refine pure_ (i := 16) (N := some 63) (v := ?_) (a' := ?_) #[true, true, true, true, true, true, true, true, true, true, true, true, true, true, true, true, true, false, false, false, false, false, false, false, false, false, false, false, false, false] rfl rfl (any_of HT_.out (by kernel_rfl)) (fun _ _ _ h => h) (Or.inl ⟨by rfl, ?_⟩) ?_ ?_
                  rotate_left
                  · intro w'
                    go_simp
                    with_reducible rfl
                  rotate_left
                  · simp only [Act.put, List.setIfInBounds_toArray, List.set_cons_zero, List.set_cons_succ, i64_w, i32_w]
                    rfl
                  refine pure_ (i := 17) (N := some 64) (v := ?_) (a' := ?_) #[true, true, true, true, true, true, true, true, true, true, true, true, true, true, true, true, true, true, false, false, false, false, false, false, false, false, false, false, false, false] rfl rfl (any_of HT_.out (by kernel_rfl)) (fun _ _ _ h => h) (Or.inl ⟨by rfl, ?_⟩) ?_ ?_
                  rotate_left
                  · intro w'
                    go_simp
                    with_reducible rfl
                  rotate_left
                  · simp only [Act.put, List.setIfInBounds_toArray, List.set_cons_zero, List.set_cons_succ, i64_w, i32_w]
                    rfl
                  refine pure_ (i := 18) (N := some 65) (v := ?_) (a' := ?_) #[true, true, true, true, true, true, true, true, true, true, true, true, true, true, true, true, true, true, true, false, false, false, false, false, false, false, false, false, false, false] rfl rfl (any_of HT_.out (by kernel_rfl)) (fun _ _ _ h => h) (Or.inl ⟨by rfl, ?_⟩) ?_ ?_
                  rotate_left
                  · intro w'
                    go_simp
                    with_reducible rfl
                  rotate_left
                  · simp only [Act.put, List.setIfInBounds_toArray, List.set_cons_zero, List.set_cons_succ, i64_w, i32_w]
                    rfl
                  refine pure_ (i := 20) (N := some 67) (v := ?_) (a' := ?_) #[true, true, true, true, true, true, true, true, true, true, true, true, true, true, true, true, true, true, true, false, true, false, false, false, false, false, false, false, false, false] rfl rfl (any_of HT_.out (by kernel_rfl)) (fun _ _ _ h => h) (Or.inl ⟨by rfl, ?_⟩) ?_ ?_
                  rotate_left
                  · intro w'
                    go_simp
                    with_reducible rfl
                  rotate_left
                  · simp only [Act.put, List.setIfInBounds_toArray, List.set_cons_zero, List.set_cons_succ, i64_w, i32_w]
                    rfl
                  refine pure_ (i := 21) (N := some 68) (v := ?_) (a' := ?_) #[true, true, true, true, true, true, true, true, true, true, true, true, true, true, true, true, true, true, true, false, true, true, false, false, false, false, false, false, false, false] rfl rfl (any_of HT_.out (by kernel_rfl)) (fun _ _ _ h => h) (Or.inl ⟨by rfl, ?_⟩) ?_ ?_
                  rotate_left
                  · intro w'
                    go_simp
                    with_reducible rfl
                  rotate_left
                  · simp only [Act.put, List.setIfInBounds_toArray, List.set_cons_zero, List.set_cons_succ, i64_w, i32_w]
                    rfl
                  refine pure_ (i := 22) (N := some 69) (v := ?_) (a' := ?_) #[true, true, true, true, true, true, true, true, true, true, true, true, true, true, true, true, true, true, true, false, true, true, true, false, false, false, false, false, false, false] rfl rfl (any_of HT_.out (by kernel_rfl)) (fun _ _ _ h => h) (Or.inl ⟨by rfl, ?_⟩) ?_ ?_
                  rotate_left
                  · intro w'
                    go_simp
                    with_reducible rfl
                  rotate_left
                  · simp only [Act.put, List.setIfInBounds_toArray, List.set_cons_zero, List.set_cons_succ, i64_w, i32_w]
                    rfl
                  refine pure_ (i := 23) (N := some 70) (v := ?_) (a' := ?_) #[true, true, true, true, true, true, true, true, true, true, true, true, true, true, true, true, true, true, true, false, true, true, true, true, false, false, false, false, false, false] rfl rfl (any_of HT_.out (by kernel_rfl)) (fun _ _ _ h => h) (Or.inl ⟨by rfl, ?_⟩) ?_ ?_
                  rotate_left
                  · intro w'
                    go_simp
                    with_reducible rfl
                  rotate_left
                  · simp only [Act.put, List.setIfInBounds_toArray, List.set_cons_zero, List.set_cons_succ, i64_w, i32_w]
                    rfl
                  refine pure_ (i := 24) (N := some 71) (v := ?_) (a' := ?_) #[true, true, true, true, true, true, true, true, true, true, true, true, true, true, true, true, true, true, true, false, true, true, true, true, true, false, false, false, false, false] rfl rfl (any_of HT_.out (by kernel_rfl)) (fun _ _ _ h => h) (Or.inl ⟨by rfl, ?_⟩) ?_ ?_
                  rotate_left
                  · intro w'
                    go_simp
                    with_reducible rfl
                  rotate_left
                  · simp only [Act.put, List.setIfInBounds_toArray, List.set_cons_zero, List.set_cons_succ, i64_w, i32_w]
                    rfl
                  refine take_ (i := 19) (N := some 66) (v := ?_) (a' := ?_) #[true, true, true, true, true, true, true, true, true, true, true, true, true, true, true, true, true, true, true, true, true, true, true, true, true, false, false, false, false, false] rfl rfl (take_ofW HT_.out HW_.out (by kernel_rfl)) (fun _ _ _ h => h) (Or.inl ⟨by rfl, ?_⟩) hHeld ?_ ?_
                  rotate_left
                  · rintro w' ⟨s0, s1, s2, s3, s4, s5, s6, s7, s8, s9, s10, s11, s12, s13, s14, s15⟩
                    go_simp
                    with_reducible rfl
                  rotate_left
                  · simp only [Act.put, List.setIfInBounds_toArray, List.set_cons_zero, List.set_cons_succ, i64_w, i32_w]
                    rfl
                  refine take_ (i := 26) (N := some 73) (v := ?_) (a' := ?_) #[true, true, true, true, true, true, true, true, true, true, true, true, true, true, true, true, true, true, true, true, true, true, true, true, true, false, true, false, false, false] rfl rfl (take_ofW HT_.out HW_.out (by kernel_rfl)) (fun _ _ _ h => h) (Or.inl ⟨by rfl, ?_⟩) hHeld ?_ ?_
                  rotate_left
                  · rintro w' ⟨s0, s1, s2, s3, s4, s5, s6, s7, s8, s9, s10, s11, s12, s13, s14, s15⟩
                    go_simp
                    with_reducible rfl
                  rotate_left
                  · simp only [Act.put, List.setIfInBounds_toArray, List.set_cons_zero, List.set_cons_succ, i64_w, i32_w]
                    rfl
                  refine one_ (i := 25) (N := some 72) #[true, true, true, true, true, true, true, true, true, true, true, true, true, true, true, true, true, true, true, true, true, true, true, true, true, true, true, false, false, false] rfl rfl (one_of HT_.out (by kernel_rfl)) (by decide) (fun K hK => ?_)
                  refine goes_ Try.func9 (by kernel_rfl) rfl #[.agg #[.int .u64 a0_0, .int .u64 a0_1, .int .u64 a0_2, .bool a0_3, .int .u64 a0_4, .int .u64 a0_5, .int .u64 a0_6, .int .u64 a0_7], .int .u64 a4, .int .u64 (IntKind.u64.wrap (a1)), .int .u64 (IntKind.u64.wrap (a2)), .int .u64 5, .bool true] (by rfl) rfl rfl (by (try simp only [List.map_toArray, List.map_cons, List.map_nil]); first | done | rfl | (simp only [List.length_drop, List.length_take]; rfl)) ?_
                  with_reducible refine (cubic_Ack.calls a0_0 a0_1 a0_2 a0_3 a0_4 a0_5 a0_6 a0_7 a4 (IntKind.u64.wrap (a1)) (IntKind.u64.wrap (a2)) 5 true t234 t235 t236 t237 t238 t239 t240 t241 _ A24.out).mono ?_
                  rintro e w47 ⟨rfl, hb⟩
                  refine ⟨_, rfl, ?_⟩
                  have n0_ := Aside0.mk (blk_below (g := gb198) (o := .cells #[.int .u64 a0_0, .int .u64 a0_1, .int .u64 a0_2, .bool a0_3, .int .u64 a0_4, .int .u64 a0_5, .int .u64 a0_6, .int .u64 a0_7] 26 (0, 0)) (by (with_reducible repeat (first | refine blk_drewN ?_ _ | refine blk_drew ?_ | refine blk_alloc ?_ _)); exact BK198.out) hb)
                  have n1_ := Aside0.mk (blk_below (g := gb208) (o := .cells #[.int .u64 t200, .int .u64 t201, .int .u64 t202, .bool false, .int .u64 t204, .int .u64 t205, .int .u64 t206, .int .u64 t207] 26 (0, 0)) (by (with_reducible repeat (first | refine blk_drewN ?_ _ | refine blk_drew ?_ | refine blk_alloc ?_ _)); exact BK208.out) hb)
                  have n2_ := Aside0.mk (blk_below (g := gb217) (o := .cells #[.int .u64 t209, .int .u64 t210, .int .u64 t211, .bool t212, .int .u64 t213, .int .u64 t214, .int .u64 t215, .int .u64 t216] 26 (0, 0)) (by (with_reducible repeat (first | refine blk_drewN ?_ _ | refine blk_drew ?_ | refine blk_alloc ?_ _)); exact BK217.out) hb)
                  have n3_ := Aside0.mk (below_step (by repeat (first | (with_reducible first | exact HB.out | apply below_alloc | apply pw_below_drewN | apply below_drew1 | refine below_set ?_ GE198.out | refine below_set ?_ GE208.out | refine below_set ?_ GE217.out) | exact HB.out)) hb)
                  clear BK198
                  clear BK208
                  clear BK217
                  clear HB
                  have BK198 := n0_
                  have BK208 := n1_
                  have BK217 := n2_
                  have HB := n3_
                  clear n0_ n1_ n2_ n3_
                  (try clear hb)
                  (try clear hb2)
                  (try clear hk)
                  (try clear hi)
                  refine hK.out _ _ ⟨(blk_cell BK208.out 0).trans rfl, (blk_cell BK208.out 1).trans rfl, (blk_cell BK208.out 2).trans rfl, (blk_cell BK208.out 3).trans rfl, (blk_cell BK208.out 4).trans rfl, (blk_cell BK208.out 5).trans rfl, (blk_cell BK208.out 6).trans rfl, (blk_cell BK208.out 7).trans rfl, (blk_cell BK198.out 0).trans rfl, (blk_cell BK198.out 1).trans rfl, (blk_cell BK198.out 2).trans rfl, (blk_cell BK198.out 3).trans rfl, (blk_cell BK198.out 4).trans rfl, (blk_cell BK198.out 5).trans rfl, (blk_cell BK198.out 6).trans rfl, (blk_cell BK198.out 7).trans rfl⟩ (fun hHeld => ?_)
                  clear hK K
                  refine norm_ (a' := ?_) ?_ ?_
                  rotate_left
                  · show Act.put _ (some 72) _ = _
                    simp only [Act.put, List.setIfInBounds_toArray, List.set_cons_zero, List.set_cons_succ, i64_w, i32_w]
                    rfl
                  refine pure_ (i := 27) (N := some 74) (v := ?_) (a' := ?_) #[true, true, true, true, true, true, true, true, true, true, true, true, true, true, true, true, true, true, true, true, true, true, true, true, true, true, true, true, false, false] rfl rfl (any_of HT_.out (by kernel_rfl)) (fun _ _ _ h => h) (Or.inl ⟨by rfl, ?_⟩) ?_ ?_
                  rotate_left
                  · intro w'
                    go_simp
                    with_reducible rfl
                  rotate_left
                  · simp only [Act.put, List.setIfInBounds_toArray, List.set_cons_zero, List.set_cons_succ, i64_w, i32_w]
                    rfl
                  refine pure_ (i := 28) (N := some 75) (v := ?_) (a' := ?_) #[true, true, true, true, true, true, true, true, true, true, true, true, true, true, true, true, true, true, true, true, true, true, true, true, true, true, true, true, true, false] rfl rfl (any_of HT_.out (by kernel_rfl)) (fun _ _ _ h => h) (Or.inl ⟨by rfl, ?_⟩) ?_ ?_
                  rotate_left
                  · intro w'
                    go_simp
                    with_reducible rfl
                  rotate_left
                  · simp only [Act.put, List.setIfInBounds_toArray, List.set_cons_zero, List.set_cons_succ, i64_w, i32_w]
                    rfl
                  refine pure_ (i := 29) (N := some 15) (v := ?_) (a' := ?_) #[true, true, true, true, true, true, true, true, true, true, true, true, true, true, true, true, true, true, true, true, true, true, true, true, true, true, true, true, true, true] rfl rfl (any_of HT_.out (by kernel_rfl)) (fun _ _ _ h => h) (Or.inl ⟨by rfl, ?_⟩) ?_ ?_
                  rotate_left
                  · intro w'
                    go_simp
                    with_reducible rfl
                  rotate_left
                  · simp only [Act.put, List.setIfInBounds_toArray, List.set_cons_zero, List.set_cons_succ, i64_w, i32_w]
                    rfl
                  refine done_ (done_of HT_.out (by kernel_rfl)) ?_
                  have hcz48_0 : w47.cell? ⟨gb208, 0, none⟩ = some (.int .u64 t200) := (blk_cell BK208.out 0).trans rfl
                  have hcz48_1 : w47.cell? ⟨gb208, 1, none⟩ = some (.int .u64 t201) := (blk_cell BK208.out 1).trans rfl
                  have hcz48_2 : w47.cell? ⟨gb208, 2, none⟩ = some (.int .u64 t202) := (blk_cell BK208.out 2).trans rfl
                  have hcz48_3 : w47.cell? ⟨gb208, 3, none⟩ = some (.bool false) := (blk_cell BK208.out 3).trans rfl
                  have hcz48_4 : w47.cell? ⟨gb208, 4, none⟩ = some (.int .u64 t204) := (blk_cell BK208.out 4).trans rfl
                  have hcz48_5 : w47.cell? ⟨gb208, 5, none⟩ = some (.int .u64 t205) := (blk_cell BK208.out 5).trans rfl
                  have hcz48_6 : w47.cell? ⟨gb208, 6, none⟩ = some (.int .u64 t206) := (blk_cell BK208.out 6).trans rfl
                  have hcz48_7 : w47.cell? ⟨gb208, 7, none⟩ = some (.int .u64 t207) := (blk_cell BK208.out 7).trans rfl
                  have hfz48_0 := blk_frozen BK208.out 0
                  have hfz48_1 := blk_frozen BK208.out 1
                  have hfz48_2 := blk_frozen BK208.out 2
                  have hfz48_3 := blk_frozen BK208.out 3
                  have hfz48_4 := blk_frozen BK208.out 4
                  have hfz48_5 := blk_frozen BK208.out 5
                  have hfz48_6 := blk_frozen BK208.out 6
                  have hfz48_7 := blk_frozen BK208.out 7
                  have hcz49_0 : w47.cell? ⟨gb217, 0, none⟩ = some (.int .u64 t209) := (blk_cell BK217.out 0).trans rfl
                  have hcz49_1 : w47.cell? ⟨gb217, 1, none⟩ = some (.int .u64 t210) := (blk_cell BK217.out 1).trans rfl
                  have hcz49_2 : w47.cell? ⟨gb217, 2, none⟩ = some (.int .u64 t211) := (blk_cell BK217.out 2).trans rfl
                  have hcz49_3 : w47.cell? ⟨gb217, 3, none⟩ = some (.bool t212) := (blk_cell BK217.out 3).trans rfl
                  have hcz49_4 : w47.cell? ⟨gb217, 4, none⟩ = some (.int .u64 t213) := (blk_cell BK217.out 4).trans rfl
                  have hcz49_5 : w47.cell? ⟨gb217, 5, none⟩ = some (.int .u64 t214) := (blk_cell BK217.out 5).trans rfl
                  have hcz49_6 : w47.cell? ⟨gb217, 6, none⟩ = some (.int .u64 t215) := (blk_cell BK217.out 6).trans rfl
                  have hcz49_7 : w47.cell? ⟨gb217, 7, none⟩ = some (.int .u64 t216) := (blk_cell BK217.out 7).trans rfl
                  have hfz49_0 := blk_frozen BK217.out 0
                  have hfz49_1 := blk_frozen BK217.out 1
                  have hfz49_2 := blk_frozen BK217.out 2
                  have hfz49_3 := blk_frozen BK217.out 3
                  have hfz49_4 := blk_frozen BK217.out 4
                  have hfz49_5 := blk_frozen BK217.out 5
                  have hfz49_6 := blk_frozen BK217.out 6
                  have hfz49_7 := blk_frozen BK217.out 7
                  try go_wp2
                  go_ret
                  exact ⟨by first | rfl | (simp [errW_none, errW_some] <;> rfl) | (simp only [← hji18]; first | rfl | (simp [errW_none, errW_some] <;> rfl)) | (simp [*, errW_none, errW_some] <;> rfl), by repeat (first | (with_reducible first | exact HB.out | apply below_alloc | apply pw_below_drewN | apply below_drew1 | refine below_set ?_ GE198.out | refine below_set ?_ GE208.out | refine below_set ?_ GE217.out) | exact HB.out)⟩
                · rw [if_neg c29] at H
                  have c29b0 : decide (t214 ≤ t205) = false := decide_eq_false c29
                  clear c29
                  obtain rfl := Option.some.inj H
                  go_enter Try.func5, Try.ntmps5
                  try go_wp2_with (first | ((with_reducible refine gate_dst (N := 5) rfl ?_); refine box_event ?hg (N := 5) ?hd (cs := #[.int .u64 a0_0, .int .u64 a0_1, .int .u64 a0_2, .bool a0_3, .int .u64 a0_4, .int .u64 a0_5, .int .u64 a0_6, .int .u64 a0_7]) (t := 26) ?hr ?_; (case hd => rfl); (case hg => rfl); (case hr => first | (go_simp; done) | (go_simp; rfl)); intro gb198 hg w50 hbox hb; have n0_ := Aside0.mk (below_step (by repeat (first | (with_reducible first | exact HB.out | apply below_alloc | apply pw_below_drewN | apply below_drew1) | exact HB.out)) hb); have n1_ := Aside0.mk (hbox); have n2_ := Aside0.mk ((by rw [hg]; exact (below_size (by repeat (first | (with_reducible first | exact HB.out | apply below_alloc | apply pw_below_drewN | apply below_drew1) | exact HB.out))) : w.heap.size ≤ gb198)); have n3_ := Aside0.mk ((by rw [hg]; exact (below_size (by repeat (first | (with_reducible first | exact HB.out | apply below_alloc | apply pw_below_drewN | apply below_drew1) | exact HB.out))) : w.heap.size ≤ gb198)); clear HB; have HB := n0_; have BK198 := n1_; have GW198 := n2_; have GE198 := n3_; clear n0_ n1_ n2_ n3_; clear hb hbox hg) | ((with_reducible refine gate_callee (f := 7) rfl ?_); refine goesL_ (some 16) rfl rfl Try.func7 (by kernel_rfl) rfl #[] rfl (by (try simp only [List.map_toArray, List.map_cons, List.map_nil]); first | done | rfl | (simp only [List.length_drop, List.length_take]; rfl)) ?_; (with_reducible refine (wigwaglaw12_awake.calls  true _ A6.out).mono ?_); rintro e w51 ⟨rfl, hb⟩; refine ⟨_, rfl, ?_⟩; have n0_ := Aside0.mk (blk_below (g := gb198) (o := .cells #[.int .u64 a0_0, .int .u64 a0_1, .int .u64 a0_2, .bool a0_3, .int .u64 a0_4, .int .u64 a0_5, .int .u64 a0_6, .int .u64 a0_7] 26 (0, 0)) (by (with_reducible repeat (first | refine blk_drewN ?_ _ | refine blk_drew ?_ | refine blk_alloc ?_ _)); exact BK198.out) hb); have n1_ := Aside0.mk (below_step (by repeat (first | (with_reducible first | exact HB.out | apply below_alloc | apply pw_below_drewN | apply below_drew1 | refine below_set ?_ GE198.out) | exact HB.out)) hb); clear BK198; clear HB; have BK198 := n0_; have HB := n1_; clear n0_ n1_; (try clear hb); (try clear hb2); (try clear hk); (try clear hi); have hcz52_0 : w51.cell? ⟨gb198, 0, none⟩ = some (.int .u64 a0_0) := (blk_cell BK198.out 0).trans rfl; have hcz52_1 : w51.cell? ⟨gb198, 1, none⟩ = some (.int .u64 a0_1) := (blk_cell BK198.out 1).trans rfl; have hcz52_2 : w51.cell? ⟨gb198, 2, none⟩ = some (.int .u64 a0_2) := (blk_cell BK198.out 2).trans rfl; have hcz52_3 : w51.cell? ⟨gb198, 3, none⟩ = some (.bool a0_3) := (blk_cell BK198.out 3).trans rfl; have hcz52_4 : w51.cell? ⟨gb198, 4, none⟩ = some (.int .u64 a0_4) := (blk_cell BK198.out 4).trans rfl; have hcz52_5 : w51.cell? ⟨gb198, 5, none⟩ = some (.int .u64 a0_5) := (blk_cell BK198.out 5).trans rfl; have hcz52_6 : w51.cell? ⟨gb198, 6, none⟩ = some (.int .u64 a0_6) := (blk_cell BK198.out 6).trans rfl; have hcz52_7 : w51.cell? ⟨gb198, 7, none⟩ = some (.int .u64 a0_7) := (blk_cell BK198.out 7).trans rfl; have hfz52_0 := blk_frozen BK198.out 0; have hfz52_1 := blk_frozen BK198.out 1; have hfz52_2 := blk_frozen BK198.out 2; have hfz52_3 := blk_frozen BK198.out 3; have hfz52_4 := blk_frozen BK198.out 4; have hfz52_5 := blk_frozen BK198.out 5; have hfz52_6 := blk_frozen BK198.out 6; have hfz52_7 := blk_frozen BK198.out 7) | ((with_reducible refine gate_callee (f := 10) rfl ?_); refine goesL_ (some 22) rfl rfl Try.func10 (by kernel_rfl) rfl #[.agg #[.int .u64 a0_0, .int .u64 a0_1, .int .u64 a0_2, .bool a0_3, .int .u64 a0_4, .int .u64 a0_5, .int .u64 a0_6, .int .u64 a0_7], .int .u64 (IntKind.u64.wrap (a1)), .int .u64 (IntKind.u64.wrap (a2))] rfl (by (try simp only [List.map_toArray, List.map_cons, List.map_nil]); first | done | rfl | (simp only [List.length_drop, List.length_take]; rfl)) ?_; (with_reducible refine (cubic_Loss.calls a0_0 a0_1 a0_2 a0_3 a0_4 a0_5 a0_6 a0_7 (IntKind.u64.wrap (a1)) (IntKind.u64.wrap (a2)) t200 t201 t202 false t204 t205 t206 t207 _ A7.out).mono ?_); rintro e w53 ⟨rfl, hb⟩; refine ⟨_, rfl, ?_⟩; have n0_ := Aside0.mk (blk_below (g := gb198) (o := .cells #[.int .u64 a0_0, .int .u64 a0_1, .int .u64 a0_2, .bool a0_3, .int .u64 a0_4, .int .u64 a0_5, .int .u64 a0_6, .int .u64 a0_7] 26 (0, 0)) (by (with_reducible repeat (first | refine blk_drewN ?_ _ | refine blk_drew ?_ | refine blk_alloc ?_ _)); exact BK198.out) hb); have n1_ := Aside0.mk (below_step (by repeat (first | (with_reducible first | exact HB.out | apply below_alloc | apply pw_below_drewN | apply below_drew1 | refine below_set ?_ GE198.out) | exact HB.out)) hb); clear BK198; clear HB; have BK198 := n0_; have HB := n1_; clear n0_ n1_; (try clear hb); (try clear hb2); (try clear hk); (try clear hi)) | ((with_reducible refine gate_dst (N := 12) rfl ?_); refine box_event ?hg (N := 12) ?hd (cs := #[.int .u64 0, .int .u64 0, .int .u64 0, .bool false, .int .u64 0, .int .u64 0, .int .u64 0, .int .u64 0]) (t := 26) ?hr ?_; (case hd => rfl); (case hg => rfl); (case hr => first | (go_simp; done) | (go_simp; rfl)); intro gb208 hg w54 hbox hb; have n0_ := Aside0.mk (blk_below (g := gb198) (o := .cells #[.int .u64 a0_0, .int .u64 a0_1, .int .u64 a0_2, .bool a0_3, .int .u64 a0_4, .int .u64 a0_5, .int .u64 a0_6, .int .u64 a0_7] 26 (0, 0)) (by (with_reducible repeat (first | refine blk_drewN ?_ _ | refine blk_drew ?_ | refine blk_alloc ?_ _)); exact BK198.out) hb); have n1_ := Aside0.mk (below_step (by repeat (first | (with_reducible first | exact HB.out | apply below_alloc | apply pw_below_drewN | apply below_drew1 | refine below_set ?_ GE198.out) | exact HB.out)) hb); have n2_ := Aside0.mk (hbox); have n3_ := Aside0.mk ((by rw [hg]; exact (below_size (by repeat (first | (with_reducible first | exact HB.out | apply below_alloc | apply pw_below_drewN | apply below_drew1 | refine below_set ?_ GE198.out) | exact HB.out))) : w.heap.size ≤ gb208)); have n4_ := Aside0.mk ((by rw [hg]; exact (below_size (by repeat (first | (with_reducible first | exact HB.out | apply below_alloc | apply pw_below_drewN | apply below_drew1 | refine below_set ?_ GE198.out) | exact HB.out))) : w.heap.size ≤ gb208)); have n5_ := Aside0.mk ((by rw [hg]; exact Nat.ne_of_lt (blk_lt (g := gb198) (o := .cells #[.int .u64 a0_0, .int .u64 a0_1, .int .u64 a0_2, .bool a0_3, .int .u64 a0_4, .int .u64 a0_5, .int .u64 a0_6, .int .u64 a0_7] 26 (0, 0)) (by (with_reducible repeat (first | refine blk_drewN ?_ _ | refine blk_drew ?_ | refine blk_alloc ?_ _)); exact BK198.out)) : gb198 ≠ gb208)); have n6_ := Aside0.mk ((by rw [hg]; exact Nat.ne_of_gt (blk_lt (g := gb198) (o := .cells #[.int .u64 a0_0, .int .u64 a0_1, .int .u64 a0_2, .bool a0_3, .int .u64 a0_4, .int .u64 a0_5, .int .u64 a0_6, .int .u64 a0_7] 26 (0, 0)) (by (with_reducible repeat (first | refine blk_drewN ?_ _ | refine blk_drew ?_ | refine blk_alloc ?_ _)); exact BK198.out)) : gb208 ≠ gb198)); clear BK198; clear HB; have BK198 := n0_; have HB := n1_; have BK208 := n2_; have GW208 := n3_; have GE208 := n4_; have NB198_208 := n5_; have NB208_198 := n6_; clear n0_ n1_ n2_ n3_ n4_ n5_ n6_; clear hb hbox hg; have hnb55 := NB208_198.out; have hnc55 := NB198_208.out; have hcz56_0 : w54.cell? ⟨gb208, 0, none⟩ = some (.int .u64 0) := (blk_cell BK208.out 0).trans rfl; have hcz56_1 : w54.cell? ⟨gb208, 1, none⟩ = some (.int .u64 0) := (blk_cell BK208.out 1).trans rfl; have hcz56_2 : w54.cell? ⟨gb208, 2, none⟩ = some (.int .u64 0) := (blk_cell BK208.out 2).trans rfl; have hcz56_3 : w54.cell? ⟨gb208, 3, none⟩ = some (.bool false) := (blk_cell BK208.out 3).trans rfl; have hcz56_4 : w54.cell? ⟨gb208, 4, none⟩ = some (.int .u64 0) := (blk_cell BK208.out 4).trans rfl; have hcz56_5 : w54.cell? ⟨gb208, 5, none⟩ = some (.int .u64 0) := (blk_cell BK208.out 5).trans rfl; have hcz56_6 : w54.cell? ⟨gb208, 6, none⟩ = some (.int .u64 0) := (blk_cell BK208.out 6).trans rfl; have hcz56_7 : w54.cell? ⟨gb208, 7, none⟩ = some (.int .u64 0) := (blk_cell BK208.out 7).trans rfl; have hfz56_0 := blk_frozen BK208.out 0; have hfz56_1 := blk_frozen BK208.out 1; have hfz56_2 := blk_frozen BK208.out 2; have hfz56_3 := blk_frozen BK208.out 3; have hfz56_4 := blk_frozen BK208.out 4; have hfz56_5 := blk_frozen BK208.out 5; have hfz56_6 := blk_frozen BK208.out 6; have hfz56_7 := blk_frozen BK208.out 7; have hcz57_0 : w54.cell? ⟨gb198, 0, none⟩ = some (.int .u64 a0_0) := (blk_cell BK198.out 0).trans rfl; have hcz57_1 : w54.cell? ⟨gb198, 1, none⟩ = some (.int .u64 a0_1) := (blk_cell BK198.out 1).trans rfl; have hcz57_2 : w54.cell? ⟨gb198, 2, none⟩ = some (.int .u64 a0_2) := (blk_cell BK198.out 2).trans rfl; have hcz57_3 : w54.cell? ⟨gb198, 3, none⟩ = some (.bool a0_3) := (blk_cell BK198.out 3).trans rfl; have hcz57_4 : w54.cell? ⟨gb198, 4, none⟩ = some (.int .u64 a0_4) := (blk_cell BK198.out 4).trans rfl; have hcz57_5 : w54.cell? ⟨gb198, 5, none⟩ = some (.int .u64 a0_5) := (blk_cell BK198.out 5).trans rfl; have hcz57_6 : w54.cell? ⟨gb198, 6, none⟩ = some (.int .u64 a0_6) := (blk_cell BK198.out 6).trans rfl; have hcz57_7 : w54.cell? ⟨gb198, 7, none⟩ = some (.int .u64 a0_7) := (blk_cell BK198.out 7).trans rfl; have hfz57_0 := blk_frozen BK198.out 0; have hfz57_1 := blk_frozen BK198.out 1; have hfz57_2 := blk_frozen BK198.out 2; have hfz57_3 := blk_frozen BK198.out 3; have hfz57_4 := blk_frozen BK198.out 4; have hfz57_5 := blk_frozen BK198.out 5; have hfz57_6 := blk_frozen BK198.out 6; have hfz57_7 := blk_frozen BK198.out 7) | ((with_reducible refine gate_callee (f := 10) rfl ?_); refine goesL_ (some 46) rfl rfl Try.func10 (by kernel_rfl) rfl #[.agg #[.int .u64 t200, .int .u64 t201, .int .u64 t202, .bool false, .int .u64 t204, .int .u64 t205, .int .u64 t206, .int .u64 t207], .int .u64 (IntKind.u64.wrap ((IntKind.u64.wrap (a2)) + 1)), .int .u64 (IntKind.u64.wrap ((IntKind.u64.wrap (a2)) + 2))] rfl (by (try simp only [List.map_toArray, List.map_cons, List.map_nil]); first | done | rfl | (simp only [List.length_drop, List.length_take]; rfl)) ?_; (with_reducible refine (cubic_Loss.calls t200 t201 t202 false t204 t205 t206 t207 (IntKind.u64.wrap ((IntKind.u64.wrap (a2)) + 1)) (IntKind.u64.wrap ((IntKind.u64.wrap (a2)) + 2)) t209 t210 t211 t212 t213 t214 t215 t216 _ A19.out).mono ?_); rintro e w58 ⟨rfl, hb⟩; refine ⟨_, rfl, ?_⟩; have n0_ := Aside0.mk (blk_below (g := gb198) (o := .cells #[.int .u64 a0_0, .int .u64 a0_1, .int .u64 a0_2, .bool a0_3, .int .u64 a0_4, .int .u64 a0_5, .int .u64 a0_6, .int .u64 a0_7] 26 (0, 0)) (by (with_reducible repeat (first | refine blk_drewN ?_ _ | refine blk_drew ?_ | refine blk_alloc ?_ _)); refine blk_far ?_ NB198_208.out _; (with_reducible repeat (first | refine blk_drewN ?_ _ | refine blk_drew ?_ | refine blk_alloc ?_ _)); refine blk_far ?_ NB198_208.out _; (with_reducible repeat (first | refine blk_drewN ?_ _ | refine blk_drew ?_ | refine blk_alloc ?_ _)); refine blk_far ?_ NB198_208.out _; (with_reducible repeat (first | refine blk_drewN ?_ _ | refine blk_drew ?_ | refine blk_alloc ?_ _)); refine blk_far ?_ NB198_208.out _; (with_reducible repeat (first | refine blk_drewN ?_ _ | refine blk_drew ?_ | refine blk_alloc ?_ _)); refine blk_far ?_ NB198_208.out _; (with_reducible repeat (first | refine blk_drewN ?_ _ | refine blk_drew ?_ | refine blk_alloc ?_ _)); refine blk_far ?_ NB198_208.out _; (with_reducible repeat (first | refine blk_drewN ?_ _ | refine blk_drew ?_ | refine blk_alloc ?_ _)); refine blk_far ?_ NB198_208.out _; (with_reducible repeat (first | refine blk_drewN ?_ _ | refine blk_drew ?_ | refine blk_alloc ?_ _)); refine blk_far ?_ NB198_208.out _; (with_reducible repeat (first | refine blk_drewN ?_ _ | refine blk_drew ?_ | refine blk_alloc ?_ _)); exact BK198.out) hb); have n1_ := Aside0.mk (blk_below (g := gb208) (o := .cells #[.int .u64 t200, .int .u64 t201, .int .u64 t202, .bool false, .int .u64 t204, .int .u64 t205, .int .u64 t206, .int .u64 t207] 26 (0, 0)) (by (with_reducible repeat (first | refine blk_drewN ?_ _ | refine blk_drew ?_ | refine blk_alloc ?_ _)); refine blk_put (cs := #[.int .u64 t200, .int .u64 t201, .int .u64 t202, .bool false, .int .u64 t204, .int .u64 t205, .int .u64 t206, .int .u64 0]) ?_ 7 _ rfl; (with_reducible repeat (first | refine blk_drewN ?_ _ | refine blk_drew ?_ | refine blk_alloc ?_ _)); refine blk_put (cs := #[.int .u64 t200, .int .u64 t201, .int .u64 t202, .bool false, .int .u64 t204, .int .u64 t205, .int .u64 0, .int .u64 0]) ?_ 6 _ rfl; (with_reducible repeat (first | refine blk_drewN ?_ _ | refine blk_drew ?_ | refine blk_alloc ?_ _)); refine blk_put (cs := #[.int .u64 t200, .int .u64 t201, .int .u64 t202, .bool false, .int .u64 t204, .int .u64 0, .int .u64 0, .int .u64 0]) ?_ 5 _ rfl; (with_reducible repeat (first | refine blk_drewN ?_ _ | refine blk_drew ?_ | refine blk_alloc ?_ _)); refine blk_put (cs := #[.int .u64 t200, .int .u64 t201, .int .u64 t202, .bool false, .int .u64 0, .int .u64 0, .int .u64 0, .int .u64 0]) ?_ 4 _ rfl; (with_reducible repeat (first | refine blk_drewN ?_ _ | refine blk_drew ?_ | refine blk_alloc ?_ _)); refine blk_put (cs := #[.int .u64 t200, .int .u64 t201, .int .u64 t202, .bool false, .int .u64 0, .int .u64 0, .int .u64 0, .int .u64 0]) ?_ 3 _ rfl; (with_reducible repeat (first | refine blk_drewN ?_ _ | refine blk_drew ?_ | refine blk_alloc ?_ _)); refine blk_put (cs := #[.int .u64 t200, .int .u64 t201, .int .u64 0, .bool false, .int .u64 0, .int .u64 0, .int .u64 0, .int .u64 0]) ?_ 2 _ rfl; (with_reducible repeat (first | refine blk_drewN ?_ _ | refine blk_drew ?_ | refine blk_alloc ?_ _)); refine blk_put (cs := #[.int .u64 t200, .int .u64 0, .int .u64 0, .bool false, .int .u64 0, .int .u64 0, .int .u64 0, .int .u64 0]) ?_ 1 _ rfl; (with_reducible repeat (first | refine blk_drewN ?_ _ | refine blk_drew ?_ | refine blk_alloc ?_ _)); refine blk_put (cs := #[.int .u64 0, .int .u64 0, .int .u64 0, .bool false, .int .u64 0, .int .u64 0, .int .u64 0, .int .u64 0]) ?_ 0 _ rfl; (with_reducible repeat (first | refine blk_drewN ?_ _ | refine blk_drew ?_ | refine blk_alloc ?_ _)); exact BK208.out) hb); have n2_ := Aside0.mk (below_step (by repeat (first | (with_reducible first | exact HB.out | apply below_alloc | apply pw_below_drewN | apply below_drew1 | refine below_set ?_ GE198.out | refine below_set ?_ GE208.out) | exact HB.out)) hb); clear BK198; clear BK208; clear HB; have BK198 := n0_; have BK208 := n1_; have HB := n2_; clear n0_ n1_ n2_; (try clear hb); (try clear hb2); (try clear hk); (try clear hi)) | ((with_reducible refine gate_dst (N := 14) rfl ?_); refine box_event ?hg (N := 14) ?hd (cs := #[.int .u64 0, .int .u64 0, .int .u64 0, .bool false, .int .u64 0, .int .u64 0, .int .u64 0, .int .u64 0]) (t := 26) ?hr ?_; (case hd => rfl); (case hg => rfl); (case hr => first | (go_simp; done) | (go_simp; rfl)); intro gb217 hg w59 hbox hb; have n0_ := Aside0.mk (blk_below (g := gb198) (o := .cells #[.int .u64 a0_0, .int .u64 a0_1, .int .u64 a0_2, .bool a0_3, .int .u64 a0_4, .int .u64 a0_5, .int .u64 a0_6, .int .u64 a0_7] 26 (0, 0)) (by (with_reducible repeat (first | refine blk_drewN ?_ _ | refine blk_drew ?_ | refine blk_alloc ?_ _)); exact BK198.out) hb); have n1_ := Aside0.mk (blk_below (g := gb208) (o := .cells #[.int .u64 t200, .int .u64 t201, .int .u64 t202, .bool false, .int .u64 t204, .int .u64 t205, .int .u64 t206, .int .u64 t207] 26 (0, 0)) (by (with_reducible repeat (first | refine blk_drewN ?_ _ | refine blk_drew ?_ | refine blk_alloc ?_ _)); exact BK208.out) hb); have n2_ := Aside0.mk (below_step (by repeat (first | (with_reducible first | exact HB.out | apply below_alloc | apply pw_below_drewN | apply below_drew1 | refine below_set ?_ GE198.out | refine below_set ?_ GE208.out) | exact HB.out)) hb); have n3_ := Aside0.mk (hbox); have n4_ := Aside0.mk ((by rw [hg]; exact (below_size (by repeat (first | (with_reducible first | exact HB.out | apply below_alloc | apply pw_below_drewN | apply below_drew1 | refine below_set ?_ GE198.out | refine below_set ?_ GE208.out) | exact HB.out))) : w.heap.size ≤ gb217)); have n5_ := Aside0.mk ((by rw [hg]; exact (below_size (by repeat (first | (with_reducible first | exact HB.out | apply below_alloc | apply pw_below_drewN | apply below_drew1 | refine below_set ?_ GE198.out | refine below_set ?_ GE208.out) | exact HB.out))) : w.heap.size ≤ gb217)); have n6_ := Aside0.mk ((by rw [hg]; exact Nat.ne_of_lt (blk_lt (g := gb198) (o := .cells #[.int .u64 a0_0, .int .u64 a0_1, .int .u64 a0_2, .bool a0_3, .int .u64 a0_4, .int .u64 a0_5, .int .u64 a0_6, .int .u64 a0_7] 26 (0, 0)) (by (with_reducible repeat (first | refine blk_drewN ?_ _ | refine blk_drew ?_ | refine blk_alloc ?_ _)); exact BK198.out)) : gb198 ≠ gb217)); have n7_ := Aside0.mk ((by rw [hg]; exact Nat.ne_of_gt (blk_lt (g := gb198) (o := .cells #[.int .u64 a0_0, .int .u64 a0_1, .int .u64 a0_2, .bool a0_3, .int .u64 a0_4, .int .u64 a0_5, .int .u64 a0_6, .int .u64 a0_7] 26 (0, 0)) (by (with_reducible repeat (first | refine blk_drewN ?_ _ | refine blk_drew ?_ | refine blk_alloc ?_ _)); exact BK198.out)) : gb217 ≠ gb198)); have n8_ := Aside0.mk ((by rw [hg]; exact Nat.ne_of_lt (blk_lt (g := gb208) (o := .cells #[.int .u64 t200, .int .u64 t201, .int .u64 t202, .bool false, .int .u64 t204, .int .u64 t205, .int .u64 t206, .int .u64 t207] 26 (0, 0)) (by (with_reducible repeat (first | refine blk_drewN ?_ _ | refine blk_drew ?_ | refine blk_alloc ?_ _)); exact BK208.out)) : gb208 ≠ gb217)); have n9_ := Aside0.mk ((by rw [hg]; exact Nat.ne_of_gt (blk_lt (g := gb208) (o := .cells #[.int .u64 t200, .int .u64 t201, .int .u64 t202, .bool false, .int .u64 t204, .int .u64 t205, .int .u64 t206, .int .u64 t207] 26 (0, 0)) (by (with_reducible repeat (first | refine blk_drewN ?_ _ | refine blk_drew ?_ | refine blk_alloc ?_ _)); exact BK208.out)) : gb217 ≠ gb208)); clear BK198; clear BK208; clear HB; have BK198 := n0_; have BK208 := n1_; have HB := n2_; have BK217 := n3_; have GW217 := n4_; have GE217 := n5_; have NB198_217 := n6_; have NB217_198 := n7_; have NB208_217 := n8_; have NB217_208 := n9_; clear n0_ n1_ n2_ n3_ n4_ n5_ n6_ n7_ n8_ n9_; clear hb hbox hg; have hnb60 := NB217_198.out; have hnc60 := NB198_217.out; have hnb61 := NB217_208.out; have hnc61 := NB208_217.out; have hcz62_0 : w59.cell? ⟨gb217, 0, none⟩ = some (.int .u64 0) := (blk_cell BK217.out 0).trans rfl; have hcz62_1 : w59.cell? ⟨gb217, 1, none⟩ = some (.int .u64 0) := (blk_cell BK217.out 1).trans rfl; have hcz62_2 : w59.cell? ⟨gb217, 2, none⟩ = some (.int .u64 0) := (blk_cell BK217.out 2).trans rfl; have hcz62_3 : w59.cell? ⟨gb217, 3, none⟩ = some (.bool false) := (blk_cell BK217.out 3).trans rfl; have hcz62_4 : w59.cell? ⟨gb217, 4, none⟩ = some (.int .u64 0) := (blk_cell BK217.out 4).trans rfl; have hcz62_5 : w59.cell? ⟨gb217, 5, none⟩ = some (.int .u64 0) := (blk_cell BK217.out 5).trans rfl; have hcz62_6 : w59.cell? ⟨gb217, 6, none⟩ = some (.int .u64 0) := (blk_cell BK217.out 6).trans rfl; have hcz62_7 : w59.cell? ⟨gb217, 7, none⟩ = some (.int .u64 0) := (blk_cell BK217.out 7).trans rfl; have hfz62_0 := blk_frozen BK217.out 0; have hfz62_1 := blk_frozen BK217.out 1; have hfz62_2 := blk_frozen BK217.out 2; have hfz62_3 := blk_frozen BK217.out 3; have hfz62_4 := blk_frozen BK217.out 4; have hfz62_5 := blk_frozen BK217.out 5; have hfz62_6 := blk_frozen BK217.out 6; have hfz62_7 := blk_frozen BK217.out 7))
                  generalize hW_ : ((((((((w59.setCell ⟨gb217, 0, none⟩ (.int .u64 t209)).setCell ⟨gb217, 1, none⟩ (.int .u64 t210)).setCell ⟨gb217, 2, none⟩ (.int .u64 t211)).setCell ⟨gb217, 3, none⟩ (.bool t212)).setCell ⟨gb217, 4, none⟩ (.int .u64 t213)).setCell ⟨gb217, 5, none⟩ (.int .u64 t214)).setCell ⟨gb217, 6, none⟩ (.int .u64 t215)).setCell ⟨gb217, 7, none⟩ (.int .u64 t216)) = w63
                  have n0_ : Aside0 (w63.heap[gb198]? = some (.cells #[.int .u64 a0_0, .int .u64 a0_1, .int .u64 a0_2, .bool a0_3, .int .u64 a0_4, .int .u64 a0_5, .int .u64 a0_6, .int .u64 a0_7] 26 (0, 0))) := ⟨by rw [← hW_]; exact (by (with_reducible repeat (first | refine blk_drewN ?_ _ | refine blk_drew ?_ | refine blk_alloc ?_ _)); refine blk_far ?_ NB198_217.out _; (with_reducible repeat (first | refine blk_drewN ?_ _ | refine blk_drew ?_ | refine blk_alloc ?_ _)); refine blk_far ?_ NB198_217.out _; (with_reducible repeat (first | refine blk_drewN ?_ _ | refine blk_drew ?_ | refine blk_alloc ?_ _)); refine blk_far ?_ NB198_217.out _; (with_reducible repeat (first | refine blk_drewN ?_ _ | refine blk_drew ?_ | refine blk_alloc ?_ _)); refine blk_far ?_ NB198_217.out _; (with_reducible repeat (first | refine blk_drewN ?_ _ | refine blk_drew ?_ | refine blk_alloc ?_ _)); refine blk_far ?_ NB198_217.out _; (with_reducible repeat (first | refine blk_drewN ?_ _ | refine blk_drew ?_ | refine blk_alloc ?_ _)); refine blk_far ?_ NB198_217.out _; (with_reducible repeat (first | refine blk_drewN ?_ _ | refine blk_drew ?_ | refine blk_alloc ?_ _)); refine blk_far ?_ NB198_217.out _; (with_reducible repeat (first | refine blk_drewN ?_ _ | refine blk_drew ?_ | refine blk_alloc ?_ _)); refine blk_far ?_ NB198_217.out _; (with_reducible repeat (first | refine blk_drewN ?_ _ | refine blk_drew ?_ | refine blk_alloc ?_ _)); exact BK198.out)⟩
                  have n1_ : Aside0 (w63.heap[gb208]? = some (.cells #[.int .u64 t200, .int .u64 t201, .int .u64 t202, .bool false, .int .u64 t204, .int .u64 t205, .int .u64 t206, .int .u64 t207] 26 (0, 0))) := ⟨by rw [← hW_]; exact (by (with_reducible repeat (first | refine blk_drewN ?_ _ | refine blk_drew ?_ | refine blk_alloc ?_ _)); refine blk_far ?_ NB208_217.out _; (with_reducible repeat (first | refine blk_drewN ?_ _ | refine blk_drew ?_ | refine blk_alloc ?_ _)); refine blk_far ?_ NB208_217.out _; (with_reducible repeat (first | refine blk_drewN ?_ _ | refine blk_drew ?_ | refine blk_alloc ?_ _)); refine blk_far ?_ NB208_217.out _; (with_reducible repeat (first | refine blk_drewN ?_ _ | refine blk_drew ?_ | refine blk_alloc ?_ _)); refine blk_far ?_ NB208_217.out _; (with_reducible repeat (first | refine blk_drewN ?_ _ | refine blk_drew ?_ | refine blk_alloc ?_ _)); refine blk_far ?_ NB208_217.out _; (with_reducible repeat (first | refine blk_drewN ?_ _ | refine blk_drew ?_ | refine blk_alloc ?_ _)); refine blk_far ?_ NB208_217.out _; (with_reducible repeat (first | refine blk_drewN ?_ _ | refine blk_drew ?_ | refine blk_alloc ?_ _)); refine blk_far ?_ NB208_217.out _; (with_reducible repeat (first | refine blk_drewN ?_ _ | refine blk_drew ?_ | refine blk_alloc ?_ _)); refine blk_far ?_ NB208_217.out _; (with_reducible repeat (first | refine blk_drewN ?_ _ | refine blk_drew ?_ | refine blk_alloc ?_ _)); exact BK208.out)⟩
                  have n2_ : Aside0 (w63.heap[gb217]? = some (.cells #[.int .u64 t209, .int .u64 t210, .int .u64 t211, .bool t212, .int .u64 t213, .int .u64 t214, .int .u64 t215, .int .u64 t216] 26 (0, 0))) := ⟨by rw [← hW_]; exact (by (with_reducible repeat (first | refine blk_drewN ?_ _ | refine blk_drew ?_ | refine blk_alloc ?_ _)); refine blk_put (cs := #[.int .u64 t209, .int .u64 t210, .int .u64 t211, .bool t212, .int .u64 t213, .int .u64 t214, .int .u64 t215, .int .u64 0]) ?_ 7 _ rfl; (with_reducible repeat (first | refine blk_drewN ?_ _ | refine blk_drew ?_ | refine blk_alloc ?_ _)); refine blk_put (cs := #[.int .u64 t209, .int .u64 t210, .int .u64 t211, .bool t212, .int .u64 t213, .int .u64 t214, .int .u64 0, .int .u64 0]) ?_ 6 _ rfl; (with_reducible repeat (first | refine blk_drewN ?_ _ | refine blk_drew ?_ | refine blk_alloc ?_ _)); refine blk_put (cs := #[.int .u64 t209, .int .u64 t210, .int .u64 t211, .bool t212, .int .u64 t213, .int .u64 0, .int .u64 0, .int .u64 0]) ?_ 5 _ rfl; (with_reducible repeat (first | refine blk_drewN ?_ _ | refine blk_drew ?_ | refine blk_alloc ?_ _)); refine blk_put (cs := #[.int .u64 t209, .int .u64 t210, .int .u64 t211, .bool t212, .int .u64 0, .int .u64 0, .int .u64 0, .int .u64 0]) ?_ 4 _ rfl; (with_reducible repeat (first | refine blk_drewN ?_ _ | refine blk_drew ?_ | refine blk_alloc ?_ _)); refine blk_put (cs := #[.int .u64 t209, .int .u64 t210, .int .u64 t211, .bool false, .int .u64 0, .int .u64 0, .int .u64 0, .int .u64 0]) ?_ 3 _ rfl; (with_reducible repeat (first | refine blk_drewN ?_ _ | refine blk_drew ?_ | refine blk_alloc ?_ _)); refine blk_put (cs := #[.int .u64 t209, .int .u64 t210, .int .u64 0, .bool false, .int .u64 0, .int .u64 0, .int .u64 0, .int .u64 0]) ?_ 2 _ rfl; (with_reducible repeat (first | refine blk_drewN ?_ _ | refine blk_drew ?_ | refine blk_alloc ?_ _)); refine blk_put (cs := #[.int .u64 t209, .int .u64 0, .int .u64 0, .bool false, .int .u64 0, .int .u64 0, .int .u64 0, .int .u64 0]) ?_ 1 _ rfl; (with_reducible repeat (first | refine blk_drewN ?_ _ | refine blk_drew ?_ | refine blk_alloc ?_ _)); refine blk_put (cs := #[.int .u64 0, .int .u64 0, .int .u64 0, .bool false, .int .u64 0, .int .u64 0, .int .u64 0, .int .u64 0]) ?_ 0 _ rfl; (with_reducible repeat (first | refine blk_drewN ?_ _ | refine blk_drew ?_ | refine blk_alloc ?_ _)); exact BK217.out)⟩
                  have n3_ : Aside0 (Below w.heap.size w w63) := ⟨by rw [← hW_]; exact (by repeat (first | (with_reducible first | exact HB.out | apply below_alloc | apply pw_below_drewN | apply below_drew1 | refine below_set ?_ GE198.out | refine below_set ?_ GE208.out | refine below_set ?_ GE217.out) | exact HB.out))⟩
                  (try clear BK198)
                  (try clear BK208)
                  (try clear BK217)
                  (try clear HB)
                  clear hW_
                  have BK198 := n0_
                  have BK208 := n1_
                  have BK217 := n2_
                  have HB := n3_
                  clear n0_ n1_ n2_ n3_
                  have n0_ := Aside0.mk (blk_drew BK198.out)
                  have n1_ := Aside0.mk (blk_drew BK208.out)
                  have n2_ := Aside0.mk (blk_drew BK217.out)
                  have n3_ := Aside0.mk (below_drew1 HB.out)
                  clear BK198
                  clear BK208
                  clear BK217
                  clear HB
                  have BK198 := n0_
                  have BK208 := n1_
                  have BK217 := n2_
                  have HB := n3_
                  clear n0_ n1_ n2_ n3_
                  refine start_ (n := 30) (S := fun w' => w'.cell? ⟨gb208, 0, none⟩ = some (.int .u64 t200) ∧ w'.cell? ⟨gb208, 1, none⟩ = some (.int .u64 t201) ∧ w'.cell? ⟨gb208, 2, none⟩ = some (.int .u64 t202) ∧ w'.cell? ⟨gb208, 3, none⟩ = some (.bool false) ∧ w'.cell? ⟨gb208, 4, none⟩ = some (.int .u64 t204) ∧ w'.cell? ⟨gb208, 5, none⟩ = some (.int .u64 t205) ∧ w'.cell? ⟨gb208, 6, none⟩ = some (.int .u64 t206) ∧ w'.cell? ⟨gb208, 7, none⟩ = some (.int .u64 t207) ∧ w'.cell? ⟨gb198, 0, none⟩ = some (.int .u64 a0_0) ∧ w'.cell? ⟨gb198, 1, none⟩ = some (.int .u64 a0_1) ∧ w'.cell? ⟨gb198, 2, none⟩ = some (.int .u64 a0_2) ∧ w'.cell? ⟨gb198, 3, none⟩ = some (.bool a0_3) ∧ w'.cell? ⟨gb198, 4, none⟩ = some (.int .u64 a0_4) ∧ w'.cell? ⟨gb198, 5, none⟩ = some (.int .u64 a0_5) ∧ w'.cell? ⟨gb198, 6, none⟩ = some (.int .u64 a0_6) ∧ w'.cell? ⟨gb198, 7, none⟩ = some (.int .u64 a0_7)) (ds := []) #[false, false, false, false, false, false, false, false, false, false, false, false, false, false, false, false, false, false, false, false, false, false, false, false, false, false, false, false, false, false] (by kernel_rfl) rfl rfl ⟨(blk_cell BK208.out 0).trans rfl, (blk_cell BK208.out 1).trans rfl, (blk_cell BK208.out 2).trans rfl, (blk_cell BK208.out 3).trans rfl, (blk_cell BK208.out 4).trans rfl, (blk_cell BK208.out 5).trans rfl, (blk_cell BK208.out 6).trans rfl, (blk_cell BK208.out 7).trans rfl, (blk_cell BK198.out 0).trans rfl, (blk_cell BK198.out 1).trans rfl, (blk_cell BK198.out 2).trans rfl, (blk_cell BK198.out 3).trans rfl, (blk_cell BK198.out 4).trans rfl, (blk_cell BK198.out 5).trans rfl, (blk_cell BK198.out 6).trans rfl, (blk_cell BK198.out 7).trans rfl⟩ (fun hHeld => ?_); refine with_tabW wigwaglaw12_CubicOnce.tab7 wigwaglaw12_CubicOnce.bits7 (fun HT_ HW_ => ?_)
                  generalize w63.drew = w64 at BK198 BK208 BK217 HB hHeld ⊢
                  refine pure_ (i := 1) (N := some 48) (v := ?_) (a' := ?_) #[false, true, false, false, false, false, false, false, false, false, false, false, false, false, false, false, false, false, false, false, false, false, false, false, false, false, false, false, false, false] rfl rfl (any_of HT_.out (by kernel_rfl)) (fun _ _ _ h => h) (Or.inl ⟨by rfl, ?_⟩) ?_ ?_
                  rotate_left
                  · intro w'
                    go_simp
                    with_reducible rfl
                  rotate_left
                  · simp only [Act.put, List.setIfInBounds_toArray, List.set_cons_zero, List.set_cons_succ, i64_w, i32_w]
                    rfl
                  refine pure_ (i := 2) (N := some 49) (v := ?_) (a' := ?_) #[false, true, true, false, false, false, false, false, false, false, false, false, false, false, false, false, false, false, false, false, false, false, false, false, false, false, false, false, false, false] rfl rfl (any_of HT_.out (by kernel_rfl)) (fun _ _ _ h => h) (Or.inl ⟨by rfl, ?_⟩) ?_ ?_
                  rotate_left
                  · intro w'
                    go_simp
                    with_reducible rfl
                  rotate_left
                  · simp only [Act.put, List.setIfInBounds_toArray, List.set_cons_zero, List.set_cons_succ, i64_w, i32_w]
                    rfl
                  refine pure_ (i := 3) (N := some 50) (v := ?_) (a' := ?_) #[false, true, true, true, false, false, false, false, false, false, false, false, false, false, false, false, false, false, false, false, false, false, false, false, false, false, false, false, false, false] rfl rfl (any_of HT_.out (by kernel_rfl)) (fun _ _ _ h => h) (Or.inl ⟨by rfl, ?_⟩) ?_ ?_
                  rotate_left
                  · intro w'
                    go_simp
                    with_reducible rfl
                  rotate_left
                  · simp only [Act.put, List.setIfInBounds_toArray, List.set_cons_zero, List.set_cons_succ, i64_w, i32_w]
                    rfl
                  refine pure_ (i := 4) (N := some 51) (v := ?_) (a' := ?_) #[false, true, true, true, true, false, false, false, false, false, false, false, false, false, false, false, false, false, false, false, false, false, false, false, false, false, false, false, false, false] rfl rfl (any_of HT_.out (by kernel_rfl)) (fun _ _ _ h => h) (Or.inl ⟨by rfl, ?_⟩) ?_ ?_
                  rotate_left
                  · intro w'
                    go_simp
                    with_reducible rfl
                  rotate_left
                  · simp only [Act.put, List.setIfInBounds_toArray, List.set_cons_zero, List.set_cons_succ, i64_w, i32_w]
                    rfl
                  refine take_ (i := 0) (N := some 47) (v := ?_) (a' := ?_) #[true, true, true, true, true, false, false, false, false, false, false, false, false, false, false, false, false, false, false, false, false, false, false, false, false, false, false, false, false, false] rfl rfl (take_ofW HT_.out HW_.out (by kernel_rfl)) (fun _ _ _ h => h) (Or.inl ⟨by rfl, ?_⟩) hHeld ?_ ?_
                  rotate_left
                  · rintro w' ⟨s0, s1, s2, s3, s4, s5, s6, s7, s8, s9, s10, s11, s12, s13, s14, s15⟩
                    go_simp
                    with_reducible rfl
                  rotate_left
                  · simp only [Act.put, List.setIfInBounds_toArray, List.set_cons_zero, List.set_cons_succ, i64_w, i32_w]
                    rfl
                  refine take_ (i := 6) (N := some 53) (v := ?_) (a' := ?_) #[true, true, true, true, true, false, true, false, false, false, false, false, false, false, false, false, false, false, false, false, false, false, false, false, false, false, false, false, false, false] rfl rfl (take_ofW HT_.out HW_.out (by kernel_rfl)) (fun _ _ _ h => h) (Or.inl ⟨by rfl, ?_⟩) hHeld ?_ ?_
                  rotate_left
                  · rintro w' ⟨s0, s1, s2, s3, s4, s5, s6, s7, s8, s9, s10, s11, s12, s13, s14, s15⟩
                    go_simp
                    with_reducible rfl
                  rotate_left
                  · simp only [Act.put, List.setIfInBounds_toArray, List.set_cons_zero, List.set_cons_succ, i64_w, i32_w]
                    rfl
                  refine one_ (i := 5) (N := some 52) #[true, true, true, true, true, true, true, false, false, false, false, false, false, false, false, false, false, false, false, false, false, false, false, false, false, false, false, false, false, false] rfl rfl (one_of HT_.out (by kernel_rfl)) (by decide) (fun K hK => ?_)
                  refine goes_ Try.func10 (by kernel_rfl) rfl #[.agg #[.int .u64 t200, .int .u64 t201, .int .u64 t202, .bool false, .int .u64 t204, .int .u64 t205, .int .u64 t206, .int .u64 t207], .int .u64 ji18, .int .u64 (IntKind.u64.wrap ((IntKind.u64.wrap (a2)) + 5))] (by rfl) rfl rfl (by (try simp only [List.map_toArray, List.map_cons, List.map_nil]); first | done | (simp only [hji18]; rfl) | rfl | (simp only [List.length_drop, List.length_take]; rfl)) ?_
                  with_reducible refine (cubic_Loss.calls t200 t201 t202 false t204 t205 t206 t207 ji18 (IntKind.u64.wrap ((IntKind.u64.wrap (a2)) + 5)) t218 t219 t220 t221 t222 t223 t224 t225 _ A20.out).mono ?_
                  rintro e w65 ⟨rfl, hb⟩
                  refine ⟨_, rfl, ?_⟩
                  have n0_ := Aside0.mk (blk_below (g := gb198) (o := .cells #[.int .u64 a0_0, .int .u64 a0_1, .int .u64 a0_2, .bool a0_3, .int .u64 a0_4, .int .u64 a0_5, .int .u64 a0_6, .int .u64 a0_7] 26 (0, 0)) (by (with_reducible repeat (first | refine blk_drewN ?_ _ | refine blk_drew ?_ | refine blk_alloc ?_ _)); exact BK198.out) hb)
                  have n1_ := Aside0.mk (blk_below (g := gb208) (o := .cells #[.int .u64 t200, .int .u64 t201, .int .u64 t202, .bool false, .int .u64 t204, .int .u64 t205, .int .u64 t206, .int .u64 t207] 26 (0, 0)) (by (with_reducible repeat (first | refine blk_drewN ?_ _ | refine blk_drew ?_ | refine blk_alloc ?_ _)); exact BK208.out) hb)
                  have n2_ := Aside0.mk (blk_below (g := gb217) (o := .cells #[.int .u64 t209, .int .u64 t210, .int .u64 t211, .bool t212, .int .u64 t213, .int .u64 t214, .int .u64 t215, .int .u64 t216] 26 (0, 0)) (by (with_reducible repeat (first | refine blk_drewN ?_ _ | refine blk_drew ?_ | refine blk_alloc ?_ _)); exact BK217.out) hb)
                  have n3_ := Aside0.mk (below_step (by repeat (first | (with_reducible first | exact HB.out | apply below_alloc | apply pw_below_drewN | apply below_drew1 | refine below_set ?_ GE198.out | refine below_set ?_ GE208.out | refine below_set ?_ GE217.out) | exact HB.out)) hb)
                  clear BK198
                  clear BK208
                  clear BK217
                  clear HB
                  have BK198 := n0_
                  have BK208 := n1_
                  have BK217 := n2_
                  have HB := n3_
                  clear n0_ n1_ n2_ n3_
                  (try clear hb)
                  (try clear hb2)
                  (try clear hk)
                  (try clear hi)
                  refine hK.out _ _ ⟨(blk_cell BK208.out 0).trans rfl, (blk_cell BK208.out 1).trans rfl, (blk_cell BK208.out 2).trans rfl, (blk_cell BK208.out 3).trans rfl, (blk_cell BK208.out 4).trans rfl, (blk_cell BK208.out 5).trans rfl, (blk_cell BK208.out 6).trans rfl, (blk_cell BK208.out 7).trans rfl, (blk_cell BK198.out 0).trans rfl, (blk_cell BK198.out 1).trans rfl, (blk_cell BK198.out 2).trans rfl, (blk_cell BK198.out 3).trans rfl, (blk_cell BK198.out 4).trans rfl, (blk_cell BK198.out 5).trans rfl, (blk_cell BK198.out 6).trans rfl, (blk_cell BK198.out 7).trans rfl⟩ (fun hHeld => ?_)
                  clear hK K
                  refine norm_ (a' := ?_) ?_ ?_
                  rotate_left
                  · show Act.put _ (some 52) _ = _
                    simp only [Act.put, List.setIfInBounds_toArray, List.set_cons_zero, List.set_cons_succ, i64_w, i32_w]
                    rfl
                  refine pure_ (i := 7) (N := some 54) (v := ?_) (a' := ?_) #[true, true, true, true, true, true, true, true, false, false, false, false, false, false, false, false, false, false, false, false, false, false, false, false, false, false, false, false, false, false] rfl rfl (any_of HT_.out (by kernel_rfl)) (fun _ _ _ h => h) (Or.inl ⟨by rfl, ?_⟩) ?_ ?_
                  rotate_left
                  · intro w'
                    go_simp
                    with_reducible rfl
                  rotate_left
                  · simp only [Act.put, List.setIfInBounds_toArray, List.set_cons_zero, List.set_cons_succ, i64_w, i32_w]
                    rfl
                  refine pure_ (i := 8) (N := some 55) (v := ?_) (a' := ?_) #[true, true, true, true, true, true, true, true, true, false, false, false, false, false, false, false, false, false, false, false, false, false, false, false, false, false, false, false, false, false] rfl rfl (any_of HT_.out (by kernel_rfl)) (fun _ _ _ h => h) (Or.inl ⟨by rfl, ?_⟩) ?_ ?_
                  rotate_left
                  · intro w'
                    go_simp
                    with_reducible rfl
                  rotate_left
                  · simp only [Act.put, List.setIfInBounds_toArray, List.set_cons_zero, List.set_cons_succ, i64_w, i32_w]
                    rfl
                  refine pure_ (i := 10) (N := some 57) (v := ?_) (a' := ?_) #[true, true, true, true, true, true, true, true, true, false, true, false, false, false, false, false, false, false, false, false, false, false, false, false, false, false, false, false, false, false] rfl rfl (any_of HT_.out (by kernel_rfl)) (fun _ _ _ h => h) (Or.inl ⟨by rfl, ?_⟩) ?_ ?_
                  rotate_left
                  · intro w'
                    go_simp
                    with_reducible rfl
                  rotate_left
                  · simp only [Act.put, List.setIfInBounds_toArray, List.set_cons_zero, List.set_cons_succ, i64_w, i32_w]
                    rfl
                  refine pure_ (i := 11) (N := some 58) (v := ?_) (a' := ?_) #[true, true, true, true, true, true, true, true, true, false, true, true, false, false, false, false, false, false, false, false, false, false, false, false, false, false, false, false, false, false] rfl rfl (any_of HT_.out (by kernel_rfl)) (fun _ _ _ h => h) (Or.inl ⟨by rfl, ?_⟩) ?_ ?_
                  rotate_left
                  · intro w'
                    go_simp
                    with_reducible rfl
                  rotate_left
                  · simp only [Act.put, List.setIfInBounds_toArray, List.set_cons_zero, List.set_cons_succ, i64_w, i32_w]
                    rfl
                  refine pure_ (i := 12) (N := some 59) (v := ?_) (a' := ?_) #[true, true, true, true, true, true, true, true, true, false, true, true, true, false, false, false, false, false, false, false, false, false, false, false, false, false, false, false, false, false] rfl rfl (any_of HT_.out (by kernel_rfl)) (fun _ _ _ h => h) (Or.inl ⟨by rfl, ?_⟩) ?_ ?_
                  rotate_left
                  · intro w'
                    go_simp
                    with_reducible rfl
                  rotate_left
                  · simp only [Act.put, List.setIfInBounds_toArray, List.set_cons_zero, List.set_cons_succ, i64_w, i32_w]
                    rfl
                  refine pure_ (i := 13) (N := some 60) (v := ?_) (a' := ?_) #[true, true, true, true, true, true, true, true, true, false, true, true, true, true, false, false, false, false, false, false, false, false, false, false, false, false, false, false, false, false] rfl rfl (any_of HT_.out (by kernel_rfl)) (fun _ _ _ h => h) (Or.inl ⟨by rfl, ?_⟩) ?_ ?_
                  rotate_left
                  · intro w'
                    go_simp
                    with_reducible rfl
                  rotate_left
                  · simp only [Act.put, List.setIfInBounds_toArray, List.set_cons_zero, List.set_cons_succ, i64_w, i32_w]
                    rfl
                  refine take_ (i := 9) (N := some 56) (v := ?_) (a' := ?_) #[true, true, true, true, true, true, true, true, true, true, true, true, true, true, false, false, false, false, false, false, false, false, false, false, false, false, false, false, false, false] rfl rfl (take_ofW HT_.out HW_.out (by kernel_rfl)) (fun _ _ _ h => h) (Or.inl ⟨by rfl, ?_⟩) hHeld ?_ ?_
                  rotate_left
                  · rintro w' ⟨s0, s1, s2, s3, s4, s5, s6, s7, s8, s9, s10, s11, s12, s13, s14, s15⟩
                    go_simp
                    with_reducible rfl
                  rotate_left
                  · simp only [Act.put, List.setIfInBounds_toArray, List.set_cons_zero, List.set_cons_succ, i64_w, i32_w]
                    rfl
                  refine take_ (i := 15) (N := some 62) (v := ?_) (a' := ?_) #[true, true, true, true, true, true, true, true, true, true, true, true, true, true, false, true, false, false, false, false, false, false, false, false, false, false, false, false, false, false] rfl rfl (take_ofW HT_.out HW_.out (by kernel_rfl)) (fun _ _ _ h => h) (Or.inl ⟨by rfl, ?_⟩) hHeld ?_ ?_
                  rotate_left
                  · rintro w' ⟨s0, s1, s2, s3, s4, s5, s6, s7, s8, s9, s10, s11, s12, s13, s14, s15⟩
                    go_simp
                    with_reducible rfl
                  rotate_left
                  · simp only [Act.put, List.setIfInBounds_toArray, List.set_cons_zero, List.set_cons_succ, i64_w, i32_w]
                    rfl
                  refine one_ (i := 14) (N := some 61) #[true, true, true, true, true, true, true, true, true, true, true, true, true, true, true, true, false, false, false, false, false, false, false, false, false, false, false, false, false, false] rfl rfl (one_of HT_.out (by kernel_rfl)) (by decide) (fun K hK => ?_)
                  refine goes_ Try.func9 (by kernel_rfl) rfl #[.agg #[.int .u64 t200, .int .u64 t201, .int .u64 t202, .bool false, .int .u64 t204, .int .u64 t205, .int .u64 t206, .int .u64 t207], .int .u64 a4, .int .u64 ji18, .int .u64 (IntKind.u64.wrap (a2)), .int .u64 5, .bool false] (by rfl) rfl rfl (by (try simp only [List.map_toArray, List.map_cons, List.map_nil]); first | done | (simp only [hji18]; rfl) | rfl | (simp only [List.length_drop, List.length_take]; rfl)) ?_
                  with_reducible refine (cubic_Ack.calls t200 t201 t202 false t204 t205 t206 t207 a4 ji18 (IntKind.u64.wrap (a2)) 5 false t226 t227 t228 t229 t230 t231 t232 t233 _ A22.out).mono ?_
                  rintro e w66 ⟨rfl, hb⟩
                  refine ⟨_, rfl, ?_⟩
                  have n0_ := Aside0.mk (blk_below (g := gb198) (o := .cells #[.int .u64 a0_0, .int .u64 a0_1, .int .u64 a0_2, .bool a0_3, .int .u64 a0_4, .int .u64 a0_5, .int .u64 a0_6, .int .u64 a0_7] 26 (0, 0)) (by (with_reducible repeat (first | refine blk_drewN ?_ _ | refine blk_drew ?_ | refine blk_alloc ?_ _)); exact BK198.out) hb)
                  have n1_ := Aside0.mk (blk_below (g := gb208) (o := .cells #[.int .u64 t200, .int .u64 t201, .int .u64 t202, .bool false, .int .u64 t204, .int .u64 t205, .int .u64 t206, .int .u64 t207] 26 (0, 0)) (by (with_reducible repeat (first | refine blk_drewN ?_ _ | refine blk_drew ?_ | refine blk_alloc ?_ _)); exact BK208.out) hb)
                  have n2_ := Aside0.mk (blk_below (g := gb217) (o := .cells #[.int .u64 t209, .int .u64 t210, .int .u64 t211, .bool t212, .int .u64 t213, .int .u64 t214, .int .u64 t215, .int .u64 t216] 26 (0, 0)) (by (with_reducible repeat (first | refine blk_drewN ?_ _ | refine blk_drew ?_ | refine blk_alloc ?_ _)); exact BK217.out) hb)
                  have n3_ := Aside0.mk (below_step (by repeat (first | (with_reducible first | exact HB.out | apply below_alloc | apply pw_below_drewN | apply below_drew1 | refine below_set ?_ GE198.out | refine below_set ?_ GE208.out | refine below_set ?_ GE217.out) | exact HB.out)) hb)
                  clear BK198
                  clear BK208
                  clear BK217
                  clear HB
                  have BK198 := n0_
                  have BK208 := n1_
                  have BK217 := n2_
                  have HB := n3_
                  clear n0_ n1_ n2_ n3_
                  (try clear hb)
                  (try clear hb2)
                  (try clear hk)
                  (try clear hi)
                  refine hK.out _ _ ⟨(blk_cell BK208.out 0).trans rfl, (blk_cell BK208.out 1).trans rfl, (blk_cell BK208.out 2).trans rfl, (blk_cell BK208.out 3).trans rfl, (blk_cell BK208.out 4).trans rfl, (blk_cell BK208.out 5).trans rfl, (blk_cell BK208.out 6).trans rfl, (blk_cell BK208.out 7).trans rfl, (blk_cell BK198.out 0).trans rfl, (blk_cell BK198.out 1).trans rfl, (blk_cell BK198.out 2).trans rfl, (blk_cell BK198.out 3).trans rfl, (blk_cell BK198.out 4).trans rfl, (blk_cell BK198.out 5).trans rfl, (blk_cell BK198.out 6).trans rfl, (blk_cell BK198.out 7).trans rfl⟩ (fun hHeld => ?_)
                  clear hK K
                  refine norm_ (a' := ?_) ?_ ?_
                  rotate_left
                  · show Act.put _ (some 61) _ = _
                    simp only [Act.put, List.setIfInBounds_toArray, List.set_cons_zero, List.set_cons_succ, i64_w, i32_w]
                    rfl
                  refine pure_ (i := 16) (N := some 63) (v := ?_) (a' := ?_) #[true, true, true, true, true, true, true, true, true, true, true, true, true, true, true, true, true, false, false, false, false, false, false, false, false, false, false, false, false, false] rfl rfl (any_of HT_.out (by kernel_rfl)) (fun _ _ _ h => h) (Or.inl ⟨by rfl, ?_⟩) ?_ ?_
                  rotate_left
                  · intro w'
                    go_simp
                    with_reducible rfl
                  rotate_left
                  · simp only [Act.put, List.setIfInBounds_toArray, List.set_cons_zero, List.set_cons_succ, i64_w, i32_w]
                    rfl
                  refine pure_ (i := 17) (N := some 64) (v := ?_) (a' := ?_) #[true, true, true, true, true, true, true, true, true, true, true, true, true, true, true, true, true, true, false, false, false, false, false, false, false, false, false, false, false, false] rfl rfl (any_of HT_.out (by kernel_rfl)) (fun _ _ _ h => h) (Or.inl ⟨by rfl, ?_⟩) ?_ ?_
                  rotate_left
                  · intro w'
                    go_simp
                    with_reducible rfl
                  rotate_left
                  · simp only [Act.put, List.setIfInBounds_toArray, List.set_cons_zero, List.set_cons_succ, i64_w, i32_w]
                    rfl
                  refine pure_ (i := 18) (N := some 65) (v := ?_) (a' := ?_) #[true, true, true, true, true, true, true, true, true, true, true, true, true, true, true, true, true, true, true, false, false, false, false, false, false, false, false, false, false, false] rfl rfl (any_of HT_.out (by kernel_rfl)) (fun _ _ _ h => h) (Or.inl ⟨by rfl, ?_⟩) ?_ ?_
                  rotate_left
                  · intro w'
                    go_simp
                    with_reducible rfl
                  rotate_left
                  · simp only [Act.put, List.setIfInBounds_toArray, List.set_cons_zero, List.set_cons_succ, i64_w, i32_w]
                    rfl
                  refine pure_ (i := 20) (N := some 67) (v := ?_) (a' := ?_) #[true, true, true, true, true, true, true, true, true, true, true, true, true, true, true, true, true, true, true, false, true, false, false, false, false, false, false, false, false, false] rfl rfl (any_of HT_.out (by kernel_rfl)) (fun _ _ _ h => h) (Or.inl ⟨by rfl, ?_⟩) ?_ ?_
                  rotate_left
                  · intro w'
                    go_simp
                    with_reducible rfl
                  rotate_left
                  · simp only [Act.put, List.setIfInBounds_toArray, List.set_cons_zero, List.set_cons_succ, i64_w, i32_w]
                    rfl
                  refine pure_ (i := 21) (N := some 68) (v := ?_) (a' := ?_) #[true, true, true, true, true, true, true, true, true, true, true, true, true, true, true, true, true, true, true, false, true, true, false, false, false, false, false, false, false, false] rfl rfl (any_of HT_.out (by kernel_rfl)) (fun _ _ _ h => h) (Or.inl ⟨by rfl, ?_⟩) ?_ ?_
                  rotate_left
                  · intro w'
                    go_simp
                    with_reducible rfl
                  rotate_left
                  · simp only [Act.put, List.setIfInBounds_toArray, List.set_cons_zero, List.set_cons_succ, i64_w, i32_w]
                    rfl
                  refine pure_ (i := 22) (N := some 69) (v := ?_) (a' := ?_) #[true, true, true, true, true, true, true, true, true, true, true, true, true, true, true, true, true, true, true, false, true, true, true, false, false, false, false, false, false, false] rfl rfl (any_of HT_.out (by kernel_rfl)) (fun _ _ _ h => h) (Or.inl ⟨by rfl, ?_⟩) ?_ ?_
                  rotate_left
                  · intro w'
                    go_simp
                    with_reducible rfl
                  rotate_left
                  · simp only [Act.put, List.setIfInBounds_toArray, List.set_cons_zero, List.set_cons_succ, i64_w, i32_w]
                    rfl
                  refine pure_ (i := 23) (N := some 70) (v := ?_) (a' := ?_) #[true, true, true, true, true, true, true, true, true, true, true, true, true, true, true, true, true, true, true, false, true, true, true, true, false, false, false, false, false, false] rfl rfl (any_of HT_.out (by kernel_rfl)) (fun _ _ _ h => h) (Or.inl ⟨by rfl, ?_⟩) ?_ ?_
                  rotate_left
                  · intro w'
                    go_simp
                    with_reducible rfl
                  rotate_left
                  · simp only [Act.put, List.setIfInBounds_toArray, List.set_cons_zero, List.set_cons_succ, i64_w, i32_w]
                    rfl
                  refine pure_ (i := 24) (N := some 71) (v := ?_) (a' := ?_) #[true, true, true, true, true, true, true, true, true, true, true, true, true, true, true, true, true, true, true, false, true, true, true, true, true, false, false, false, false, false] rfl rfl (any_of HT_.out (by kernel_rfl)) (fun _ _ _ h => h) (Or.inl ⟨by rfl, ?_⟩) ?_ ?_
                  rotate_left
                  · intro w'
                    go_simp
                    with_reducible rfl
                  rotate_left
                  · simp only [Act.put, List.setIfInBounds_toArray, List.set_cons_zero, List.set_cons_succ, i64_w, i32_w]
                    rfl
                  refine take_ (i := 19) (N := some 66) (v := ?_) (a' := ?_) #[true, true, true, true, true, true, true, true, true, true, true, true, true, true, true, true, true, true, true, true, true, true, true, true, true, false, false, false, false, false] rfl rfl (take_ofW HT_.out HW_.out (by kernel_rfl)) (fun _ _ _ h => h) (Or.inl ⟨by rfl, ?_⟩) hHeld ?_ ?_
                  rotate_left
                  · rintro w' ⟨s0, s1, s2, s3, s4, s5, s6, s7, s8, s9, s10, s11, s12, s13, s14, s15⟩
                    go_simp
                    with_reducible rfl
                  rotate_left
                  · simp only [Act.put, List.setIfInBounds_toArray, List.set_cons_zero, List.set_cons_succ, i64_w, i32_w]
                    rfl
                  refine take_ (i := 26) (N := some 73) (v := ?_) (a' := ?_) #[true, true, true, true, true, true, true, true, true, true, true, true, true, true, true, true, true, true, true, true, true, true, true, true, true, false, true, false, false, false] rfl rfl (take_ofW HT_.out HW_.out (by kernel_rfl)) (fun _ _ _ h => h) (Or.inl ⟨by rfl, ?_⟩) hHeld ?_ ?_
                  rotate_left
                  · rintro w' ⟨s0, s1, s2, s3, s4, s5, s6, s7, s8, s9, s10, s11, s12, s13, s14, s15⟩
                    go_simp
                    with_reducible rfl
                  rotate_left
                  · simp only [Act.put, List.setIfInBounds_toArray, List.set_cons_zero, List.set_cons_succ, i64_w, i32_w]
                    rfl
                  refine one_ (i := 25) (N := some 72) #[true, true, true, true, true, true, true, true, true, true, true, true, true, true, true, true, true, true, true, true, true, true, true, true, true, true, true, false, false, false] rfl rfl (one_of HT_.out (by kernel_rfl)) (by decide) (fun K hK => ?_)
                  refine goes_ Try.func9 (by kernel_rfl) rfl #[.agg #[.int .u64 a0_0, .int .u64 a0_1, .int .u64 a0_2, .bool a0_3, .int .u64 a0_4, .int .u64 a0_5, .int .u64 a0_6, .int .u64 a0_7], .int .u64 a4, .int .u64 (IntKind.u64.wrap (a1)), .int .u64 (IntKind.u64.wrap (a2)), .int .u64 5, .bool true] (by rfl) rfl rfl (by (try simp only [List.map_toArray, List.map_cons, List.map_nil]); first | done | rfl | (simp only [List.length_drop, List.length_take]; rfl)) ?_
                  with_reducible refine (cubic_Ack.calls a0_0 a0_1 a0_2 a0_3 a0_4 a0_5 a0_6 a0_7 a4 (IntKind.u64.wrap (a1)) (IntKind.u64.wrap (a2)) 5 true t234 t235 t236 t237 t238 t239 t240 t241 _ A24.out).mono ?_
                  rintro e w67 ⟨rfl, hb⟩
                  refine ⟨_, rfl, ?_⟩
                  have n0_ := Aside0.mk (blk_below (g := gb198) (o := .cells #[.int .u64 a0_0, .int .u64 a0_1, .int .u64 a0_2, .bool a0_3, .int .u64 a0_4, .int .u64 a0_5, .int .u64 a0_6, .int .u64 a0_7] 26 (0, 0)) (by (with_reducible repeat (first | refine blk_drewN ?_ _ | refine blk_drew ?_ | refine blk_alloc ?_ _)); exact BK198.out) hb)
                  have n1_ := Aside0.mk (blk_below (g := gb208) (o := .cells #[.int .u64 t200, .int .u64 t201, .int .u64 t202, .bool false, .int .u64 t204, .int .u64 t205, .int .u64 t206, .int .u64 t207] 26 (0, 0)) (by (with_reducible repeat (first | refine blk_drewN ?_ _ | refine blk_drew ?_ | refine blk_alloc ?_ _)); exact BK208.out) hb)
                  have n2_ := Aside0.mk (blk_below (g := gb217) (o := .cells #[.int .u64 t209, .int .u64 t210, .int .u64 t211, .bool t212, .int .u64 t213, .int .u64 t214, .int .u64 t215, .int .u64 t216] 26 (0, 0)) (by (with_reducible repeat (first | refine blk_drewN ?_ _ | refine blk_drew ?_ | refine blk_alloc ?_ _)); exact BK217.out) hb)
                  have n3_ := Aside0.mk (below_step (by repeat (first | (with_reducible first | exact HB.out | apply below_alloc | apply pw_below_drewN | apply below_drew1 | refine below_set ?_ GE198.out | refine below_set ?_ GE208.out | refine below_set ?_ GE217.out) | exact HB.out)) hb)
                  clear BK198
                  clear BK208
                  clear BK217
                  clear HB
                  have BK198 := n0_
                  have BK208 := n1_
                  have BK217 := n2_
                  have HB := n3_
                  clear n0_ n1_ n2_ n3_
                  (try clear hb)
                  (try clear hb2)
                  (try clear hk)
                  (try clear hi)
                  refine hK.out _ _ ⟨(blk_cell BK208.out 0).trans rfl, (blk_cell BK208.out 1).trans rfl, (blk_cell BK208.out 2).trans rfl, (blk_cell BK208.out 3).trans rfl, (blk_cell BK208.out 4).trans rfl, (blk_cell BK208.out 5).trans rfl, (blk_cell BK208.out 6).trans rfl, (blk_cell BK208.out 7).trans rfl, (blk_cell BK198.out 0).trans rfl, (blk_cell BK198.out 1).trans rfl, (blk_cell BK198.out 2).trans rfl, (blk_cell BK198.out 3).trans rfl, (blk_cell BK198.out 4).trans rfl, (blk_cell BK198.out 5).trans rfl, (blk_cell BK198.out 6).trans rfl, (blk_cell BK198.out 7).trans rfl⟩ (fun hHeld => ?_)
                  clear hK K
                  refine norm_ (a' := ?_) ?_ ?_
                  rotate_left
                  · show Act.put _ (some 72) _ = _
                    simp only [Act.put, List.setIfInBounds_toArray, List.set_cons_zero, List.set_cons_succ, i64_w, i32_w]
                    rfl
                  refine pure_ (i := 27) (N := some 74) (v := ?_) (a' := ?_) #[true, true, true, true, true, true, true, true, true, true, true, true, true, true, true, true, true, true, true, true, true, true, true, true, true, true, true, true, false, false] rfl rfl (any_of HT_.out (by kernel_rfl)) (fun _ _ _ h => h) (Or.inl ⟨by rfl, ?_⟩) ?_ ?_
                  rotate_left
                  · intro w'
                    go_simp
                    with_reducible rfl
                  rotate_left
                  · simp only [Act.put, List.setIfInBounds_toArray, List.set_cons_zero, List.set_cons_succ, i64_w, i32_w]
                    rfl
                  refine pure_ (i := 28) (N := some 75) (v := ?_) (a' := ?_) #[true, true, true, true, true, true, true, true, true, true, true, true, true, true, true, true, true, true, true, true, true, true, true, true, true, true, true, true, true, false] rfl rfl (any_of HT_.out (by kernel_rfl)) (fun _ _ _ h => h) (Or.inl ⟨by rfl, ?_⟩) ?_ ?_
                  rotate_left
                  · intro w'
                    go_simp
                    with_reducible rfl
                  rotate_left
                  · simp only [Act.put, List.setIfInBounds_toArray, List.set_cons_zero, List.set_cons_succ, i64_w, i32_w]
                    rfl
                  refine pure_ (i := 29) (N := some 15) (v := ?_) (a' := ?_) #[true, true, true, true, true, true, true, true, true, true, true, true, true, true, true, true, true, true, true, true, true, true, true, true, true, true, true, true, true, true] rfl rfl (any_of HT_.out (by kernel_rfl)) (fun _ _ _ h => h) (Or.inl ⟨by rfl, ?_⟩) ?_ ?_
                  rotate_left
                  · intro w'
                    go_simp
                    with_reducible rfl
                  rotate_left
                  · simp only [Act.put, List.setIfInBounds_toArray, List.set_cons_zero, List.set_cons_succ, i64_w, i32_w]
                    rfl
                  refine done_ (done_of HT_.out (by kernel_rfl)) ?_
                  have hcz68_0 : w67.cell? ⟨gb208, 0, none⟩ = some (.int .u64 t200) := (blk_cell BK208.out 0).trans rfl
                  have hcz68_1 : w67.cell? ⟨gb208, 1, none⟩ = some (.int .u64 t201) := (blk_cell BK208.out 1).trans rfl
                  have hcz68_2 : w67.cell? ⟨gb208, 2, none⟩ = some (.int .u64 t202) := (blk_cell BK208.out 2).trans rfl
                  have hcz68_3 : w67.cell? ⟨gb208, 3, none⟩ = some (.bool false) := (blk_cell BK208.out 3).trans rfl
                  have hcz68_4 : w67.cell? ⟨gb208, 4, none⟩ = some (.int .u64 t204) := (blk_cell BK208.out 4).trans rfl
                  have hcz68_5 : w67.cell? ⟨gb208, 5, none⟩ = some (.int .u64 t205) := (blk_cell BK208.out 5).trans rfl
                  have hcz68_6 : w67.cell? ⟨gb208, 6, none⟩ = some (.int .u64 t206) := (blk_cell BK208.out 6).trans rfl
                  have hcz68_7 : w67.cell? ⟨gb208, 7, none⟩ = some (.int .u64 t207) := (blk_cell BK208.out 7).trans rfl
                  have hfz68_0 := blk_frozen BK208.out 0
                  have hfz68_1 := blk_frozen BK208.out 1
                  have hfz68_2 := blk_frozen BK208.out 2
                  have hfz68_3 := blk_frozen BK208.out 3
                  have hfz68_4 := blk_frozen BK208.out 4
                  have hfz68_5 := blk_frozen BK208.out 5
                  have hfz68_6 := blk_frozen BK208.out 6
                  have hfz68_7 := blk_frozen BK208.out 7
                  have hcz69_0 : w67.cell? ⟨gb217, 0, none⟩ = some (.int .u64 t209) := (blk_cell BK217.out 0).trans rfl
                  have hcz69_1 : w67.cell? ⟨gb217, 1, none⟩ = some (.int .u64 t210) := (blk_cell BK217.out 1).trans rfl
                  have hcz69_2 : w67.cell? ⟨gb217, 2, none⟩ = some (.int .u64 t211) := (blk_cell BK217.out 2).trans rfl
                  have hcz69_3 : w67.cell? ⟨gb217, 3, none⟩ = some (.bool t212) := (blk_cell BK217.out 3).trans rfl
                  have hcz69_4 : w67.cell? ⟨gb217, 4, none⟩ = some (.int .u64 t213) := (blk_cell BK217.out 4).trans rfl
                  have hcz69_5 : w67.cell? ⟨gb217, 5, none⟩ = some (.int .u64 t214) := (blk_cell BK217.out 5).trans rfl
                  have hcz69_6 : w67.cell? ⟨gb217, 6, none⟩ = some (.int .u64 t215) := (blk_cell BK217.out 6).trans rfl
                  have hcz69_7 : w67.cell? ⟨gb217, 7, none⟩ = some (.int .u64 t216) := (blk_cell BK217.out 7).trans rfl
                  have hfz69_0 := blk_frozen BK217.out 0
                  have hfz69_1 := blk_frozen BK217.out 1
                  have hfz69_2 := blk_frozen BK217.out 2
                  have hfz69_3 := blk_frozen BK217.out 3
                  have hfz69_4 := blk_frozen BK217.out 4
                  have hfz69_5 := blk_frozen BK217.out 5
                  have hfz69_6 := blk_frozen BK217.out 6
                  have hfz69_7 := blk_frozen BK217.out 7
                  try go_wp2
                  go_ret
                  exact ⟨by first | rfl | (simp [errW_none, errW_some] <;> rfl) | (simp only [← hji18]; first | rfl | (simp [errW_none, errW_some] <;> rfl)) | (simp [*, errW_none, errW_some] <;> rfl), by repeat (first | (with_reducible first | exact HB.out | apply below_alloc | apply pw_below_drewN | apply below_drew1 | refine below_set ?_ GE198.out | refine below_set ?_ GE208.out | refine below_set ?_ GE217.out) | exact HB.out)⟩
            · rw [if_neg c27] at H
              exact absurd H (by simp)
          · rw [if_neg c26] at H
            exact absurd H (by simp)
        · replace c25 := Bool.eq_false_iff.mpr c25
          subst c25
          have H1 : (none) = some r := by rw [if_neg (show ¬ (false = true) by decide)] at H; exact H
          clear H
          have H := H1
          clear H1
          exact absurd H (by simp)
      · rw [if_neg c23] at H
        have c23b0 : (t226 == t200 && (t227 == t201 && (t228 == t202 && (t229 == t203 && (t230 == t204 && (t231 == t205 && (t232 == t206 && (t233 == t207)))))))) = false := by simpa using c23
        (try (have c23b1 : decide (t226 = t200 && (t227 == t201 && (t228 == t202 && (t229 == t203 && (t230 == t204 && (t231 == t205 && (t232 == t206 && (t233 == t207)))))))) = false := by simpa using c23))
        (try (have c23b2 : (t226 == t200 && (t227 == t201 && (t228 == t202 && (t229 == t203 && (t230 == t204 && (t231 == t205 && (t232 == t206 && (t233 == t207)))))))) = false := by simpa using c23))
        (try (have c23b3 : ¬ (t226 = t200 && (t227 == t201 && (t228 == t202 && (t229 == t203 && (t230 == t204 && (t231 == t205 && (t232 == t206 && (t233 == t207)))))))) := by simpa using c23))
        clear c23
        exact absurd H (by simp)
    · rw [if_neg c21] at H
      have c21b0 : (t218 == t200 && (t219 == t201 && (t220 == t202 && (t221 == t203 && (t222 == t204 && (t223 == t205 && (t224 == t206 && (t225 == t207)))))))) = false := by simpa using c21
      (try (have c21b1 : decide (t218 = t200 && (t219 == t201 && (t220 == t202 && (t221 == t203 && (t222 == t204 && (t223 == t205 && (t224 == t206 && (t225 == t207)))))))) = false := by simpa using c21))
      (try (have c21b2 : (t218 == t200 && (t219 == t201 && (t220 == t202 && (t221 == t203 && (t222 == t204 && (t223 == t205 && (t224 == t206 && (t225 == t207)))))))) = false := by simpa using c21))
      (try (have c21b3 : ¬ (t218 = t200 && (t219 == t201 && (t220 == t202 && (t221 == t203 && (t222 == t204 && (t223 == t205 && (t224 == t206 && (t225 == t207)))))))) := by simpa using c21))
      clear c21
      exact absurd H (by simp)

/-- THE ONE PURE STATEMENT of wigwaglaw12_CubicOnce: yours. -/
def wigwaglaw12_CubicOnce.Pure : Prop := ∀ (a0_0 : Int) (a0_1 : Int) (a0_2 : Int) (a0_3 : Bool) (a0_4 : Int) (a0_5 : Int) (a0_6 : Int) (a0_7 : Int) (a1 : Int) (a2 : Int) (a3 : Int) (a4 : Int), (Lit.int .u64 a0_0).wf = true → (Lit.int .u64 a0_1).wf = true → (Lit.int .u64 a0_2).wf = true → (Lit.int .u64 a0_4).wf = true → (Lit.int .u64 a0_5).wf = true → (Lit.int .u64 a0_6).wf = true → (Lit.int .u64 a0_7).wf = true → (Lit.int .u32 a1).wf = true → (Lit.int .u32 a2).wf = true → (Lit.int .u32 a3).wf = true → (Lit.int .u64 a4).wf = true → wigwaglaw12_CubicOnce.f a0_0 a0_1 a0_2 a0_3 a0_4 a0_5 a0_6 a0_7 a1 a2 a3 a4 = some true
theorem wigwaglaw12_CubicOnce.walk (P : wigwaglaw12_CubicOnce.Pure) (a0_0 : Int) (a0_1 : Int) (a0_2 : Int) (a0_3 : Bool) (a0_4 : Int) (a0_5 : Int) (a0_6 : Int) (a0_7 : Int) (a1 : Int) (a2 : Int) (a3 : Int) (a4 : Int) (w : World) (w0_0 : (Lit.int .u64 a0_0).wf = true) (w0_1 : (Lit.int .u64 a0_1).wf = true) (w0_2 : (Lit.int .u64 a0_2).wf = true) (w0_4 : (Lit.int .u64 a0_4).wf = true) (w0_5 : (Lit.int .u64 a0_5).wf = true) (w0_6 : (Lit.int .u64 a0_6).wf = true) (w0_7 : (Lit.int .u64 a0_7).wf = true) (w1 : (Lit.int .u32 a1).wf = true) (w2 : (Lit.int .u32 a2).wf = true) (w3 : (Lit.int .u32 a3).wf = true) (w4 : (Lit.int .u64 a4).wf = true) :
    Calls Try.prog 5 #[.agg #[.int .u64 a0_0, .int .u64 a0_1, .int .u64 a0_2, .bool a0_3, .int .u64 a0_4, .int .u64 a0_5, .int .u64 a0_6, .int .u64 a0_7], .int .u32 a1, .int .u32 a2, .int .u32 a3, .int .u64 a4] w fun e w' => e = .returned (.bool true) ∧ Below w.heap.size w w' := by
  have h := P a0_0 a0_1 a0_2 a0_3 a0_4 a0_5 a0_6 a0_7 a1 a2 a3 a4 w0_0 w0_1 w0_2 w0_4 w0_5 w0_6 w0_7 w1 w2 w3 w4
  refine (wigwaglaw12_CubicOnce.calls a0_0 a0_1 a0_2 a0_3 a0_4 a0_5 a0_6 a0_7 a1 a2 a3 a4 true w h).mono ?_
  rintro e w' ⟨rfl, hd⟩
  exact ⟨rfl, hd⟩

end Go.Proofs.Ytjjemhcddjgdaaa.PCub
