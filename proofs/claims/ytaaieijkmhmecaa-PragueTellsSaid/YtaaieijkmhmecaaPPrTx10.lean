-- Written by a program of this session (wip/tools/xprint.py) for this claim.
import Derived.Test.YtaaieijkmhmecaaPPrTx0
import Derived.Test.YtaaieijkmhmecaaPPrTx2
import Derived.Test.YtaaieijkmhmecaaPPrTx5
import Derived.Test.YtaaieijkmhmecaaPPrTx6
import Derived.Test.YtaaieijkmhmecaaPPrTx9
namespace Go.Proofs.Ytaaieijkmhmecaa.PPrT
open Go.RowKit Go.Proofs.YtaaieijkmhmecaaW.PrintWords Go.Proofs.YtaaieijkmhmecaaW.PrintLast Go.Proofs.YtaaieijkmhmecaaW.PrintMore
attribute [local go_sem] max2_int min2_int max_two min_two max_three min_three max_four min_four   -- for this text's walks alone
set_option linter.unusedVariables false
set_option linter.unusedSimpArgs false

attribute [local go_sem high] eqA26
/-! ### wigwaglaw14_PragueTells: function 5 -/
def wigwaglaw14_PragueTells.f (a0_0 : Int) (a0_1 : Int) (a0_2 : Int) (a0_3 : Int) (a0_4 : Int) (a0_5 : Int) (a0_6 : Int) (a0_7 : Int) (a0_8 : Bool) (a1_0 : Int) (a1_1 : Int) (a1_2 : Int) (a1_3 : Int) (a1_4 : Int) (a1_5 : Int) (a1_6 : Int) (a1_7 : Int) (a1_8 : Bool) (a1_9 : Bool) (a2 : Int) (a3 : Int) (a4 : Int) : Option (Bool) := (wigwaglaw14_awake.f).bind fun t233 => ((prague_Ack.f a0_0 a0_1 a0_2 a0_3 a0_4 a0_5 a0_6 a0_7 a0_8 a1_0 a1_1 a1_2 a1_3 a1_4 a1_5 a1_6 a1_7 a1_8 a1_9).bind fun bt234 => ((wigwagref14_Ack.f a0_0 a0_1 a0_2 a0_3 a0_4 a0_5 a0_6 a0_7 a0_8 a1_0 a1_1 a1_2 a1_3 a1_4 a1_5 a1_6 a1_7 a1_8 a1_9).bind fun bt243 => (if ((bt234.1 == bt243.1 && (bt234.2.1 == bt243.2.1 && (bt234.2.2.1 == bt243.2.2.1 && (bt234.2.2.2.1 == bt243.2.2.2.1)))) && (bt234.2.2.2.2.1 == bt243.2.2.2.2.1 && (bt234.2.2.2.2.2.1 == bt243.2.2.2.2.2.1 && (bt234.2.2.2.2.2.2.1 == bt243.2.2.2.2.2.2.1 && (bt234.2.2.2.2.2.2.2.1 == bt243.2.2.2.2.2.2.2.1 && (bt234.2.2.2.2.2.2.2.2 == bt243.2.2.2.2.2.2.2.2)))))) = true then ((prague_Mark.f a0_0 a0_1 a0_2 a0_3 a0_4 a0_5 a0_6 a0_7 a0_8 a2 a3).bind fun bt252 => ((wigwagref14_Mark.f a0_0 a0_1 a0_2 a0_3 a0_4 a0_5 a0_6 a0_7 a0_8 a2 a3).bind fun bt261 => (if t233 = true then (if ((bt252.1 == bt261.1 && (bt252.2.1 == bt261.2.1 && (bt252.2.2.1 == bt261.2.2.1 && (bt252.2.2.2.1 == bt261.2.2.2.1)))) && (bt252.2.2.2.2.1 == bt261.2.2.2.2.1 && (bt252.2.2.2.2.2.1 == bt261.2.2.2.2.2.1 && (bt252.2.2.2.2.2.2.1 == bt261.2.2.2.2.2.2.1 && (bt252.2.2.2.2.2.2.2.1 == bt261.2.2.2.2.2.2.2.1 && (bt252.2.2.2.2.2.2.2.2 == bt261.2.2.2.2.2.2.2.2)))))) = true then ((prague_Loss.f a0_0 a0_1 a0_2 a0_3 a0_4 a0_5 a0_6 a0_7 a0_8 a3 a4).bind fun bt270 => ((wigwagref14_Loss.f a0_0 a0_1 a0_2 a0_3 a0_4 a0_5 a0_6 a0_7 a0_8 a3 a4).bind fun bt279 => (if ((bt270.1 == bt279.1 && (bt270.2.1 == bt279.2.1 && (bt270.2.2.1 == bt279.2.2.1 && (bt270.2.2.2.1 == bt279.2.2.2.1)))) && (bt270.2.2.2.2.1 == bt279.2.2.2.2.1 && (bt270.2.2.2.2.2.1 == bt279.2.2.2.2.2.1 && (bt270.2.2.2.2.2.2.1 == bt279.2.2.2.2.2.2.1 && (bt270.2.2.2.2.2.2.2.1 == bt279.2.2.2.2.2.2.2.1 && (bt270.2.2.2.2.2.2.2.2 == bt279.2.2.2.2.2.2.2.2)))))) = true then ((prague_Collapse.f a0_0 a0_1 a0_2 a0_3 a0_4 a0_5 a0_6 a0_7 a0_8).bind fun bt288 => ((wigwagref14_Collapse.f a0_0 a0_1 a0_2 a0_3 a0_4 a0_5 a0_6 a0_7 a0_8).bind fun bt297 => (if ((bt288.1 == bt297.1 && (bt288.2.1 == bt297.2.1 && (bt288.2.2.1 == bt297.2.2.1 && (bt288.2.2.2.1 == bt297.2.2.2.1)))) && (bt288.2.2.2.2.1 == bt297.2.2.2.2.1 && (bt288.2.2.2.2.2.1 == bt297.2.2.2.2.2.1 && (bt288.2.2.2.2.2.2.1 == bt297.2.2.2.2.2.2.1 && (bt288.2.2.2.2.2.2.2.1 == bt297.2.2.2.2.2.2.2.1 && (bt288.2.2.2.2.2.2.2.2 == bt297.2.2.2.2.2.2.2.2)))))) = true then ((prague_New.f a3).bind fun bt306 => ((wigwagref14_New.f a3).bind fun bt315 => (some ((bt306.1 == bt315.1 && (bt306.2.1 == bt315.2.1 && (bt306.2.2.1 == bt315.2.2.1 && (bt306.2.2.2.1 == bt315.2.2.2.1)))) && (bt306.2.2.2.2.1 == bt315.2.2.2.2.1 && (bt306.2.2.2.2.2.1 == bt315.2.2.2.2.2.1 && (bt306.2.2.2.2.2.2.1 == bt315.2.2.2.2.2.2.1 && (bt306.2.2.2.2.2.2.2.1 == bt315.2.2.2.2.2.2.2.1 && (bt306.2.2.2.2.2.2.2.2 == bt315.2.2.2.2.2.2.2.2))))))))) else (none)))) else (none)))) else (none)) else (none)))) else (if t233 = true then (none) else (none)))))
def wigwaglaw14_PragueTells.T2 : Bool × List (List Nat × List Nat) := (true, [([], []), ([], []), ([0, 1], [0, 1]), ([], []), ([], []), ([3, 4, 2], [3, 4]), ([2, 5], [2, 5]), ([6, 5], [6]), ([7], [7]), ([7], [7]), ([7], [7]), ([8, 9, 10, 7, 7], [7, 8, 9, 10]), ([7], [7]), ([7], [7]), ([7], [7]), ([12, 13, 14, 11, 7], [7, 12, 13, 14]), ([11, 15, 7], [7, 11, 15]), ([7, 16], [7, 16]), ([17, 15, 0, 1, 2, 3, 4, 5, 6, 7, 8, 9, 10, 11, 12, 13, 14, 15, 16, 17], [17])])
def wigwaglaw14_PragueTells.B2 : List Nat := [0, 0, 3, 0, 0, 31, 63, 127, 255, 255, 255, 2047, 255, 255, 255, 32767, 65535, 131071, 262143]
theorem wigwaglaw14_PragueTells.tab2 : rtab .any (opsOf Try.f5 2) = wigwaglaw14_PragueTells.T2 := by kernel_rfl
theorem wigwaglaw14_PragueTells.bits2 : waitsOk wigwaglaw14_PragueTells.T2.2 wigwaglaw14_PragueTells.B2 = true := by kernel_rfl
def wigwaglaw14_PragueTells.T3 : Bool × List (List Nat × List Nat) := (true, [([], []), ([0], [0]), ([1], [1]), ([1, 2], [1, 2]), ([3, 1], [3]), ([4], [4]), ([4], [4]), ([4], [4]), ([5, 6, 7, 4, 4], [4, 5, 6, 7]), ([4], [4]), ([4], [4]), ([4], [4]), ([9, 10, 11, 8, 4], [4, 9, 10, 11]), ([8, 12, 4], [4, 8, 12]), ([4, 13], [4, 13]), ([14, 12], [14]), ([15], [15]), ([16, 15, 15], [15, 16]), ([15], [15]), ([18, 17, 15], [15, 18]), ([17, 19, 15], [15, 17, 19]), ([15, 20], [15, 20]), ([21, 19], [21]), ([22], [22]), ([23, 22, 22], [22, 23]), ([22], [22]), ([25, 24, 22], [22, 25]), ([24, 26, 22], [22, 24, 26]), ([22, 27], [22, 27]), ([28, 26, 0, 1, 2, 3, 4, 5, 6, 7, 8, 9, 10, 11, 12, 13, 14, 15, 16, 17, 18, 19, 20, 21, 22, 23, 24, 25, 26, 27, 28], [28])])
def wigwaglaw14_PragueTells.B3 : List Nat := [0, 1, 3, 7, 15, 31, 31, 31, 255, 31, 31, 31, 4095, 8191, 16383, 32767, 65535, 131071, 65535, 524287, 1048575, 2097151, 4194303, 8388607, 16777215, 8388607, 67108863, 134217727, 268435455, 536870911]
theorem wigwaglaw14_PragueTells.tab3 : rtab .any (opsOf Try.f5 3) = wigwaglaw14_PragueTells.T3 := by kernel_rfl
theorem wigwaglaw14_PragueTells.bits3 : waitsOk wigwaglaw14_PragueTells.T3.2 wigwaglaw14_PragueTells.B3 = true := by kernel_rfl
set_option maxHeartbeats 8000000 in
set_option maxRecDepth 100000 in
theorem wigwaglaw14_PragueTells.calls (a0_0 : Int) (a0_1 : Int) (a0_2 : Int) (a0_3 : Int) (a0_4 : Int) (a0_5 : Int) (a0_6 : Int) (a0_7 : Int) (a0_8 : Bool) (a1_0 : Int) (a1_1 : Int) (a1_2 : Int) (a1_3 : Int) (a1_4 : Int) (a1_5 : Int) (a1_6 : Int) (a1_7 : Int) (a1_8 : Bool) (a1_9 : Bool) (a2 : Int) (a3 : Int) (a4 : Int) (r : Bool) (w : World) (h : wigwaglaw14_PragueTells.f a0_0 a0_1 a0_2 a0_3 a0_4 a0_5 a0_6 a0_7 a0_8 a1_0 a1_1 a1_2 a1_3 a1_4 a1_5 a1_6 a1_7 a1_8 a1_9 a2 a3 a4 = some r) :
    Calls Try.prog 5 #[.agg #[.int .u64 a0_0, .int .u64 a0_1, .int .u64 a0_2, .int .u64 a0_3, .int .u64 a0_4, .int .u64 a0_5, .int .u64 a0_6, .int .u64 a0_7, .bool a0_8], .agg #[.int .u64 a1_0, .int .u64 a1_1, .int .u64 a1_2, .int .u64 a1_3, .int .u64 a1_4, .int .u64 a1_5, .int .u64 a1_6, .int .u64 a1_7, .bool a1_8, .bool a1_9], .int .u64 a2, .int .u64 a3, .int .u64 a4] w fun e w' => e = .returned (.bool r) ∧ Below w.heap.size w w' := by
  have hu26 := Try.underlying26
  have hu32 := Try.underlying32
  have HB := Aside0.mk (Below.refl w.heap.size w)
  have H : ((wigwaglaw14_awake.f).bind fun t233 => ((prague_Ack.f a0_0 a0_1 a0_2 a0_3 a0_4 a0_5 a0_6 a0_7 a0_8 a1_0 a1_1 a1_2 a1_3 a1_4 a1_5 a1_6 a1_7 a1_8 a1_9).bind fun bt234 => ((wigwagref14_Ack.f a0_0 a0_1 a0_2 a0_3 a0_4 a0_5 a0_6 a0_7 a0_8 a1_0 a1_1 a1_2 a1_3 a1_4 a1_5 a1_6 a1_7 a1_8 a1_9).bind fun bt243 => (if ((bt234.1 == bt243.1 && (bt234.2.1 == bt243.2.1 && (bt234.2.2.1 == bt243.2.2.1 && (bt234.2.2.2.1 == bt243.2.2.2.1)))) && (bt234.2.2.2.2.1 == bt243.2.2.2.2.1 && (bt234.2.2.2.2.2.1 == bt243.2.2.2.2.2.1 && (bt234.2.2.2.2.2.2.1 == bt243.2.2.2.2.2.2.1 && (bt234.2.2.2.2.2.2.2.1 == bt243.2.2.2.2.2.2.2.1 && (bt234.2.2.2.2.2.2.2.2 == bt243.2.2.2.2.2.2.2.2)))))) = true then ((prague_Mark.f a0_0 a0_1 a0_2 a0_3 a0_4 a0_5 a0_6 a0_7 a0_8 a2 a3).bind fun bt252 => ((wigwagref14_Mark.f a0_0 a0_1 a0_2 a0_3 a0_4 a0_5 a0_6 a0_7 a0_8 a2 a3).bind fun bt261 => (if t233 = true then (if ((bt252.1 == bt261.1 && (bt252.2.1 == bt261.2.1 && (bt252.2.2.1 == bt261.2.2.1 && (bt252.2.2.2.1 == bt261.2.2.2.1)))) && (bt252.2.2.2.2.1 == bt261.2.2.2.2.1 && (bt252.2.2.2.2.2.1 == bt261.2.2.2.2.2.1 && (bt252.2.2.2.2.2.2.1 == bt261.2.2.2.2.2.2.1 && (bt252.2.2.2.2.2.2.2.1 == bt261.2.2.2.2.2.2.2.1 && (bt252.2.2.2.2.2.2.2.2 == bt261.2.2.2.2.2.2.2.2)))))) = true then ((prague_Loss.f a0_0 a0_1 a0_2 a0_3 a0_4 a0_5 a0_6 a0_7 a0_8 a3 a4).bind fun bt270 => ((wigwagref14_Loss.f a0_0 a0_1 a0_2 a0_3 a0_4 a0_5 a0_6 a0_7 a0_8 a3 a4).bind fun bt279 => (if ((bt270.1 == bt279.1 && (bt270.2.1 == bt279.2.1 && (bt270.2.2.1 == bt279.2.2.1 && (bt270.2.2.2.1 == bt279.2.2.2.1)))) && (bt270.2.2.2.2.1 == bt279.2.2.2.2.1 && (bt270.2.2.2.2.2.1 == bt279.2.2.2.2.2.1 && (bt270.2.2.2.2.2.2.1 == bt279.2.2.2.2.2.2.1 && (bt270.2.2.2.2.2.2.2.1 == bt279.2.2.2.2.2.2.2.1 && (bt270.2.2.2.2.2.2.2.2 == bt279.2.2.2.2.2.2.2.2)))))) = true then ((prague_Collapse.f a0_0 a0_1 a0_2 a0_3 a0_4 a0_5 a0_6 a0_7 a0_8).bind fun bt288 => ((wigwagref14_Collapse.f a0_0 a0_1 a0_2 a0_3 a0_4 a0_5 a0_6 a0_7 a0_8).bind fun bt297 => (if ((bt288.1 == bt297.1 && (bt288.2.1 == bt297.2.1 && (bt288.2.2.1 == bt297.2.2.1 && (bt288.2.2.2.1 == bt297.2.2.2.1)))) && (bt288.2.2.2.2.1 == bt297.2.2.2.2.1 && (bt288.2.2.2.2.2.1 == bt297.2.2.2.2.2.1 && (bt288.2.2.2.2.2.2.1 == bt297.2.2.2.2.2.2.1 && (bt288.2.2.2.2.2.2.2.1 == bt297.2.2.2.2.2.2.2.1 && (bt288.2.2.2.2.2.2.2.2 == bt297.2.2.2.2.2.2.2.2)))))) = true then ((prague_New.f a3).bind fun bt306 => ((wigwagref14_New.f a3).bind fun bt315 => (some ((bt306.1 == bt315.1 && (bt306.2.1 == bt315.2.1 && (bt306.2.2.1 == bt315.2.2.1 && (bt306.2.2.2.1 == bt315.2.2.2.1)))) && (bt306.2.2.2.2.1 == bt315.2.2.2.2.1 && (bt306.2.2.2.2.2.1 == bt315.2.2.2.2.2.1 && (bt306.2.2.2.2.2.2.1 == bt315.2.2.2.2.2.2.1 && (bt306.2.2.2.2.2.2.2.1 == bt315.2.2.2.2.2.2.2.1 && (bt306.2.2.2.2.2.2.2.2 == bt315.2.2.2.2.2.2.2.2))))))))) else (none)))) else (none)))) else (none)) else (none)))) else (if t233 = true then (none) else (none)))))) = some r := h
  clear h
  replace H := Option.bind_eq_some_iff.mp H
  obtain ⟨t233, A60, H⟩ := H
  replace H : ((prague_Ack.f a0_0 a0_1 a0_2 a0_3 a0_4 a0_5 a0_6 a0_7 a0_8 a1_0 a1_1 a1_2 a1_3 a1_4 a1_5 a1_6 a1_7 a1_8 a1_9).bind fun bt234 => ((wigwagref14_Ack.f a0_0 a0_1 a0_2 a0_3 a0_4 a0_5 a0_6 a0_7 a0_8 a1_0 a1_1 a1_2 a1_3 a1_4 a1_5 a1_6 a1_7 a1_8 a1_9).bind fun bt243 => (if ((bt234.1 == bt243.1 && (bt234.2.1 == bt243.2.1 && (bt234.2.2.1 == bt243.2.2.1 && (bt234.2.2.2.1 == bt243.2.2.2.1)))) && (bt234.2.2.2.2.1 == bt243.2.2.2.2.1 && (bt234.2.2.2.2.2.1 == bt243.2.2.2.2.2.1 && (bt234.2.2.2.2.2.2.1 == bt243.2.2.2.2.2.2.1 && (bt234.2.2.2.2.2.2.2.1 == bt243.2.2.2.2.2.2.2.1 && (bt234.2.2.2.2.2.2.2.2 == bt243.2.2.2.2.2.2.2.2)))))) = true then ((prague_Mark.f a0_0 a0_1 a0_2 a0_3 a0_4 a0_5 a0_6 a0_7 a0_8 a2 a3).bind fun bt252 => ((wigwagref14_Mark.f a0_0 a0_1 a0_2 a0_3 a0_4 a0_5 a0_6 a0_7 a0_8 a2 a3).bind fun bt261 => (if t233 = true then (if ((bt252.1 == bt261.1 && (bt252.2.1 == bt261.2.1 && (bt252.2.2.1 == bt261.2.2.1 && (bt252.2.2.2.1 == bt261.2.2.2.1)))) && (bt252.2.2.2.2.1 == bt261.2.2.2.2.1 && (bt252.2.2.2.2.2.1 == bt261.2.2.2.2.2.1 && (bt252.2.2.2.2.2.2.1 == bt261.2.2.2.2.2.2.1 && (bt252.2.2.2.2.2.2.2.1 == bt261.2.2.2.2.2.2.2.1 && (bt252.2.2.2.2.2.2.2.2 == bt261.2.2.2.2.2.2.2.2)))))) = true then ((prague_Loss.f a0_0 a0_1 a0_2 a0_3 a0_4 a0_5 a0_6 a0_7 a0_8 a3 a4).bind fun bt270 => ((wigwagref14_Loss.f a0_0 a0_1 a0_2 a0_3 a0_4 a0_5 a0_6 a0_7 a0_8 a3 a4).bind fun bt279 => (if ((bt270.1 == bt279.1 && (bt270.2.1 == bt279.2.1 && (bt270.2.2.1 == bt279.2.2.1 && (bt270.2.2.2.1 == bt279.2.2.2.1)))) && (bt270.2.2.2.2.1 == bt279.2.2.2.2.1 && (bt270.2.2.2.2.2.1 == bt279.2.2.2.2.2.1 && (bt270.2.2.2.2.2.2.1 == bt279.2.2.2.2.2.2.1 && (bt270.2.2.2.2.2.2.2.1 == bt279.2.2.2.2.2.2.2.1 && (bt270.2.2.2.2.2.2.2.2 == bt279.2.2.2.2.2.2.2.2)))))) = true then ((prague_Collapse.f a0_0 a0_1 a0_2 a0_3 a0_4 a0_5 a0_6 a0_7 a0_8).bind fun bt288 => ((wigwagref14_Collapse.f a0_0 a0_1 a0_2 a0_3 a0_4 a0_5 a0_6 a0_7 a0_8).bind fun bt297 => (if ((bt288.1 == bt297.1 && (bt288.2.1 == bt297.2.1 && (bt288.2.2.1 == bt297.2.2.1 && (bt288.2.2.2.1 == bt297.2.2.2.1)))) && (bt288.2.2.2.2.1 == bt297.2.2.2.2.1 && (bt288.2.2.2.2.2.1 == bt297.2.2.2.2.2.1 && (bt288.2.2.2.2.2.2.1 == bt297.2.2.2.2.2.2.1 && (bt288.2.2.2.2.2.2.2.1 == bt297.2.2.2.2.2.2.2.1 && (bt288.2.2.2.2.2.2.2.2 == bt297.2.2.2.2.2.2.2.2)))))) = true then ((prague_New.f a3).bind fun bt306 => ((wigwagref14_New.f a3).bind fun bt315 => (some ((bt306.1 == bt315.1 && (bt306.2.1 == bt315.2.1 && (bt306.2.2.1 == bt315.2.2.1 && (bt306.2.2.2.1 == bt315.2.2.2.1)))) && (bt306.2.2.2.2.1 == bt315.2.2.2.2.1 && (bt306.2.2.2.2.2.1 == bt315.2.2.2.2.2.1 && (bt306.2.2.2.2.2.2.1 == bt315.2.2.2.2.2.2.1 && (bt306.2.2.2.2.2.2.2.1 == bt315.2.2.2.2.2.2.2.1 && (bt306.2.2.2.2.2.2.2.2 == bt315.2.2.2.2.2.2.2.2))))))))) else (none)))) else (none)))) else (none)) else (none)))) else (if t233 = true then (none) else (none))))) = some r := H
  have A6 := Aside0.mk A60
  clear A60
  replace H := Option.bind_eq_some_iff.mp H
  obtain ⟨⟨t234, t235, t236, t237, t238, t239, t240, t241, t242⟩, A70, H⟩ := H
  replace H : ((wigwagref14_Ack.f a0_0 a0_1 a0_2 a0_3 a0_4 a0_5 a0_6 a0_7 a0_8 a1_0 a1_1 a1_2 a1_3 a1_4 a1_5 a1_6 a1_7 a1_8 a1_9).bind fun bt243 => (if ((t234 == bt243.1 && (t235 == bt243.2.1 && (t236 == bt243.2.2.1 && (t237 == bt243.2.2.2.1)))) && (t238 == bt243.2.2.2.2.1 && (t239 == bt243.2.2.2.2.2.1 && (t240 == bt243.2.2.2.2.2.2.1 && (t241 == bt243.2.2.2.2.2.2.2.1 && (t242 == bt243.2.2.2.2.2.2.2.2)))))) = true then ((prague_Mark.f a0_0 a0_1 a0_2 a0_3 a0_4 a0_5 a0_6 a0_7 a0_8 a2 a3).bind fun bt252 => ((wigwagref14_Mark.f a0_0 a0_1 a0_2 a0_3 a0_4 a0_5 a0_6 a0_7 a0_8 a2 a3).bind fun bt261 => (if t233 = true then (if ((bt252.1 == bt261.1 && (bt252.2.1 == bt261.2.1 && (bt252.2.2.1 == bt261.2.2.1 && (bt252.2.2.2.1 == bt261.2.2.2.1)))) && (bt252.2.2.2.2.1 == bt261.2.2.2.2.1 && (bt252.2.2.2.2.2.1 == bt261.2.2.2.2.2.1 && (bt252.2.2.2.2.2.2.1 == bt261.2.2.2.2.2.2.1 && (bt252.2.2.2.2.2.2.2.1 == bt261.2.2.2.2.2.2.2.1 && (bt252.2.2.2.2.2.2.2.2 == bt261.2.2.2.2.2.2.2.2)))))) = true then ((prague_Loss.f a0_0 a0_1 a0_2 a0_3 a0_4 a0_5 a0_6 a0_7 a0_8 a3 a4).bind fun bt270 => ((wigwagref14_Loss.f a0_0 a0_1 a0_2 a0_3 a0_4 a0_5 a0_6 a0_7 a0_8 a3 a4).bind fun bt279 => (if ((bt270.1 == bt279.1 && (bt270.2.1 == bt279.2.1 && (bt270.2.2.1 == bt279.2.2.1 && (bt270.2.2.2.1 == bt279.2.2.2.1)))) && (bt270.2.2.2.2.1 == bt279.2.2.2.2.1 && (bt270.2.2.2.2.2.1 == bt279.2.2.2.2.2.1 && (bt270.2.2.2.2.2.2.1 == bt279.2.2.2.2.2.2.1 && (bt270.2.2.2.2.2.2.2.1 == bt279.2.2.2.2.2.2.2.1 && (bt270.2.2.2.2.2.2.2.2 == bt279.2.2.2.2.2.2.2.2)))))) = true then ((prague_Collapse.f a0_0 a0_1 a0_2 a0_3 a0_4 a0_5 a0_6 a0_7 a0_8).bind fun bt288 => ((wigwagref14_Collapse.f a0_0 a0_1 a0_2 a0_3 a0_4 a0_5 a0_6 a0_7 a0_8).bind fun bt297 => (if ((bt288.1 == bt297.1 && (bt288.2.1 == bt297.2.1 && (bt288.2.2.1 == bt297.2.2.1 && (bt288.2.2.2.1 == bt297.2.2.2.1)))) && (bt288.2.2.2.2.1 == bt297.2.2.2.2.1 && (bt288.2.2.2.2.2.1 == bt297.2.2.2.2.2.1 && (bt288.2.2.2.2.2.2.1 == bt297.2.2.2.2.2.2.1 && (bt288.2.2.2.2.2.2.2.1 == bt297.2.2.2.2.2.2.2.1 && (bt288.2.2.2.2.2.2.2.2 == bt297.2.2.2.2.2.2.2.2)))))) = true then ((prague_New.f a3).bind fun bt306 => ((wigwagref14_New.f a3).bind fun bt315 => (some ((bt306.1 == bt315.1 && (bt306.2.1 == bt315.2.1 && (bt306.2.2.1 == bt315.2.2.1 && (bt306.2.2.2.1 == bt315.2.2.2.1)))) && (bt306.2.2.2.2.1 == bt315.2.2.2.2.1 && (bt306.2.2.2.2.2.1 == bt315.2.2.2.2.2.1 && (bt306.2.2.2.2.2.2.1 == bt315.2.2.2.2.2.2.1 && (bt306.2.2.2.2.2.2.2.1 == bt315.2.2.2.2.2.2.2.1 && (bt306.2.2.2.2.2.2.2.2 == bt315.2.2.2.2.2.2.2.2))))))))) else (none)))) else (none)))) else (none)) else (none)))) else (if t233 = true then (none) else (none)))) = some r := H
  have A7 := Aside0.mk A70
  clear A70
  replace H := Option.bind_eq_some_iff.mp H
  obtain ⟨⟨t243, t244, t245, t246, t247, t248, t249, t250, t251⟩, A80, H⟩ := H
  replace H : (if ((t234 == t243 && (t235 == t244 && (t236 == t245 && (t237 == t246)))) && (t238 == t247 && (t239 == t248 && (t240 == t249 && (t241 == t250 && (t242 == t251)))))) = true then ((prague_Mark.f a0_0 a0_1 a0_2 a0_3 a0_4 a0_5 a0_6 a0_7 a0_8 a2 a3).bind fun bt252 => ((wigwagref14_Mark.f a0_0 a0_1 a0_2 a0_3 a0_4 a0_5 a0_6 a0_7 a0_8 a2 a3).bind fun bt261 => (if t233 = true then (if ((bt252.1 == bt261.1 && (bt252.2.1 == bt261.2.1 && (bt252.2.2.1 == bt261.2.2.1 && (bt252.2.2.2.1 == bt261.2.2.2.1)))) && (bt252.2.2.2.2.1 == bt261.2.2.2.2.1 && (bt252.2.2.2.2.2.1 == bt261.2.2.2.2.2.1 && (bt252.2.2.2.2.2.2.1 == bt261.2.2.2.2.2.2.1 && (bt252.2.2.2.2.2.2.2.1 == bt261.2.2.2.2.2.2.2.1 && (bt252.2.2.2.2.2.2.2.2 == bt261.2.2.2.2.2.2.2.2)))))) = true then ((prague_Loss.f a0_0 a0_1 a0_2 a0_3 a0_4 a0_5 a0_6 a0_7 a0_8 a3 a4).bind fun bt270 => ((wigwagref14_Loss.f a0_0 a0_1 a0_2 a0_3 a0_4 a0_5 a0_6 a0_7 a0_8 a3 a4).bind fun bt279 => (if ((bt270.1 == bt279.1 && (bt270.2.1 == bt279.2.1 && (bt270.2.2.1 == bt279.2.2.1 && (bt270.2.2.2.1 == bt279.2.2.2.1)))) && (bt270.2.2.2.2.1 == bt279.2.2.2.2.1 && (bt270.2.2.2.2.2.1 == bt279.2.2.2.2.2.1 && (bt270.2.2.2.2.2.2.1 == bt279.2.2.2.2.2.2.1 && (bt270.2.2.2.2.2.2.2.1 == bt279.2.2.2.2.2.2.2.1 && (bt270.2.2.2.2.2.2.2.2 == bt279.2.2.2.2.2.2.2.2)))))) = true then ((prague_Collapse.f a0_0 a0_1 a0_2 a0_3 a0_4 a0_5 a0_6 a0_7 a0_8).bind fun bt288 => ((wigwagref14_Collapse.f a0_0 a0_1 a0_2 a0_3 a0_4 a0_5 a0_6 a0_7 a0_8).bind fun bt297 => (if ((bt288.1 == bt297.1 && (bt288.2.1 == bt297.2.1 && (bt288.2.2.1 == bt297.2.2.1 && (bt288.2.2.2.1 == bt297.2.2.2.1)))) && (bt288.2.2.2.2.1 == bt297.2.2.2.2.1 && (bt288.2.2.2.2.2.1 == bt297.2.2.2.2.2.1 && (bt288.2.2.2.2.2.2.1 == bt297.2.2.2.2.2.2.1 && (bt288.2.2.2.2.2.2.2.1 == bt297.2.2.2.2.2.2.2.1 && (bt288.2.2.2.2.2.2.2.2 == bt297.2.2.2.2.2.2.2.2)))))) = true then ((prague_New.f a3).bind fun bt306 => ((wigwagref14_New.f a3).bind fun bt315 => (some ((bt306.1 == bt315.1 && (bt306.2.1 == bt315.2.1 && (bt306.2.2.1 == bt315.2.2.1 && (bt306.2.2.2.1 == bt315.2.2.2.1)))) && (bt306.2.2.2.2.1 == bt315.2.2.2.2.1 && (bt306.2.2.2.2.2.1 == bt315.2.2.2.2.2.1 && (bt306.2.2.2.2.2.2.1 == bt315.2.2.2.2.2.2.1 && (bt306.2.2.2.2.2.2.2.1 == bt315.2.2.2.2.2.2.2.1 && (bt306.2.2.2.2.2.2.2.2 == bt315.2.2.2.2.2.2.2.2))))))))) else (none)))) else (none)))) else (none)) else (none)))) else (if t233 = true then (none) else (none))) = some r := H
  have A8 := Aside0.mk A80
  clear A80
  by_cases c9 : ((t234 == t243 && (t235 == t244 && (t236 == t245 && (t237 == t246)))) && (t238 == t247 && (t239 == t248 && (t240 == t249 && (t241 == t250 && (t242 == t251)))))) = true
  · rw [if_pos c9] at H
    have c9b0 : ((t234 == t243 && (t235 == t244 && (t236 == t245 && (t237 == t246)))) && (t238 == t247 && (t239 == t248 && (t240 == t249 && (t241 == t250 && (t242 == t251)))))) = true := c9
    clear c9
    replace H := Option.bind_eq_some_iff.mp H
    obtain ⟨⟨t252, t253, t254, t255, t256, t257, t258, t259, t260⟩, A100, H⟩ := H
    replace H : ((wigwagref14_Mark.f a0_0 a0_1 a0_2 a0_3 a0_4 a0_5 a0_6 a0_7 a0_8 a2 a3).bind fun bt261 => (if t233 = true then (if ((t252 == bt261.1 && (t253 == bt261.2.1 && (t254 == bt261.2.2.1 && (t255 == bt261.2.2.2.1)))) && (t256 == bt261.2.2.2.2.1 && (t257 == bt261.2.2.2.2.2.1 && (t258 == bt261.2.2.2.2.2.2.1 && (t259 == bt261.2.2.2.2.2.2.2.1 && (t260 == bt261.2.2.2.2.2.2.2.2)))))) = true then ((prague_Loss.f a0_0 a0_1 a0_2 a0_3 a0_4 a0_5 a0_6 a0_7 a0_8 a3 a4).bind fun bt270 => ((wigwagref14_Loss.f a0_0 a0_1 a0_2 a0_3 a0_4 a0_5 a0_6 a0_7 a0_8 a3 a4).bind fun bt279 => (if ((bt270.1 == bt279.1 && (bt270.2.1 == bt279.2.1 && (bt270.2.2.1 == bt279.2.2.1 && (bt270.2.2.2.1 == bt279.2.2.2.1)))) && (bt270.2.2.2.2.1 == bt279.2.2.2.2.1 && (bt270.2.2.2.2.2.1 == bt279.2.2.2.2.2.1 && (bt270.2.2.2.2.2.2.1 == bt279.2.2.2.2.2.2.1 && (bt270.2.2.2.2.2.2.2.1 == bt279.2.2.2.2.2.2.2.1 && (bt270.2.2.2.2.2.2.2.2 == bt279.2.2.2.2.2.2.2.2)))))) = true then ((prague_Collapse.f a0_0 a0_1 a0_2 a0_3 a0_4 a0_5 a0_6 a0_7 a0_8).bind fun bt288 => ((wigwagref14_Collapse.f a0_0 a0_1 a0_2 a0_3 a0_4 a0_5 a0_6 a0_7 a0_8).bind fun bt297 => (if ((bt288.1 == bt297.1 && (bt288.2.1 == bt297.2.1 && (bt288.2.2.1 == bt297.2.2.1 && (bt288.2.2.2.1 == bt297.2.2.2.1)))) && (bt288.2.2.2.2.1 == bt297.2.2.2.2.1 && (bt288.2.2.2.2.2.1 == bt297.2.2.2.2.2.1 && (bt288.2.2.2.2.2.2.1 == bt297.2.2.2.2.2.2.1 && (bt288.2.2.2.2.2.2.2.1 == bt297.2.2.2.2.2.2.2.1 && (bt288.2.2.2.2.2.2.2.2 == bt297.2.2.2.2.2.2.2.2)))))) = true then ((prague_New.f a3).bind fun bt306 => ((wigwagref14_New.f a3).bind fun bt315 => (some ((bt306.1 == bt315.1 && (bt306.2.1 == bt315.2.1 && (bt306.2.2.1 == bt315.2.2.1 && (bt306.2.2.2.1 == bt315.2.2.2.1)))) && (bt306.2.2.2.2.1 == bt315.2.2.2.2.1 && (bt306.2.2.2.2.2.1 == bt315.2.2.2.2.2.1 && (bt306.2.2.2.2.2.2.1 == bt315.2.2.2.2.2.2.1 && (bt306.2.2.2.2.2.2.2.1 == bt315.2.2.2.2.2.2.2.1 && (bt306.2.2.2.2.2.2.2.2 == bt315.2.2.2.2.2.2.2.2))))))))) else (none)))) else (none)))) else (none)) else (none))) = some r := H
    have A10 := Aside0.mk A100
    clear A100
    replace H := Option.bind_eq_some_iff.mp H
    obtain ⟨⟨t261, t262, t263, t264, t265, t266, t267, t268, t269⟩, A110, H⟩ := H
    replace H : (if t233 = true then (if ((t252 == t261 && (t253 == t262 && (t254 == t263 && (t255 == t264)))) && (t256 == t265 && (t257 == t266 && (t258 == t267 && (t259 == t268 && (t260 == t269)))))) = true then ((prague_Loss.f a0_0 a0_1 a0_2 a0_3 a0_4 a0_5 a0_6 a0_7 a0_8 a3 a4).bind fun bt270 => ((wigwagref14_Loss.f a0_0 a0_1 a0_2 a0_3 a0_4 a0_5 a0_6 a0_7 a0_8 a3 a4).bind fun bt279 => (if ((bt270.1 == bt279.1 && (bt270.2.1 == bt279.2.1 && (bt270.2.2.1 == bt279.2.2.1 && (bt270.2.2.2.1 == bt279.2.2.2.1)))) && (bt270.2.2.2.2.1 == bt279.2.2.2.2.1 && (bt270.2.2.2.2.2.1 == bt279.2.2.2.2.2.1 && (bt270.2.2.2.2.2.2.1 == bt279.2.2.2.2.2.2.1 && (bt270.2.2.2.2.2.2.2.1 == bt279.2.2.2.2.2.2.2.1 && (bt270.2.2.2.2.2.2.2.2 == bt279.2.2.2.2.2.2.2.2)))))) = true then ((prague_Collapse.f a0_0 a0_1 a0_2 a0_3 a0_4 a0_5 a0_6 a0_7 a0_8).bind fun bt288 => ((wigwagref14_Collapse.f a0_0 a0_1 a0_2 a0_3 a0_4 a0_5 a0_6 a0_7 a0_8).bind fun bt297 => (if ((bt288.1 == bt297.1 && (bt288.2.1 == bt297.2.1 && (bt288.2.2.1 == bt297.2.2.1 && (bt288.2.2.2.1 == bt297.2.2.2.1)))) && (bt288.2.2.2.2.1 == bt297.2.2.2.2.1 && (bt288.2.2.2.2.2.1 == bt297.2.2.2.2.2.1 && (bt288.2.2.2.2.2.2.1 == bt297.2.2.2.2.2.2.1 && (bt288.2.2.2.2.2.2.2.1 == bt297.2.2.2.2.2.2.2.1 && (bt288.2.2.2.2.2.2.2.2 == bt297.2.2.2.2.2.2.2.2)))))) = true then ((prague_New.f a3).bind fun bt306 => ((wigwagref14_New.f a3).bind fun bt315 => (some ((bt306.1 == bt315.1 && (bt306.2.1 == bt315.2.1 && (bt306.2.2.1 == bt315.2.2.1 && (bt306.2.2.2.1 == bt315.2.2.2.1)))) && (bt306.2.2.2.2.1 == bt315.2.2.2.2.1 && (bt306.2.2.2.2.2.1 == bt315.2.2.2.2.2.1 && (bt306.2.2.2.2.2.2.1 == bt315.2.2.2.2.2.2.1 && (bt306.2.2.2.2.2.2.2.1 == bt315.2.2.2.2.2.2.2.1 && (bt306.2.2.2.2.2.2.2.2 == bt315.2.2.2.2.2.2.2.2))))))))) else (none)))) else (none)))) else (none)) else (none)) = some r := H
    have A11 := Aside0.mk A110
    clear A110
    by_cases c12 : t233 = true
    · subst c12
      have H1 : (if ((t252 == t261 && (t253 == t262 && (t254 == t263 && (t255 == t264)))) && (t256 == t265 && (t257 == t266 && (t258 == t267 && (t259 == t268 && (t260 == t269)))))) = true then ((prague_Loss.f a0_0 a0_1 a0_2 a0_3 a0_4 a0_5 a0_6 a0_7 a0_8 a3 a4).bind fun bt270 => ((wigwagref14_Loss.f a0_0 a0_1 a0_2 a0_3 a0_4 a0_5 a0_6 a0_7 a0_8 a3 a4).bind fun bt279 => (if ((bt270.1 == bt279.1 && (bt270.2.1 == bt279.2.1 && (bt270.2.2.1 == bt279.2.2.1 && (bt270.2.2.2.1 == bt279.2.2.2.1)))) && (bt270.2.2.2.2.1 == bt279.2.2.2.2.1 && (bt270.2.2.2.2.2.1 == bt279.2.2.2.2.2.1 && (bt270.2.2.2.2.2.2.1 == bt279.2.2.2.2.2.2.1 && (bt270.2.2.2.2.2.2.2.1 == bt279.2.2.2.2.2.2.2.1 && (bt270.2.2.2.2.2.2.2.2 == bt279.2.2.2.2.2.2.2.2)))))) = true then ((prague_Collapse.f a0_0 a0_1 a0_2 a0_3 a0_4 a0_5 a0_6 a0_7 a0_8).bind fun bt288 => ((wigwagref14_Collapse.f a0_0 a0_1 a0_2 a0_3 a0_4 a0_5 a0_6 a0_7 a0_8).bind fun bt297 => (if ((bt288.1 == bt297.1 && (bt288.2.1 == bt297.2.1 && (bt288.2.2.1 == bt297.2.2.1 && (bt288.2.2.2.1 == bt297.2.2.2.1)))) && (bt288.2.2.2.2.1 == bt297.2.2.2.2.1 && (bt288.2.2.2.2.2.1 == bt297.2.2.2.2.2.1 && (bt288.2.2.2.2.2.2.1 == bt297.2.2.2.2.2.2.1 && (bt288.2.2.2.2.2.2.2.1 == bt297.2.2.2.2.2.2.2.1 && (bt288.2.2.2.2.2.2.2.2 == bt297.2.2.2.2.2.2.2.2)))))) = true then ((prague_New.f a3).bind fun bt306 => ((wigwagref14_New.f a3).bind fun bt315 => (some ((bt306.1 == bt315.1 && (bt306.2.1 == bt315.2.1 && (bt306.2.2.1 == bt315.2.2.1 && (bt306.2.2.2.1 == bt315.2.2.2.1)))) && (bt306.2.2.2.2.1 == bt315.2.2.2.2.1 && (bt306.2.2.2.2.2.1 == bt315.2.2.2.2.2.1 && (bt306.2.2.2.2.2.2.1 == bt315.2.2.2.2.2.2.1 && (bt306.2.2.2.2.2.2.2.1 == bt315.2.2.2.2.2.2.2.1 && (bt306.2.2.2.2.2.2.2.2 == bt315.2.2.2.2.2.2.2.2))))))))) else (none)))) else (none)))) else (none)) = some r := by rw [if_pos rfl] at H; exact H
      clear H
      have H := H1
      clear H1
      by_cases c13 : ((t252 == t261 && (t253 == t262 && (t254 == t263 && (t255 == t264)))) && (t256 == t265 && (t257 == t266 && (t258 == t267 && (t259 == t268 && (t260 == t269)))))) = true
      · rw [if_pos c13] at H
        have c13b0 : ((t252 == t261 && (t253 == t262 && (t254 == t263 && (t255 == t264)))) && (t256 == t265 && (t257 == t266 && (t258 == t267 && (t259 == t268 && (t260 == t269)))))) = true := c13
        clear c13
        replace H := Option.bind_eq_some_iff.mp H
        obtain ⟨⟨t270, t271, t272, t273, t274, t275, t276, t277, t278⟩, A140, H⟩ := H
        replace H : ((wigwagref14_Loss.f a0_0 a0_1 a0_2 a0_3 a0_4 a0_5 a0_6 a0_7 a0_8 a3 a4).bind fun bt279 => (if ((t270 == bt279.1 && (t271 == bt279.2.1 && (t272 == bt279.2.2.1 && (t273 == bt279.2.2.2.1)))) && (t274 == bt279.2.2.2.2.1 && (t275 == bt279.2.2.2.2.2.1 && (t276 == bt279.2.2.2.2.2.2.1 && (t277 == bt279.2.2.2.2.2.2.2.1 && (t278 == bt279.2.2.2.2.2.2.2.2)))))) = true then ((prague_Collapse.f a0_0 a0_1 a0_2 a0_3 a0_4 a0_5 a0_6 a0_7 a0_8).bind fun bt288 => ((wigwagref14_Collapse.f a0_0 a0_1 a0_2 a0_3 a0_4 a0_5 a0_6 a0_7 a0_8).bind fun bt297 => (if ((bt288.1 == bt297.1 && (bt288.2.1 == bt297.2.1 && (bt288.2.2.1 == bt297.2.2.1 && (bt288.2.2.2.1 == bt297.2.2.2.1)))) && (bt288.2.2.2.2.1 == bt297.2.2.2.2.1 && (bt288.2.2.2.2.2.1 == bt297.2.2.2.2.2.1 && (bt288.2.2.2.2.2.2.1 == bt297.2.2.2.2.2.2.1 && (bt288.2.2.2.2.2.2.2.1 == bt297.2.2.2.2.2.2.2.1 && (bt288.2.2.2.2.2.2.2.2 == bt297.2.2.2.2.2.2.2.2)))))) = true then ((prague_New.f a3).bind fun bt306 => ((wigwagref14_New.f a3).bind fun bt315 => (some ((bt306.1 == bt315.1 && (bt306.2.1 == bt315.2.1 && (bt306.2.2.1 == bt315.2.2.1 && (bt306.2.2.2.1 == bt315.2.2.2.1)))) && (bt306.2.2.2.2.1 == bt315.2.2.2.2.1 && (bt306.2.2.2.2.2.1 == bt315.2.2.2.2.2.1 && (bt306.2.2.2.2.2.2.1 == bt315.2.2.2.2.2.2.1 && (bt306.2.2.2.2.2.2.2.1 == bt315.2.2.2.2.2.2.2.1 && (bt306.2.2.2.2.2.2.2.2 == bt315.2.2.2.2.2.2.2.2))))))))) else (none)))) else (none))) = some r := H
        have A14 := Aside0.mk A140
        clear A140
        replace H := Option.bind_eq_some_iff.mp H
        obtain ⟨⟨t279, t280, t281, t282, t283, t284, t285, t286, t287⟩, A150, H⟩ := H
        replace H : (if ((t270 == t279 && (t271 == t280 && (t272 == t281 && (t273 == t282)))) && (t274 == t283 && (t275 == t284 && (t276 == t285 && (t277 == t286 && (t278 == t287)))))) = true then ((prague_Collapse.f a0_0 a0_1 a0_2 a0_3 a0_4 a0_5 a0_6 a0_7 a0_8).bind fun bt288 => ((wigwagref14_Collapse.f a0_0 a0_1 a0_2 a0_3 a0_4 a0_5 a0_6 a0_7 a0_8).bind fun bt297 => (if ((bt288.1 == bt297.1 && (bt288.2.1 == bt297.2.1 && (bt288.2.2.1 == bt297.2.2.1 && (bt288.2.2.2.1 == bt297.2.2.2.1)))) && (bt288.2.2.2.2.1 == bt297.2.2.2.2.1 && (bt288.2.2.2.2.2.1 == bt297.2.2.2.2.2.1 && (bt288.2.2.2.2.2.2.1 == bt297.2.2.2.2.2.2.1 && (bt288.2.2.2.2.2.2.2.1 == bt297.2.2.2.2.2.2.2.1 && (bt288.2.2.2.2.2.2.2.2 == bt297.2.2.2.2.2.2.2.2)))))) = true then ((prague_New.f a3).bind fun bt306 => ((wigwagref14_New.f a3).bind fun bt315 => (some ((bt306.1 == bt315.1 && (bt306.2.1 == bt315.2.1 && (bt306.2.2.1 == bt315.2.2.1 && (bt306.2.2.2.1 == bt315.2.2.2.1)))) && (bt306.2.2.2.2.1 == bt315.2.2.2.2.1 && (bt306.2.2.2.2.2.1 == bt315.2.2.2.2.2.1 && (bt306.2.2.2.2.2.2.1 == bt315.2.2.2.2.2.2.1 && (bt306.2.2.2.2.2.2.2.1 == bt315.2.2.2.2.2.2.2.1 && (bt306.2.2.2.2.2.2.2.2 == bt315.2.2.2.2.2.2.2.2))))))))) else (none)))) else (none)) = some r := H
        have A15 := Aside0.mk A150
        clear A150
        by_cases c16 : ((t270 == t279 && (t271 == t280 && (t272 == t281 && (t273 == t282)))) && (t274 == t283 && (t275 == t284 && (t276 == t285 && (t277 == t286 && (t278 == t287)))))) = true
        · rw [if_pos c16] at H
          have c16b0 : ((t270 == t279 && (t271 == t280 && (t272 == t281 && (t273 == t282)))) && (t274 == t283 && (t275 == t284 && (t276 == t285 && (t277 == t286 && (t278 == t287)))))) = true := c16
          clear c16
          replace H := Option.bind_eq_some_iff.mp H
          obtain ⟨⟨t288, t289, t290, t291, t292, t293, t294, t295, t296⟩, A170, H⟩ := H
          replace H : ((wigwagref14_Collapse.f a0_0 a0_1 a0_2 a0_3 a0_4 a0_5 a0_6 a0_7 a0_8).bind fun bt297 => (if ((t288 == bt297.1 && (t289 == bt297.2.1 && (t290 == bt297.2.2.1 && (t291 == bt297.2.2.2.1)))) && (t292 == bt297.2.2.2.2.1 && (t293 == bt297.2.2.2.2.2.1 && (t294 == bt297.2.2.2.2.2.2.1 && (t295 == bt297.2.2.2.2.2.2.2.1 && (t296 == bt297.2.2.2.2.2.2.2.2)))))) = true then ((prague_New.f a3).bind fun bt306 => ((wigwagref14_New.f a3).bind fun bt315 => (some ((bt306.1 == bt315.1 && (bt306.2.1 == bt315.2.1 && (bt306.2.2.1 == bt315.2.2.1 && (bt306.2.2.2.1 == bt315.2.2.2.1)))) && (bt306.2.2.2.2.1 == bt315.2.2.2.2.1 && (bt306.2.2.2.2.2.1 == bt315.2.2.2.2.2.1 && (bt306.2.2.2.2.2.2.1 == bt315.2.2.2.2.2.2.1 && (bt306.2.2.2.2.2.2.2.1 == bt315.2.2.2.2.2.2.2.1 && (bt306.2.2.2.2.2.2.2.2 == bt315.2.2.2.2.2.2.2.2))))))))) else (none))) = some r := H
          have A17 := Aside0.mk A170
          clear A170
          replace H := Option.bind_eq_some_iff.mp H
          obtain ⟨⟨t297, t298, t299, t300, t301, t302, t303, t304, t305⟩, A180, H⟩ := H
          replace H : (if ((t288 == t297 && (t289 == t298 && (t290 == t299 && (t291 == t300)))) && (t292 == t301 && (t293 == t302 && (t294 == t303 && (t295 == t304 && (t296 == t305)))))) = true then ((prague_New.f a3).bind fun bt306 => ((wigwagref14_New.f a3).bind fun bt315 => (some ((bt306.1 == bt315.1 && (bt306.2.1 == bt315.2.1 && (bt306.2.2.1 == bt315.2.2.1 && (bt306.2.2.2.1 == bt315.2.2.2.1)))) && (bt306.2.2.2.2.1 == bt315.2.2.2.2.1 && (bt306.2.2.2.2.2.1 == bt315.2.2.2.2.2.1 && (bt306.2.2.2.2.2.2.1 == bt315.2.2.2.2.2.2.1 && (bt306.2.2.2.2.2.2.2.1 == bt315.2.2.2.2.2.2.2.1 && (bt306.2.2.2.2.2.2.2.2 == bt315.2.2.2.2.2.2.2.2))))))))) else (none)) = some r := H
          have A18 := Aside0.mk A180
          clear A180
          by_cases c19 : ((t288 == t297 && (t289 == t298 && (t290 == t299 && (t291 == t300)))) && (t292 == t301 && (t293 == t302 && (t294 == t303 && (t295 == t304 && (t296 == t305)))))) = true
          · rw [if_pos c19] at H
            have c19b0 : ((t288 == t297 && (t289 == t298 && (t290 == t299 && (t291 == t300)))) && (t292 == t301 && (t293 == t302 && (t294 == t303 && (t295 == t304 && (t296 == t305)))))) = true := c19
            clear c19
            replace H := Option.bind_eq_some_iff.mp H
            obtain ⟨⟨t306, t307, t308, t309, t310, t311, t312, t313, t314⟩, A200, H⟩ := H
            replace H : ((wigwagref14_New.f a3).bind fun bt315 => (some ((t306 == bt315.1 && (t307 == bt315.2.1 && (t308 == bt315.2.2.1 && (t309 == bt315.2.2.2.1)))) && (t310 == bt315.2.2.2.2.1 && (t311 == bt315.2.2.2.2.2.1 && (t312 == bt315.2.2.2.2.2.2.1 && (t313 == bt315.2.2.2.2.2.2.2.1 && (t314 == bt315.2.2.2.2.2.2.2.2)))))))) = some r := H
            have A20 := Aside0.mk A200
            clear A200
            replace H := Option.bind_eq_some_iff.mp H
            obtain ⟨⟨t315, t316, t317, t318, t319, t320, t321, t322, t323⟩, A210, H⟩ := H
            replace H : (some ((t306 == t315 && (t307 == t316 && (t308 == t317 && (t309 == t318)))) && (t310 == t319 && (t311 == t320 && (t312 == t321 && (t313 == t322 && (t314 == t323))))))) = some r := H
            have A21 := Aside0.mk A210
            clear A210
            obtain rfl := Option.some.inj H
            go_enter Try.func5, Try.ntmps5
            try go_wp2_with (first | ((with_reducible refine gate_dst (N := 5) rfl ?_); refine box_event ?hg (N := 5) ?hd (cs := #[.int .u64 a0_0, .int .u64 a0_1, .int .u64 a0_2, .int .u64 a0_3, .int .u64 a0_4, .int .u64 a0_5, .int .u64 a0_6, .int .u64 a0_7, .bool a0_8]) (t := 26) ?hr ?_; (case hd => rfl); (case hg => rfl); (case hr => first | (go_simp; done) | (go_simp; rfl)); intro gb231 hg w22 hbox hb; have n0_ := Aside0.mk (below_step (by repeat (first | (with_reducible first | exact HB.out | apply below_alloc | apply pw_below_drewN | apply below_drew1) | exact HB.out)) hb); have n1_ := Aside0.mk (hbox); have n2_ := Aside0.mk ((by rw [hg]; exact (below_size (by repeat (first | (with_reducible first | exact HB.out | apply below_alloc | apply pw_below_drewN | apply below_drew1) | exact HB.out))) : w.heap.size ≤ gb231)); have n3_ := Aside0.mk ((by rw [hg]; exact (below_size (by repeat (first | (with_reducible first | exact HB.out | apply below_alloc | apply pw_below_drewN | apply below_drew1) | exact HB.out))) : w.heap.size ≤ gb231)); clear HB; have HB := n0_; have BK231 := n1_; have GW231 := n2_; have GE231 := n3_; clear n0_ n1_ n2_ n3_; clear hb hbox hg) | ((with_reducible refine gate_dst (N := 6) rfl ?_); refine box_event ?hg (N := 6) ?hd (cs := #[.int .u64 a1_0, .int .u64 a1_1, .int .u64 a1_2, .int .u64 a1_3, .int .u64 a1_4, .int .u64 a1_5, .int .u64 a1_6, .int .u64 a1_7, .bool a1_8, .bool a1_9]) (t := 32) ?hr ?_; (case hd => rfl); (case hg => rfl); (case hr => first | (go_simp; done) | (go_simp; rfl)); intro gb232 hg w23 hbox hb; have n0_ := Aside0.mk (blk_below (g := gb231) (o := .cells #[.int .u64 a0_0, .int .u64 a0_1, .int .u64 a0_2, .int .u64 a0_3, .int .u64 a0_4, .int .u64 a0_5, .int .u64 a0_6, .int .u64 a0_7, .bool a0_8] 26 (0, 0)) (by (with_reducible repeat (first | refine blk_drewN ?_ _ | refine blk_drew ?_ | refine blk_alloc ?_ _)); exact BK231.out) hb); have n1_ := Aside0.mk (below_step (by repeat (first | (with_reducible first | exact HB.out | apply below_alloc | apply pw_below_drewN | apply below_drew1 | refine below_set ?_ GE231.out) | exact HB.out)) hb); have n2_ := Aside0.mk (hbox); have n3_ := Aside0.mk ((by rw [hg]; exact (below_size (by repeat (first | (with_reducible first | exact HB.out | apply below_alloc | apply pw_below_drewN | apply below_drew1 | refine below_set ?_ GE231.out) | exact HB.out))) : w.heap.size ≤ gb232)); have n4_ := Aside0.mk ((by rw [hg]; exact (below_size (by repeat (first | (with_reducible first | exact HB.out | apply below_alloc | apply pw_below_drewN | apply below_drew1 | refine below_set ?_ GE231.out) | exact HB.out))) : w.heap.size ≤ gb232)); have n5_ := Aside0.mk ((by rw [hg]; exact Nat.ne_of_lt (blk_lt (g := gb231) (o := .cells #[.int .u64 a0_0, .int .u64 a0_1, .int .u64 a0_2, .int .u64 a0_3, .int .u64 a0_4, .int .u64 a0_5, .int .u64 a0_6, .int .u64 a0_7, .bool a0_8] 26 (0, 0)) (by (with_reducible repeat (first | refine blk_drewN ?_ _ | refine blk_drew ?_ | refine blk_alloc ?_ _)); exact BK231.out)) : gb231 ≠ gb232)); have n6_ := Aside0.mk ((by rw [hg]; exact Nat.ne_of_gt (blk_lt (g := gb231) (o := .cells #[.int .u64 a0_0, .int .u64 a0_1, .int .u64 a0_2, .int .u64 a0_3, .int .u64 a0_4, .int .u64 a0_5, .int .u64 a0_6, .int .u64 a0_7, .bool a0_8] 26 (0, 0)) (by (with_reducible repeat (first | refine blk_drewN ?_ _ | refine blk_drew ?_ | refine blk_alloc ?_ _)); exact BK231.out)) : gb232 ≠ gb231)); clear BK231; clear HB; have BK231 := n0_; have HB := n1_; have BK232 := n2_; have GW232 := n3_; have GE232 := n4_; have NB231_232 := n5_; have NB232_231 := n6_; clear n0_ n1_ n2_ n3_ n4_ n5_ n6_; clear hb hbox hg) | ((with_reducible refine gate_callee (f := 8) rfl ?_); refine goesL_ (some 13) rfl rfl Try.func8 (by kernel_rfl) rfl #[] rfl (by (try simp only [List.map_toArray, List.map_cons, List.map_nil]); first | done | rfl | (simp only [List.length_drop, List.length_take]; rfl)) ?_; (with_reducible refine (wigwaglaw14_awake.calls  true _ A6.out).mono ?_); rintro e w24 ⟨rfl, hb⟩; refine ⟨_, rfl, ?_⟩; have n0_ := Aside0.mk (blk_below (g := gb231) (o := .cells #[.int .u64 a0_0, .int .u64 a0_1, .int .u64 a0_2, .int .u64 a0_3, .int .u64 a0_4, .int .u64 a0_5, .int .u64 a0_6, .int .u64 a0_7, .bool a0_8] 26 (0, 0)) (by (with_reducible repeat (first | refine blk_drewN ?_ _ | refine blk_drew ?_ | refine blk_alloc ?_ _)); exact BK231.out) hb); have n1_ := Aside0.mk (blk_below (g := gb232) (o := .cells #[.int .u64 a1_0, .int .u64 a1_1, .int .u64 a1_2, .int .u64 a1_3, .int .u64 a1_4, .int .u64 a1_5, .int .u64 a1_6, .int .u64 a1_7, .bool a1_8, .bool a1_9] 32 (0, 0)) (by (with_reducible repeat (first | refine blk_drewN ?_ _ | refine blk_drew ?_ | refine blk_alloc ?_ _)); exact BK232.out) hb); have n2_ := Aside0.mk (below_step (by repeat (first | (with_reducible first | exact HB.out | apply below_alloc | apply pw_below_drewN | apply below_drew1 | refine below_set ?_ GE231.out | refine below_set ?_ GE232.out) | exact HB.out)) hb); clear BK231; clear BK232; clear HB; have BK231 := n0_; have BK232 := n1_; have HB := n2_; clear n0_ n1_ n2_; (try clear hb); (try clear hb2); (try clear hk); (try clear hi)))
            have n0_ := Aside0.mk (blk_drew BK231.out)
            have n1_ := Aside0.mk (blk_drew BK232.out)
            have n2_ := Aside0.mk (below_drew1 HB.out)
            clear BK231
            clear BK232
            clear HB
            have BK231 := n0_
            have BK232 := n1_
            have HB := n2_
            clear n0_ n1_ n2_
            refine start_ (n := 19) (S := fun w' => w'.cell? ⟨gb231, 0, none⟩ = some (.int .u64 a0_0) ∧ w'.cell? ⟨gb231, 1, none⟩ = some (.int .u64 a0_1) ∧ w'.cell? ⟨gb231, 2, none⟩ = some (.int .u64 a0_2) ∧ w'.cell? ⟨gb231, 3, none⟩ = some (.int .u64 a0_3) ∧ w'.cell? ⟨gb231, 4, none⟩ = some (.int .u64 a0_4) ∧ w'.cell? ⟨gb231, 5, none⟩ = some (.int .u64 a0_5) ∧ w'.cell? ⟨gb231, 6, none⟩ = some (.int .u64 a0_6) ∧ w'.cell? ⟨gb231, 7, none⟩ = some (.int .u64 a0_7) ∧ w'.cell? ⟨gb231, 8, none⟩ = some (.bool a0_8) ∧ w'.cell? ⟨gb232, 0, none⟩ = some (.int .u64 a1_0) ∧ w'.cell? ⟨gb232, 1, none⟩ = some (.int .u64 a1_1) ∧ w'.cell? ⟨gb232, 2, none⟩ = some (.int .u64 a1_2) ∧ w'.cell? ⟨gb232, 3, none⟩ = some (.int .u64 a1_3) ∧ w'.cell? ⟨gb232, 4, none⟩ = some (.int .u64 a1_4) ∧ w'.cell? ⟨gb232, 5, none⟩ = some (.int .u64 a1_5) ∧ w'.cell? ⟨gb232, 6, none⟩ = some (.int .u64 a1_6) ∧ w'.cell? ⟨gb232, 7, none⟩ = some (.int .u64 a1_7) ∧ w'.cell? ⟨gb232, 8, none⟩ = some (.bool a1_8) ∧ w'.cell? ⟨gb232, 9, none⟩ = some (.bool a1_9)) (ds := []) #[false, false, false, false, false, false, false, false, false, false, false, false, false, false, false, false, false, false, false] (by kernel_rfl) rfl rfl ⟨(blk_cell BK231.out 0).trans rfl, (blk_cell BK231.out 1).trans rfl, (blk_cell BK231.out 2).trans rfl, (blk_cell BK231.out 3).trans rfl, (blk_cell BK231.out 4).trans rfl, (blk_cell BK231.out 5).trans rfl, (blk_cell BK231.out 6).trans rfl, (blk_cell BK231.out 7).trans rfl, (blk_cell BK231.out 8).trans rfl, (blk_cell BK232.out 0).trans rfl, (blk_cell BK232.out 1).trans rfl, (blk_cell BK232.out 2).trans rfl, (blk_cell BK232.out 3).trans rfl, (blk_cell BK232.out 4).trans rfl, (blk_cell BK232.out 5).trans rfl, (blk_cell BK232.out 6).trans rfl, (blk_cell BK232.out 7).trans rfl, (blk_cell BK232.out 8).trans rfl, (blk_cell BK232.out 9).trans rfl⟩ (fun hHeld => ?_); refine with_tabW wigwaglaw14_PragueTells.tab2 wigwaglaw14_PragueTells.bits2 (fun HT_ HW_ => ?_)
            generalize w24.drew = w25 at BK231 BK232 HB hHeld ⊢
            refine take_ (i := 0) (N := some 14) (v := ?_) (a' := ?_) #[true, false, false, false, false, false, false, false, false, false, false, false, false, false, false, false, false, false, false] rfl rfl (take_ofW HT_.out HW_.out (by kernel_rfl)) (fun _ _ _ h => h) (Or.inl ⟨by rfl, ?_⟩) hHeld ?_ ?_
            rotate_left
            · rintro w' ⟨s0, s1, s2, s3, s4, s5, s6, s7, s8, s9, s10, s11, s12, s13, s14, s15, s16, s17, s18⟩
              go_simp
              with_reducible rfl
            rotate_left
            · simp only [Act.put, List.setIfInBounds_toArray, List.set_cons_zero, List.set_cons_succ, i64_w, i32_w]
              rfl
            refine take_ (i := 1) (N := some 15) (v := ?_) (a' := ?_) #[true, true, false, false, false, false, false, false, false, false, false, false, false, false, false, false, false, false, false] rfl rfl (take_ofW HT_.out HW_.out (by kernel_rfl)) (fun _ _ _ h => h) (Or.inl ⟨by rfl, ?_⟩) hHeld ?_ ?_
            rotate_left
            · rintro w' ⟨s0, s1, s2, s3, s4, s5, s6, s7, s8, s9, s10, s11, s12, s13, s14, s15, s16, s17, s18⟩
              go_simp
              with_reducible rfl
            rotate_left
            · simp only [Act.put, List.setIfInBounds_toArray, List.set_cons_zero, List.set_cons_succ, i64_w, i32_w]
              rfl
            refine take_ (i := 3) (N := some 17) (v := ?_) (a' := ?_) #[true, true, false, true, false, false, false, false, false, false, false, false, false, false, false, false, false, false, false] rfl rfl (take_ofW HT_.out HW_.out (by kernel_rfl)) (fun _ _ _ h => h) (Or.inl ⟨by rfl, ?_⟩) hHeld ?_ ?_
            rotate_left
            · rintro w' ⟨s0, s1, s2, s3, s4, s5, s6, s7, s8, s9, s10, s11, s12, s13, s14, s15, s16, s17, s18⟩
              go_simp
              with_reducible rfl
            rotate_left
            · simp only [Act.put, List.setIfInBounds_toArray, List.set_cons_zero, List.set_cons_succ, i64_w, i32_w]
              rfl
            refine take_ (i := 4) (N := some 18) (v := ?_) (a' := ?_) #[true, true, false, true, true, false, false, false, false, false, false, false, false, false, false, false, false, false, false] rfl rfl (take_ofW HT_.out HW_.out (by kernel_rfl)) (fun _ _ _ h => h) (Or.inl ⟨by rfl, ?_⟩) hHeld ?_ ?_
            rotate_left
            · rintro w' ⟨s0, s1, s2, s3, s4, s5, s6, s7, s8, s9, s10, s11, s12, s13, s14, s15, s16, s17, s18⟩
              go_simp
              with_reducible rfl
            rotate_left
            · simp only [Act.put, List.setIfInBounds_toArray, List.set_cons_zero, List.set_cons_succ, i64_w, i32_w]
              rfl
            refine one_ (i := 2) (N := some 16) #[true, true, true, true, true, false, false, false, false, false, false, false, false, false, false, false, false, false, false] rfl rfl (one_of HT_.out (by kernel_rfl)) (by decide) (fun K hK => ?_)
            refine goes_ Try.func10 (by kernel_rfl) rfl #[.agg #[.int .u64 a0_0, .int .u64 a0_1, .int .u64 a0_2, .int .u64 a0_3, .int .u64 a0_4, .int .u64 a0_5, .int .u64 a0_6, .int .u64 a0_7, .bool a0_8], .agg #[.int .u64 a1_0, .int .u64 a1_1, .int .u64 a1_2, .int .u64 a1_3, .int .u64 a1_4, .int .u64 a1_5, .int .u64 a1_6, .int .u64 a1_7, .bool a1_8, .bool a1_9]] (by rfl) rfl rfl (by (try simp only [List.map_toArray, List.map_cons, List.map_nil]); first | done | rfl | (simp only [List.length_drop, List.length_take]; rfl)) ?_
            with_reducible refine (prague_Ack.calls a0_0 a0_1 a0_2 a0_3 a0_4 a0_5 a0_6 a0_7 a0_8 a1_0 a1_1 a1_2 a1_3 a1_4 a1_5 a1_6 a1_7 a1_8 a1_9 t234 t235 t236 t237 t238 t239 t240 t241 t242 _ A7.out).mono ?_
            rintro e w26 ⟨rfl, hb⟩
            refine ⟨_, rfl, ?_⟩
            have n0_ := Aside0.mk (blk_below (g := gb231) (o := .cells #[.int .u64 a0_0, .int .u64 a0_1, .int .u64 a0_2, .int .u64 a0_3, .int .u64 a0_4, .int .u64 a0_5, .int .u64 a0_6, .int .u64 a0_7, .bool a0_8] 26 (0, 0)) (by (with_reducible repeat (first | refine blk_drewN ?_ _ | refine blk_drew ?_ | refine blk_alloc ?_ _)); exact BK231.out) hb)
            have n1_ := Aside0.mk (blk_below (g := gb232) (o := .cells #[.int .u64 a1_0, .int .u64 a1_1, .int .u64 a1_2, .int .u64 a1_3, .int .u64 a1_4, .int .u64 a1_5, .int .u64 a1_6, .int .u64 a1_7, .bool a1_8, .bool a1_9] 32 (0, 0)) (by (with_reducible repeat (first | refine blk_drewN ?_ _ | refine blk_drew ?_ | refine blk_alloc ?_ _)); exact BK232.out) hb)
            have n2_ := Aside0.mk (below_step (by repeat (first | (with_reducible first | exact HB.out | apply below_alloc | apply pw_below_drewN | apply below_drew1 | refine below_set ?_ GE231.out | refine below_set ?_ GE232.out) | exact HB.out)) hb)
            clear BK231
            clear BK232
            clear HB
            have BK231 := n0_
            have BK232 := n1_
            have HB := n2_
            clear n0_ n1_ n2_
            (try clear hb)
            (try clear hb2)
            (try clear hk)
            (try clear hi)
            refine hK.out _ _ ⟨(blk_cell BK231.out 0).trans rfl, (blk_cell BK231.out 1).trans rfl, (blk_cell BK231.out 2).trans rfl, (blk_cell BK231.out 3).trans rfl, (blk_cell BK231.out 4).trans rfl, (blk_cell BK231.out 5).trans rfl, (blk_cell BK231.out 6).trans rfl, (blk_cell BK231.out 7).trans rfl, (blk_cell BK231.out 8).trans rfl, (blk_cell BK232.out 0).trans rfl, (blk_cell BK232.out 1).trans rfl, (blk_cell BK232.out 2).trans rfl, (blk_cell BK232.out 3).trans rfl, (blk_cell BK232.out 4).trans rfl, (blk_cell BK232.out 5).trans rfl, (blk_cell BK232.out 6).trans rfl, (blk_cell BK232.out 7).trans rfl, (blk_cell BK232.out 8).trans rfl, (blk_cell BK232.out 9).trans rfl⟩ (fun hHeld => ?_)
            clear hK K
            refine norm_ (a' := ?_) ?_ ?_
            rotate_left
            · show Act.put _ (some 16) _ = _
              simp only [Act.put, List.setIfInBounds_toArray, List.set_cons_zero, List.set_cons_succ, i64_w, i32_w]
              rfl
            refine one_ (i := 5) (N := some 19) #[true, true, true, true, true, true, false, false, false, false, false, false, false, false, false, false, false, false, false] rfl rfl (one_of HT_.out (by kernel_rfl)) (by decide) (fun K hK => ?_)
            refine goes_ Try.func11 (by kernel_rfl) rfl #[.agg #[.int .u64 a0_0, .int .u64 a0_1, .int .u64 a0_2, .int .u64 a0_3, .int .u64 a0_4, .int .u64 a0_5, .int .u64 a0_6, .int .u64 a0_7, .bool a0_8], .agg #[.int .u64 a1_0, .int .u64 a1_1, .int .u64 a1_2, .int .u64 a1_3, .int .u64 a1_4, .int .u64 a1_5, .int .u64 a1_6, .int .u64 a1_7, .bool a1_8, .bool a1_9]] (by rfl) rfl rfl (by (try simp only [List.map_toArray, List.map_cons, List.map_nil]); first | done | rfl | (simp only [List.length_drop, List.length_take]; rfl)) ?_
            with_reducible refine (wigwagref14_Ack.calls a0_0 a0_1 a0_2 a0_3 a0_4 a0_5 a0_6 a0_7 a0_8 a1_0 a1_1 a1_2 a1_3 a1_4 a1_5 a1_6 a1_7 a1_8 a1_9 t243 t244 t245 t246 t247 t248 t249 t250 t251 _ A8.out).mono ?_
            rintro e w27 ⟨rfl, hb⟩
            refine ⟨_, rfl, ?_⟩
            have n0_ := Aside0.mk (blk_below (g := gb231) (o := .cells #[.int .u64 a0_0, .int .u64 a0_1, .int .u64 a0_2, .int .u64 a0_3, .int .u64 a0_4, .int .u64 a0_5, .int .u64 a0_6, .int .u64 a0_7, .bool a0_8] 26 (0, 0)) (by (with_reducible repeat (first | refine blk_drewN ?_ _ | refine blk_drew ?_ | refine blk_alloc ?_ _)); exact BK231.out) hb)
            have n1_ := Aside0.mk (blk_below (g := gb232) (o := .cells #[.int .u64 a1_0, .int .u64 a1_1, .int .u64 a1_2, .int .u64 a1_3, .int .u64 a1_4, .int .u64 a1_5, .int .u64 a1_6, .int .u64 a1_7, .bool a1_8, .bool a1_9] 32 (0, 0)) (by (with_reducible repeat (first | refine blk_drewN ?_ _ | refine blk_drew ?_ | refine blk_alloc ?_ _)); exact BK232.out) hb)
            have n2_ := Aside0.mk (below_step (by repeat (first | (with_reducible first | exact HB.out | apply below_alloc | apply pw_below_drewN | apply below_drew1 | refine below_set ?_ GE231.out | refine below_set ?_ GE232.out) | exact HB.out)) hb)
            clear BK231
            clear BK232
            clear HB
            have BK231 := n0_
            have BK232 := n1_
            have HB := n2_
            clear n0_ n1_ n2_
            (try clear hb)
            (try clear hb2)
            (try clear hk)
            (try clear hi)
            refine hK.out _ _ ⟨(blk_cell BK231.out 0).trans rfl, (blk_cell BK231.out 1).trans rfl, (blk_cell BK231.out 2).trans rfl, (blk_cell BK231.out 3).trans rfl, (blk_cell BK231.out 4).trans rfl, (blk_cell BK231.out 5).trans rfl, (blk_cell BK231.out 6).trans rfl, (blk_cell BK231.out 7).trans rfl, (blk_cell BK231.out 8).trans rfl, (blk_cell BK232.out 0).trans rfl, (blk_cell BK232.out 1).trans rfl, (blk_cell BK232.out 2).trans rfl, (blk_cell BK232.out 3).trans rfl, (blk_cell BK232.out 4).trans rfl, (blk_cell BK232.out 5).trans rfl, (blk_cell BK232.out 6).trans rfl, (blk_cell BK232.out 7).trans rfl, (blk_cell BK232.out 8).trans rfl, (blk_cell BK232.out 9).trans rfl⟩ (fun hHeld => ?_)
            clear hK K
            refine norm_ (a' := ?_) ?_ ?_
            rotate_left
            · show Act.put _ (some 19) _ = _
              simp only [Act.put, List.setIfInBounds_toArray, List.set_cons_zero, List.set_cons_succ, i64_w, i32_w]
              rfl
            refine pure_ (i := 6) (N := some 20) (v := ?_) (a' := ?_) #[true, true, true, true, true, true, true, false, false, false, false, false, false, false, false, false, false, false, false] rfl rfl (any_of HT_.out (by kernel_rfl)) (fun _ _ _ h => h) (Or.inl ⟨by rfl, ?_⟩) ?_ ?_
            rotate_left
            · intro w'
              go_simp
              with_reducible rfl
            rotate_left
            · simp only [Act.put, List.setIfInBounds_toArray, List.set_cons_zero, List.set_cons_succ, i64_w, i32_w]
              rfl
            refine pure_ (i := 7) (N := some 21) (v := ?_) (a' := ?_) #[true, true, true, true, true, true, true, true, false, false, false, false, false, false, false, false, false, false, false] rfl rfl (any_of HT_.out (by kernel_rfl)) (fun _ _ _ h => h) (Or.inl ⟨by rfl, ?_⟩) ?_ ?_
            rotate_left
            · intro w'
              go_simp
              with_reducible rfl
            rotate_left
            · simp only [Act.put, List.setIfInBounds_toArray, List.set_cons_zero, List.set_cons_succ, i64_w, i32_w]
              rfl
            refine pure_ (i := 9) (N := some 23) (v := ?_) (a' := ?_) #[true, true, true, true, true, true, true, true, false, true, false, false, false, false, false, false, false, false, false] rfl rfl (any_of HT_.out (by kernel_rfl)) (fun _ _ _ h => h) (Or.inl ⟨by rfl, ?_⟩) ?_ ?_
            rotate_left
            · intro w'
              go_simp
              with_reducible rfl
            rotate_left
            · simp only [Act.put, List.setIfInBounds_toArray, List.set_cons_zero, List.set_cons_succ, i64_w, i32_w]
              rfl
            refine pure_ (i := 10) (N := some 24) (v := ?_) (a' := ?_) #[true, true, true, true, true, true, true, true, false, true, true, false, false, false, false, false, false, false, false] rfl rfl (any_of HT_.out (by kernel_rfl)) (fun _ _ _ h => h) (Or.inl ⟨by rfl, ?_⟩) ?_ ?_
            rotate_left
            · intro w'
              go_simp
              with_reducible rfl
            rotate_left
            · simp only [Act.put, List.setIfInBounds_toArray, List.set_cons_zero, List.set_cons_succ, i64_w, i32_w]
              rfl
            refine pure_ (i := 13) (N := some 27) (v := ?_) (a' := ?_) #[true, true, true, true, true, true, true, true, false, true, true, false, false, true, false, false, false, false, false] rfl rfl (any_of HT_.out (by kernel_rfl)) (fun _ _ _ h => h) (Or.inl ⟨by rfl, ?_⟩) ?_ ?_
            rotate_left
            · intro w'
              go_simp
              with_reducible rfl
            rotate_left
            · simp only [Act.put, List.setIfInBounds_toArray, List.set_cons_zero, List.set_cons_succ, i64_w, i32_w]
              rfl
            refine pure_ (i := 14) (N := some 28) (v := ?_) (a' := ?_) #[true, true, true, true, true, true, true, true, false, true, true, false, false, true, true, false, false, false, false] rfl rfl (any_of HT_.out (by kernel_rfl)) (fun _ _ _ h => h) (Or.inl ⟨by rfl, ?_⟩) ?_ ?_
            rotate_left
            · intro w'
              go_simp
              with_reducible rfl
            rotate_left
            · simp only [Act.put, List.setIfInBounds_toArray, List.set_cons_zero, List.set_cons_succ, i64_w, i32_w]
              rfl
            refine take_ (i := 8) (N := some 22) (v := ?_) (a' := ?_) #[true, true, true, true, true, true, true, true, true, true, true, false, false, true, true, false, false, false, false] rfl rfl (take_ofW HT_.out HW_.out (by kernel_rfl)) (fun _ _ _ h => h) (Or.inl ⟨by rfl, ?_⟩) hHeld ?_ ?_
            rotate_left
            · rintro w' ⟨s0, s1, s2, s3, s4, s5, s6, s7, s8, s9, s10, s11, s12, s13, s14, s15, s16, s17, s18⟩
              go_simp
              with_reducible rfl
            rotate_left
            · simp only [Act.put, List.setIfInBounds_toArray, List.set_cons_zero, List.set_cons_succ, i64_w, i32_w]
              rfl
            refine take_ (i := 12) (N := some 26) (v := ?_) (a' := ?_) #[true, true, true, true, true, true, true, true, true, true, true, false, true, true, true, false, false, false, false] rfl rfl (take_ofW HT_.out HW_.out (by kernel_rfl)) (fun _ _ _ h => h) (Or.inl ⟨by rfl, ?_⟩) hHeld ?_ ?_
            rotate_left
            · rintro w' ⟨s0, s1, s2, s3, s4, s5, s6, s7, s8, s9, s10, s11, s12, s13, s14, s15, s16, s17, s18⟩
              go_simp
              with_reducible rfl
            rotate_left
            · simp only [Act.put, List.setIfInBounds_toArray, List.set_cons_zero, List.set_cons_succ, i64_w, i32_w]
              rfl
            refine one_ (i := 11) (N := some 25) #[true, true, true, true, true, true, true, true, true, true, true, true, true, true, true, false, false, false, false] rfl rfl (one_of HT_.out (by kernel_rfl)) (by decide) (fun K hK => ?_)
            refine goes_ Try.func9 (by kernel_rfl) rfl #[.agg #[.int .u64 a0_0, .int .u64 a0_1, .int .u64 a0_2, .int .u64 a0_3, .int .u64 a0_4, .int .u64 a0_5, .int .u64 a0_6, .int .u64 a0_7, .bool a0_8], .int .u64 a2, .int .u64 a3] (by rfl) rfl rfl (by (try simp only [List.map_toArray, List.map_cons, List.map_nil]); first | done | rfl | (simp only [List.length_drop, List.length_take]; rfl)) ?_
            with_reducible refine (prague_Mark.calls a0_0 a0_1 a0_2 a0_3 a0_4 a0_5 a0_6 a0_7 a0_8 a2 a3 t252 t253 t254 t255 t256 t257 t258 t259 t260 _ A10.out).mono ?_
            rintro e w28 ⟨rfl, hb⟩
            refine ⟨_, rfl, ?_⟩
            have n0_ := Aside0.mk (blk_below (g := gb231) (o := .cells #[.int .u64 a0_0, .int .u64 a0_1, .int .u64 a0_2, .int .u64 a0_3, .int .u64 a0_4, .int .u64 a0_5, .int .u64 a0_6, .int .u64 a0_7, .bool a0_8] 26 (0, 0)) (by (with_reducible repeat (first | refine blk_drewN ?_ _ | refine blk_drew ?_ | refine blk_alloc ?_ _)); exact BK231.out) hb)
            have n1_ := Aside0.mk (blk_below (g := gb232) (o := .cells #[.int .u64 a1_0, .int .u64 a1_1, .int .u64 a1_2, .int .u64 a1_3, .int .u64 a1_4, .int .u64 a1_5, .int .u64 a1_6, .int .u64 a1_7, .bool a1_8, .bool a1_9] 32 (0, 0)) (by (with_reducible repeat (first | refine blk_drewN ?_ _ | refine blk_drew ?_ | refine blk_alloc ?_ _)); exact BK232.out) hb)
            have n2_ := Aside0.mk (below_step (by repeat (first | (with_reducible first | exact HB.out | apply below_alloc | apply pw_below_drewN | apply below_drew1 | refine below_set ?_ GE231.out | refine below_set ?_ GE232.out) | exact HB.out)) hb)
            clear BK231
            clear BK232
            clear HB
            have BK231 := n0_
            have BK232 := n1_
            have HB := n2_
            clear n0_ n1_ n2_
            (try clear hb)
            (try clear hb2)
            (try clear hk)
            (try clear hi)
            refine hK.out _ _ ⟨(blk_cell BK231.out 0).trans rfl, (blk_cell BK231.out 1).trans rfl, (blk_cell BK231.out 2).trans rfl, (blk_cell BK231.out 3).trans rfl, (blk_cell BK231.out 4).trans rfl, (blk_cell BK231.out 5).trans rfl, (blk_cell BK231.out 6).trans rfl, (blk_cell BK231.out 7).trans rfl, (blk_cell BK231.out 8).trans rfl, (blk_cell BK232.out 0).trans rfl, (blk_cell BK232.out 1).trans rfl, (blk_cell BK232.out 2).trans rfl, (blk_cell BK232.out 3).trans rfl, (blk_cell BK232.out 4).trans rfl, (blk_cell BK232.out 5).trans rfl, (blk_cell BK232.out 6).trans rfl, (blk_cell BK232.out 7).trans rfl, (blk_cell BK232.out 8).trans rfl, (blk_cell BK232.out 9).trans rfl⟩ (fun hHeld => ?_)
            clear hK K
            refine norm_ (a' := ?_) ?_ ?_
            rotate_left
            · show Act.put _ (some 25) _ = _
              simp only [Act.put, List.setIfInBounds_toArray, List.set_cons_zero, List.set_cons_succ, i64_w, i32_w]
              rfl
            refine one_ (i := 15) (N := some 29) #[true, true, true, true, true, true, true, true, true, true, true, true, true, true, true, true, false, false, false] rfl rfl (one_of HT_.out (by kernel_rfl)) (by decide) (fun K hK => ?_)
            refine goes_ Try.func12 (by kernel_rfl) rfl #[.agg #[.int .u64 a0_0, .int .u64 a0_1, .int .u64 a0_2, .int .u64 a0_3, .int .u64 a0_4, .int .u64 a0_5, .int .u64 a0_6, .int .u64 a0_7, .bool a0_8], .int .u64 a2, .int .u64 a3] (by rfl) rfl rfl (by (try simp only [List.map_toArray, List.map_cons, List.map_nil]); first | done | rfl | (simp only [List.length_drop, List.length_take]; rfl)) ?_
            with_reducible refine (wigwagref14_Mark.calls a0_0 a0_1 a0_2 a0_3 a0_4 a0_5 a0_6 a0_7 a0_8 a2 a3 t261 t262 t263 t264 t265 t266 t267 t268 t269 _ A11.out).mono ?_
            rintro e w29 ⟨rfl, hb⟩
            refine ⟨_, rfl, ?_⟩
            have n0_ := Aside0.mk (blk_below (g := gb231) (o := .cells #[.int .u64 a0_0, .int .u64 a0_1, .int .u64 a0_2, .int .u64 a0_3, .int .u64 a0_4, .int .u64 a0_5, .int .u64 a0_6, .int .u64 a0_7, .bool a0_8] 26 (0, 0)) (by (with_reducible repeat (first | refine blk_drewN ?_ _ | refine blk_drew ?_ | refine blk_alloc ?_ _)); exact BK231.out) hb)
            have n1_ := Aside0.mk (blk_below (g := gb232) (o := .cells #[.int .u64 a1_0, .int .u64 a1_1, .int .u64 a1_2, .int .u64 a1_3, .int .u64 a1_4, .int .u64 a1_5, .int .u64 a1_6, .int .u64 a1_7, .bool a1_8, .bool a1_9] 32 (0, 0)) (by (with_reducible repeat (first | refine blk_drewN ?_ _ | refine blk_drew ?_ | refine blk_alloc ?_ _)); exact BK232.out) hb)
            have n2_ := Aside0.mk (below_step (by repeat (first | (with_reducible first | exact HB.out | apply below_alloc | apply pw_below_drewN | apply below_drew1 | refine below_set ?_ GE231.out | refine below_set ?_ GE232.out) | exact HB.out)) hb)
            clear BK231
            clear BK232
            clear HB
            have BK231 := n0_
            have BK232 := n1_
            have HB := n2_
            clear n0_ n1_ n2_
            (try clear hb)
            (try clear hb2)
            (try clear hk)
            (try clear hi)
            refine hK.out _ _ ⟨(blk_cell BK231.out 0).trans rfl, (blk_cell BK231.out 1).trans rfl, (blk_cell BK231.out 2).trans rfl, (blk_cell BK231.out 3).trans rfl, (blk_cell BK231.out 4).trans rfl, (blk_cell BK231.out 5).trans rfl, (blk_cell BK231.out 6).trans rfl, (blk_cell BK231.out 7).trans rfl, (blk_cell BK231.out 8).trans rfl, (blk_cell BK232.out 0).trans rfl, (blk_cell BK232.out 1).trans rfl, (blk_cell BK232.out 2).trans rfl, (blk_cell BK232.out 3).trans rfl, (blk_cell BK232.out 4).trans rfl, (blk_cell BK232.out 5).trans rfl, (blk_cell BK232.out 6).trans rfl, (blk_cell BK232.out 7).trans rfl, (blk_cell BK232.out 8).trans rfl, (blk_cell BK232.out 9).trans rfl⟩ (fun hHeld => ?_)
            clear hK K
            refine norm_ (a' := ?_) ?_ ?_
            rotate_left
            · show Act.put _ (some 29) _ = _
              simp only [Act.put, List.setIfInBounds_toArray, List.set_cons_zero, List.set_cons_succ, i64_w, i32_w]
              rfl
            refine pure_ (i := 16) (N := some 30) (v := ?_) (a' := ?_) #[true, true, true, true, true, true, true, true, true, true, true, true, true, true, true, true, true, false, false] rfl rfl (any_of HT_.out (by kernel_rfl)) (fun _ _ _ h => h) (Or.inl ⟨by rfl, ?_⟩) ?_ ?_
            rotate_left
            · intro w'
              go_simp
              with_reducible rfl
            rotate_left
            · simp only [Act.put, List.setIfInBounds_toArray, List.set_cons_zero, List.set_cons_succ, i64_w, i32_w]
              rfl
            refine pure_ (i := 17) (N := some 31) (v := ?_) (a' := ?_) #[true, true, true, true, true, true, true, true, true, true, true, true, true, true, true, true, true, true, false] rfl rfl (any_of HT_.out (by kernel_rfl)) (fun _ _ _ h => h) (Or.inl ⟨by rfl, ?_⟩) ?_ ?_
            rotate_left
            · intro w'
              go_simp
              with_reducible rfl
            rotate_left
            · simp only [Act.put, List.setIfInBounds_toArray, List.set_cons_zero, List.set_cons_succ, i64_w, i32_w]
              rfl
            refine pure_ (i := 18) (N := some 12) (v := ?_) (a' := ?_) #[true, true, true, true, true, true, true, true, true, true, true, true, true, true, true, true, true, true, true] rfl rfl (any_of HT_.out (by kernel_rfl)) (fun _ _ _ h => h) (Or.inl ⟨by rfl, ?_⟩) ?_ ?_
            rotate_left
            · intro w'
              go_simp
              with_reducible rfl
            rotate_left
            · simp only [Act.put, List.setIfInBounds_toArray, List.set_cons_zero, List.set_cons_succ, i64_w, i32_w]
              rfl
            refine done_ (done_of HT_.out (by kernel_rfl)) ?_
            try go_wp2
            have n0_ := Aside0.mk (blk_drew BK231.out)
            have n1_ := Aside0.mk (blk_drew BK232.out)
            have n2_ := Aside0.mk (below_drew1 HB.out)
            clear BK231
            clear BK232
            clear HB
            have BK231 := n0_
            have BK232 := n1_
            have HB := n2_
            clear n0_ n1_ n2_
            refine start_ (n := 30) (S := fun w' => w'.cell? ⟨gb231, 0, none⟩ = some (.int .u64 a0_0) ∧ w'.cell? ⟨gb231, 1, none⟩ = some (.int .u64 a0_1) ∧ w'.cell? ⟨gb231, 2, none⟩ = some (.int .u64 a0_2) ∧ w'.cell? ⟨gb231, 3, none⟩ = some (.int .u64 a0_3) ∧ w'.cell? ⟨gb231, 4, none⟩ = some (.int .u64 a0_4) ∧ w'.cell? ⟨gb231, 5, none⟩ = some (.int .u64 a0_5) ∧ w'.cell? ⟨gb231, 6, none⟩ = some (.int .u64 a0_6) ∧ w'.cell? ⟨gb231, 7, none⟩ = some (.int .u64 a0_7) ∧ w'.cell? ⟨gb231, 8, none⟩ = some (.bool a0_8)) (ds := []) #[false, false, false, false, false, false, false, false, false, false, false, false, false, false, false, false, false, false, false, false, false, false, false, false, false, false, false, false, false, false] (by kernel_rfl) rfl rfl ⟨(blk_cell BK231.out 0).trans rfl, (blk_cell BK231.out 1).trans rfl, (blk_cell BK231.out 2).trans rfl, (blk_cell BK231.out 3).trans rfl, (blk_cell BK231.out 4).trans rfl, (blk_cell BK231.out 5).trans rfl, (blk_cell BK231.out 6).trans rfl, (blk_cell BK231.out 7).trans rfl, (blk_cell BK231.out 8).trans rfl⟩ (fun hHeld => ?_); refine with_tabW wigwaglaw14_PragueTells.tab3 wigwaglaw14_PragueTells.bits3 (fun HT_ HW_ => ?_)
            generalize w29.drew = w30 at BK231 BK232 HB hHeld ⊢
            refine pure_ (i := 0) (N := some 32) (v := ?_) (a' := ?_) #[true, false, false, false, false, false, false, false, false, false, false, false, false, false, false, false, false, false, false, false, false, false, false, false, false, false, false, false, false, false] rfl rfl (any_of HT_.out (by kernel_rfl)) (fun _ _ _ h => h) (Or.inl ⟨by rfl, ?_⟩) ?_ ?_
            rotate_left
            · intro w'
              go_simp
              with_reducible rfl
            rotate_left
            · simp only [Act.put, List.setIfInBounds_toArray, List.set_cons_zero, List.set_cons_succ, i64_w, i32_w]
              rfl
            refine pure_ (i := 1) (N := some 33) (v := ?_) (a' := ?_) #[true, true, false, false, false, false, false, false, false, false, false, false, false, false, false, false, false, false, false, false, false, false, false, false, false, false, false, false, false, false] rfl rfl (any_of HT_.out (by kernel_rfl)) (fun _ _ _ h => h) (Or.inl ⟨by rfl, ?_⟩) ?_ ?_
            rotate_left
            · intro w'
              go_simp
              with_reducible rfl
            rotate_left
            · simp only [Act.put, List.setIfInBounds_toArray, List.set_cons_zero, List.set_cons_succ, i64_w, i32_w]
              rfl
            refine pure_ (i := 2) (N := some 34) (v := ?_) (a' := ?_) #[true, true, true, false, false, false, false, false, false, false, false, false, false, false, false, false, false, false, false, false, false, false, false, false, false, false, false, false, false, false] rfl rfl (any_of HT_.out (by kernel_rfl)) (fun _ _ _ h => h) (Or.inl ⟨by rfl, ?_⟩) ?_ ?_
            rotate_left
            · intro w'
              go_simp
              with_reducible rfl
            rotate_left
            · simp only [Act.put, List.setIfInBounds_toArray, List.set_cons_zero, List.set_cons_succ, i64_w, i32_w]
              rfl
            refine pure_ (i := 3) (N := some 35) (v := ?_) (a' := ?_) #[true, true, true, true, false, false, false, false, false, false, false, false, false, false, false, false, false, false, false, false, false, false, false, false, false, false, false, false, false, false] rfl rfl (any_of HT_.out (by kernel_rfl)) (fun _ _ _ h => h) (Or.inl ⟨by rfl, ?_⟩) ?_ ?_
            rotate_left
            · intro w'
              go_simp
              with_reducible rfl
            rotate_left
            · simp only [Act.put, List.setIfInBounds_toArray, List.set_cons_zero, List.set_cons_succ, i64_w, i32_w]
              rfl
            refine pure_ (i := 4) (N := some 36) (v := ?_) (a' := ?_) #[true, true, true, true, true, false, false, false, false, false, false, false, false, false, false, false, false, false, false, false, false, false, false, false, false, false, false, false, false, false] rfl rfl (any_of HT_.out (by kernel_rfl)) (fun _ _ _ h => h) (Or.inl ⟨by rfl, ?_⟩) ?_ ?_
            rotate_left
            · intro w'
              go_simp
              with_reducible rfl
            rotate_left
            · simp only [Act.put, List.setIfInBounds_toArray, List.set_cons_zero, List.set_cons_succ, i64_w, i32_w]
              rfl
            refine pure_ (i := 6) (N := some 38) (v := ?_) (a' := ?_) #[true, true, true, true, true, false, true, false, false, false, false, false, false, false, false, false, false, false, false, false, false, false, false, false, false, false, false, false, false, false] rfl rfl (any_of HT_.out (by kernel_rfl)) (fun _ _ _ h => h) (Or.inl ⟨by rfl, ?_⟩) ?_ ?_
            rotate_left
            · intro w'
              go_simp
              with_reducible rfl
            rotate_left
            · simp only [Act.put, List.setIfInBounds_toArray, List.set_cons_zero, List.set_cons_succ, i64_w, i32_w]
              rfl
            refine pure_ (i := 7) (N := some 39) (v := ?_) (a' := ?_) #[true, true, true, true, true, false, true, true, false, false, false, false, false, false, false, false, false, false, false, false, false, false, false, false, false, false, false, false, false, false] rfl rfl (any_of HT_.out (by kernel_rfl)) (fun _ _ _ h => h) (Or.inl ⟨by rfl, ?_⟩) ?_ ?_
            rotate_left
            · intro w'
              go_simp
              with_reducible rfl
            rotate_left
            · simp only [Act.put, List.setIfInBounds_toArray, List.set_cons_zero, List.set_cons_succ, i64_w, i32_w]
              rfl
            refine pure_ (i := 10) (N := some 42) (v := ?_) (a' := ?_) #[true, true, true, true, true, false, true, true, false, false, true, false, false, false, false, false, false, false, false, false, false, false, false, false, false, false, false, false, false, false] rfl rfl (any_of HT_.out (by kernel_rfl)) (fun _ _ _ h => h) (Or.inl ⟨by rfl, ?_⟩) ?_ ?_
            rotate_left
            · intro w'
              go_simp
              with_reducible rfl
            rotate_left
            · simp only [Act.put, List.setIfInBounds_toArray, List.set_cons_zero, List.set_cons_succ, i64_w, i32_w]
              rfl
            refine pure_ (i := 11) (N := some 43) (v := ?_) (a' := ?_) #[true, true, true, true, true, false, true, true, false, false, true, true, false, false, false, false, false, false, false, false, false, false, false, false, false, false, false, false, false, false] rfl rfl (any_of HT_.out (by kernel_rfl)) (fun _ _ _ h => h) (Or.inl ⟨by rfl, ?_⟩) ?_ ?_
            rotate_left
            · intro w'
              go_simp
              with_reducible rfl
            rotate_left
            · simp only [Act.put, List.setIfInBounds_toArray, List.set_cons_zero, List.set_cons_succ, i64_w, i32_w]
              rfl
            refine take_ (i := 5) (N := some 37) (v := ?_) (a' := ?_) #[true, true, true, true, true, true, true, true, false, false, true, true, false, false, false, false, false, false, false, false, false, false, false, false, false, false, false, false, false, false] rfl rfl (take_ofW HT_.out HW_.out (by kernel_rfl)) (fun _ _ _ h => h) (Or.inl ⟨by rfl, ?_⟩) hHeld ?_ ?_
            rotate_left
            · rintro w' ⟨s0, s1, s2, s3, s4, s5, s6, s7, s8⟩
              go_simp
              with_reducible rfl
            rotate_left
            · simp only [Act.put, List.setIfInBounds_toArray, List.set_cons_zero, List.set_cons_succ, i64_w, i32_w]
              rfl
            refine take_ (i := 9) (N := some 41) (v := ?_) (a' := ?_) #[true, true, true, true, true, true, true, true, false, true, true, true, false, false, false, false, false, false, false, false, false, false, false, false, false, false, false, false, false, false] rfl rfl (take_ofW HT_.out HW_.out (by kernel_rfl)) (fun _ _ _ h => h) (Or.inl ⟨by rfl, ?_⟩) hHeld ?_ ?_
            rotate_left
            · rintro w' ⟨s0, s1, s2, s3, s4, s5, s6, s7, s8⟩
              go_simp
              with_reducible rfl
            rotate_left
            · simp only [Act.put, List.setIfInBounds_toArray, List.set_cons_zero, List.set_cons_succ, i64_w, i32_w]
              rfl
            refine one_ (i := 8) (N := some 40) #[true, true, true, true, true, true, true, true, true, true, true, true, false, false, false, false, false, false, false, false, false, false, false, false, false, false, false, false, false, false] rfl rfl (one_of HT_.out (by kernel_rfl)) (by decide) (fun K hK => ?_)
            refine goes_ Try.func13 (by kernel_rfl) rfl #[.agg #[.int .u64 a0_0, .int .u64 a0_1, .int .u64 a0_2, .int .u64 a0_3, .int .u64 a0_4, .int .u64 a0_5, .int .u64 a0_6, .int .u64 a0_7, .bool a0_8], .int .u64 a3, .int .u64 a4] (by rfl) rfl rfl (by (try simp only [List.map_toArray, List.map_cons, List.map_nil]); first | done | rfl | (simp only [List.length_drop, List.length_take]; rfl)) ?_
            with_reducible refine (prague_Loss.calls a0_0 a0_1 a0_2 a0_3 a0_4 a0_5 a0_6 a0_7 a0_8 a3 a4 t270 t271 t272 t273 t274 t275 t276 t277 t278 _ A14.out).mono ?_
            rintro e w31 ⟨rfl, hb⟩
            refine ⟨_, rfl, ?_⟩
            have n0_ := Aside0.mk (blk_below (g := gb231) (o := .cells #[.int .u64 a0_0, .int .u64 a0_1, .int .u64 a0_2, .int .u64 a0_3, .int .u64 a0_4, .int .u64 a0_5, .int .u64 a0_6, .int .u64 a0_7, .bool a0_8] 26 (0, 0)) (by (with_reducible repeat (first | refine blk_drewN ?_ _ | refine blk_drew ?_ | refine blk_alloc ?_ _)); exact BK231.out) hb)
            have n1_ := Aside0.mk (blk_below (g := gb232) (o := .cells #[.int .u64 a1_0, .int .u64 a1_1, .int .u64 a1_2, .int .u64 a1_3, .int .u64 a1_4, .int .u64 a1_5, .int .u64 a1_6, .int .u64 a1_7, .bool a1_8, .bool a1_9] 32 (0, 0)) (by (with_reducible repeat (first | refine blk_drewN ?_ _ | refine blk_drew ?_ | refine blk_alloc ?_ _)); exact BK232.out) hb)
            have n2_ := Aside0.mk (below_step (by repeat (first | (with_reducible first | exact HB.out | apply below_alloc | apply pw_below_drewN | apply below_drew1 | refine below_set ?_ GE231.out | refine below_set ?_ GE232.out) | exact HB.out)) hb)
            clear BK231
            clear BK232
            clear HB
            have BK231 := n0_
            have BK232 := n1_
            have HB := n2_
            clear n0_ n1_ n2_
            (try clear hb)
            (try clear hb2)
            (try clear hk)
            (try clear hi)
            refine hK.out _ _ ⟨(blk_cell BK231.out 0).trans rfl, (blk_cell BK231.out 1).trans rfl, (blk_cell BK231.out 2).trans rfl, (blk_cell BK231.out 3).trans rfl, (blk_cell BK231.out 4).trans rfl, (blk_cell BK231.out 5).trans rfl, (blk_cell BK231.out 6).trans rfl, (blk_cell BK231.out 7).trans rfl, (blk_cell BK231.out 8).trans rfl⟩ (fun hHeld => ?_)
            clear hK K
            refine norm_ (a' := ?_) ?_ ?_
            rotate_left
            · show Act.put _ (some 40) _ = _
              simp only [Act.put, List.setIfInBounds_toArray, List.set_cons_zero, List.set_cons_succ, i64_w, i32_w]
              rfl
            refine one_ (i := 12) (N := some 44) #[true, true, true, true, true, true, true, true, true, true, true, true, true, false, false, false, false, false, false, false, false, false, false, false, false, false, false, false, false, false] rfl rfl (one_of HT_.out (by kernel_rfl)) (by decide) (fun K hK => ?_)
            refine goes_ Try.func14 (by kernel_rfl) rfl #[.agg #[.int .u64 a0_0, .int .u64 a0_1, .int .u64 a0_2, .int .u64 a0_3, .int .u64 a0_4, .int .u64 a0_5, .int .u64 a0_6, .int .u64 a0_7, .bool a0_8], .int .u64 a3, .int .u64 a4] (by rfl) rfl rfl (by (try simp only [List.map_toArray, List.map_cons, List.map_nil]); first | done | rfl | (simp only [List.length_drop, List.length_take]; rfl)) ?_
            with_reducible refine (wigwagref14_Loss.calls a0_0 a0_1 a0_2 a0_3 a0_4 a0_5 a0_6 a0_7 a0_8 a3 a4 t279 t280 t281 t282 t283 t284 t285 t286 t287 _ A15.out).mono ?_
            rintro e w32 ⟨rfl, hb⟩
            refine ⟨_, rfl, ?_⟩
            have n0_ := Aside0.mk (blk_below (g := gb231) (o := .cells #[.int .u64 a0_0, .int .u64 a0_1, .int .u64 a0_2, .int .u64 a0_3, .int .u64 a0_4, .int .u64 a0_5, .int .u64 a0_6, .int .u64 a0_7, .bool a0_8] 26 (0, 0)) (by (with_reducible repeat (first | refine blk_drewN ?_ _ | refine blk_drew ?_ | refine blk_alloc ?_ _)); exact BK231.out) hb)
            have n1_ := Aside0.mk (blk_below (g := gb232) (o := .cells #[.int .u64 a1_0, .int .u64 a1_1, .int .u64 a1_2, .int .u64 a1_3, .int .u64 a1_4, .int .u64 a1_5, .int .u64 a1_6, .int .u64 a1_7, .bool a1_8, .bool a1_9] 32 (0, 0)) (by (with_reducible repeat (first | refine blk_drewN ?_ _ | refine blk_drew ?_ | refine blk_alloc ?_ _)); exact BK232.out) hb)
            have n2_ := Aside0.mk (below_step (by repeat (first | (with_reducible first | exact HB.out | apply below_alloc | apply pw_below_drewN | apply below_drew1 | refine below_set ?_ GE231.out | refine below_set ?_ GE232.out) | exact HB.out)) hb)
            clear BK231
            clear BK232
            clear HB
            have BK231 := n0_
            have BK232 := n1_
            have HB := n2_
            clear n0_ n1_ n2_
            (try clear hb)
            (try clear hb2)
            (try clear hk)
            (try clear hi)
            refine hK.out _ _ ⟨(blk_cell BK231.out 0).trans rfl, (blk_cell BK231.out 1).trans rfl, (blk_cell BK231.out 2).trans rfl, (blk_cell BK231.out 3).trans rfl, (blk_cell BK231.out 4).trans rfl, (blk_cell BK231.out 5).trans rfl, (blk_cell BK231.out 6).trans rfl, (blk_cell BK231.out 7).trans rfl, (blk_cell BK231.out 8).trans rfl⟩ (fun hHeld => ?_)
            clear hK K
            refine norm_ (a' := ?_) ?_ ?_
            rotate_left
            · show Act.put _ (some 44) _ = _
              simp only [Act.put, List.setIfInBounds_toArray, List.set_cons_zero, List.set_cons_succ, i64_w, i32_w]
              rfl
            refine pure_ (i := 13) (N := some 45) (v := ?_) (a' := ?_) #[true, true, true, true, true, true, true, true, true, true, true, true, true, true, false, false, false, false, false, false, false, false, false, false, false, false, false, false, false, false] rfl rfl (any_of HT_.out (by kernel_rfl)) (fun _ _ _ h => h) (Or.inl ⟨by rfl, ?_⟩) ?_ ?_
            rotate_left
            · intro w'
              go_simp
              with_reducible rfl
            rotate_left
            · simp only [Act.put, List.setIfInBounds_toArray, List.set_cons_zero, List.set_cons_succ, i64_w, i32_w]
              rfl
            refine pure_ (i := 14) (N := some 46) (v := ?_) (a' := ?_) #[true, true, true, true, true, true, true, true, true, true, true, true, true, true, true, false, false, false, false, false, false, false, false, false, false, false, false, false, false, false] rfl rfl (any_of HT_.out (by kernel_rfl)) (fun _ _ _ h => h) (Or.inl ⟨by rfl, ?_⟩) ?_ ?_
            rotate_left
            · intro w'
              go_simp
              with_reducible rfl
            rotate_left
            · simp only [Act.put, List.setIfInBounds_toArray, List.set_cons_zero, List.set_cons_succ, i64_w, i32_w]
              rfl
            refine pure_ (i := 15) (N := some 47) (v := ?_) (a' := ?_) #[true, true, true, true, true, true, true, true, true, true, true, true, true, true, true, true, false, false, false, false, false, false, false, false, false, false, false, false, false, false] rfl rfl (any_of HT_.out (by kernel_rfl)) (fun _ _ _ h => h) (Or.inl ⟨by rfl, ?_⟩) ?_ ?_
            rotate_left
            · intro w'
              go_simp
              with_reducible rfl
            rotate_left
            · simp only [Act.put, List.setIfInBounds_toArray, List.set_cons_zero, List.set_cons_succ, i64_w, i32_w]
              rfl
            refine take_ (i := 16) (N := some 48) (v := ?_) (a' := ?_) #[true, true, true, true, true, true, true, true, true, true, true, true, true, true, true, true, true, false, false, false, false, false, false, false, false, false, false, false, false, false] rfl rfl (take_ofW HT_.out HW_.out (by kernel_rfl)) (fun _ _ _ h => h) (Or.inl ⟨by rfl, ?_⟩) hHeld ?_ ?_
            rotate_left
            · rintro w' ⟨s0, s1, s2, s3, s4, s5, s6, s7, s8⟩
              go_simp
              with_reducible rfl
            rotate_left
            · simp only [Act.put, List.setIfInBounds_toArray, List.set_cons_zero, List.set_cons_succ, i64_w, i32_w]
              rfl
            refine take_ (i := 18) (N := some 50) (v := ?_) (a' := ?_) #[true, true, true, true, true, true, true, true, true, true, true, true, true, true, true, true, true, false, true, false, false, false, false, false, false, false, false, false, false, false] rfl rfl (take_ofW HT_.out HW_.out (by kernel_rfl)) (fun _ _ _ h => h) (Or.inl ⟨by rfl, ?_⟩) hHeld ?_ ?_
            rotate_left
            · rintro w' ⟨s0, s1, s2, s3, s4, s5, s6, s7, s8⟩
              go_simp
              with_reducible rfl
            rotate_left
            · simp only [Act.put, List.setIfInBounds_toArray, List.set_cons_zero, List.set_cons_succ, i64_w, i32_w]
              rfl
            refine one_ (i := 17) (N := some 49) #[true, true, true, true, true, true, true, true, true, true, true, true, true, true, true, true, true, true, true, false, false, false, false, false, false, false, false, false, false, false] rfl rfl (one_of HT_.out (by kernel_rfl)) (by decide) (fun K hK => ?_)
            refine goes_ Try.func15 (by kernel_rfl) rfl #[.agg #[.int .u64 a0_0, .int .u64 a0_1, .int .u64 a0_2, .int .u64 a0_3, .int .u64 a0_4, .int .u64 a0_5, .int .u64 a0_6, .int .u64 a0_7, .bool a0_8]] (by rfl) rfl rfl (by (try simp only [List.map_toArray, List.map_cons, List.map_nil]); first | done | rfl | (simp only [List.length_drop, List.length_take]; rfl)) ?_
            with_reducible refine (prague_Collapse.calls a0_0 a0_1 a0_2 a0_3 a0_4 a0_5 a0_6 a0_7 a0_8 t288 t289 t290 t291 t292 t293 t294 t295 t296 _ A17.out).mono ?_
            rintro e w33 ⟨rfl, hb⟩
            refine ⟨_, rfl, ?_⟩
            have n0_ := Aside0.mk (blk_below (g := gb231) (o := .cells #[.int .u64 a0_0, .int .u64 a0_1, .int .u64 a0_2, .int .u64 a0_3, .int .u64 a0_4, .int .u64 a0_5, .int .u64 a0_6, .int .u64 a0_7, .bool a0_8] 26 (0, 0)) (by (with_reducible repeat (first | refine blk_drewN ?_ _ | refine blk_drew ?_ | refine blk_alloc ?_ _)); exact BK231.out) hb)
            have n1_ := Aside0.mk (blk_below (g := gb232) (o := .cells #[.int .u64 a1_0, .int .u64 a1_1, .int .u64 a1_2, .int .u64 a1_3, .int .u64 a1_4, .int .u64 a1_5, .int .u64 a1_6, .int .u64 a1_7, .bool a1_8, .bool a1_9] 32 (0, 0)) (by (with_reducible repeat (first | refine blk_drewN ?_ _ | refine blk_drew ?_ | refine blk_alloc ?_ _)); exact BK232.out) hb)
            have n2_ := Aside0.mk (below_step (by repeat (first | (with_reducible first | exact HB.out | apply below_alloc | apply pw_below_drewN | apply below_drew1 | refine below_set ?_ GE231.out | refine below_set ?_ GE232.out) | exact HB.out)) hb)
            clear BK231
            clear BK232
            clear HB
            have BK231 := n0_
            have BK232 := n1_
            have HB := n2_
            clear n0_ n1_ n2_
            (try clear hb)
            (try clear hb2)
            (try clear hk)
            (try clear hi)
            refine hK.out _ _ ⟨(blk_cell BK231.out 0).trans rfl, (blk_cell BK231.out 1).trans rfl, (blk_cell BK231.out 2).trans rfl, (blk_cell BK231.out 3).trans rfl, (blk_cell BK231.out 4).trans rfl, (blk_cell BK231.out 5).trans rfl, (blk_cell BK231.out 6).trans rfl, (blk_cell BK231.out 7).trans rfl, (blk_cell BK231.out 8).trans rfl⟩ (fun hHeld => ?_)
            clear hK K
            refine norm_ (a' := ?_) ?_ ?_
            rotate_left
            · show Act.put _ (some 49) _ = _
              simp only [Act.put, List.setIfInBounds_toArray, List.set_cons_zero, List.set_cons_succ, i64_w, i32_w]
              rfl
            refine one_ (i := 19) (N := some 51) #[true, true, true, true, true, true, true, true, true, true, true, true, true, true, true, true, true, true, true, true, false, false, false, false, false, false, false, false, false, false] rfl rfl (one_of HT_.out (by kernel_rfl)) (by decide) (fun K hK => ?_)
            refine goes_ Try.func16 (by kernel_rfl) rfl #[.agg #[.int .u64 a0_0, .int .u64 a0_1, .int .u64 a0_2, .int .u64 a0_3, .int .u64 a0_4, .int .u64 a0_5, .int .u64 a0_6, .int .u64 a0_7, .bool a0_8]] (by rfl) rfl rfl (by (try simp only [List.map_toArray, List.map_cons, List.map_nil]); first | done | rfl | (simp only [List.length_drop, List.length_take]; rfl)) ?_
            with_reducible refine (wigwagref14_Collapse.calls a0_0 a0_1 a0_2 a0_3 a0_4 a0_5 a0_6 a0_7 a0_8 t297 t298 t299 t300 t301 t302 t303 t304 t305 _ A18.out).mono ?_
            rintro e w34 ⟨rfl, hb⟩
            refine ⟨_, rfl, ?_⟩
            have n0_ := Aside0.mk (blk_below (g := gb231) (o := .cells #[.int .u64 a0_0, .int .u64 a0_1, .int .u64 a0_2, .int .u64 a0_3, .int .u64 a0_4, .int .u64 a0_5, .int .u64 a0_6, .int .u64 a0_7, .bool a0_8] 26 (0, 0)) (by (with_reducible repeat (first | refine blk_drewN ?_ _ | refine blk_drew ?_ | refine blk_alloc ?_ _)); exact BK231.out) hb)
            have n1_ := Aside0.mk (blk_below (g := gb232) (o := .cells #[.int .u64 a1_0, .int .u64 a1_1, .int .u64 a1_2, .int .u64 a1_3, .int .u64 a1_4, .int .u64 a1_5, .int .u64 a1_6, .int .u64 a1_7, .bool a1_8, .bool a1_9] 32 (0, 0)) (by (with_reducible repeat (first | refine blk_drewN ?_ _ | refine blk_drew ?_ | refine blk_alloc ?_ _)); exact BK232.out) hb)
            have n2_ := Aside0.mk (below_step (by repeat (first | (with_reducible first | exact HB.out | apply below_alloc | apply pw_below_drewN | apply below_drew1 | refine below_set ?_ GE231.out | refine below_set ?_ GE232.out) | exact HB.out)) hb)
            clear BK231
            clear BK232
            clear HB
            have BK231 := n0_
            have BK232 := n1_
            have HB := n2_
            clear n0_ n1_ n2_
            (try clear hb)
            (try clear hb2)
            (try clear hk)
            (try clear hi)
            refine hK.out _ _ ⟨(blk_cell BK231.out 0).trans rfl, (blk_cell BK231.out 1).trans rfl, (blk_cell BK231.out 2).trans rfl, (blk_cell BK231.out 3).trans rfl, (blk_cell BK231.out 4).trans rfl, (blk_cell BK231.out 5).trans rfl, (blk_cell BK231.out 6).trans rfl, (blk_cell BK231.out 7).trans rfl, (blk_cell BK231.out 8).trans rfl⟩ (fun hHeld => ?_)
            clear hK K
            refine norm_ (a' := ?_) ?_ ?_
            rotate_left
            · show Act.put _ (some 51) _ = _
              simp only [Act.put, List.setIfInBounds_toArray, List.set_cons_zero, List.set_cons_succ, i64_w, i32_w]
              rfl
            refine pure_ (i := 20) (N := some 52) (v := ?_) (a' := ?_) #[true, true, true, true, true, true, true, true, true, true, true, true, true, true, true, true, true, true, true, true, true, false, false, false, false, false, false, false, false, false] rfl rfl (any_of HT_.out (by kernel_rfl)) (fun _ _ _ h => h) (Or.inl ⟨by rfl, ?_⟩) ?_ ?_
            rotate_left
            · intro w'
              go_simp
              with_reducible rfl
            rotate_left
            · simp only [Act.put, List.setIfInBounds_toArray, List.set_cons_zero, List.set_cons_succ, i64_w, i32_w]
              rfl
            refine pure_ (i := 21) (N := some 53) (v := ?_) (a' := ?_) #[true, true, true, true, true, true, true, true, true, true, true, true, true, true, true, true, true, true, true, true, true, true, false, false, false, false, false, false, false, false] rfl rfl (any_of HT_.out (by kernel_rfl)) (fun _ _ _ h => h) (Or.inl ⟨by rfl, ?_⟩) ?_ ?_
            rotate_left
            · intro w'
              go_simp
              with_reducible rfl
            rotate_left
            · simp only [Act.put, List.setIfInBounds_toArray, List.set_cons_zero, List.set_cons_succ, i64_w, i32_w]
              rfl
            refine pure_ (i := 22) (N := some 54) (v := ?_) (a' := ?_) #[true, true, true, true, true, true, true, true, true, true, true, true, true, true, true, true, true, true, true, true, true, true, true, false, false, false, false, false, false, false] rfl rfl (any_of HT_.out (by kernel_rfl)) (fun _ _ _ h => h) (Or.inl ⟨by rfl, ?_⟩) ?_ ?_
            rotate_left
            · intro w'
              go_simp
              with_reducible rfl
            rotate_left
            · simp only [Act.put, List.setIfInBounds_toArray, List.set_cons_zero, List.set_cons_succ, i64_w, i32_w]
              rfl
            refine pure_ (i := 23) (N := some 55) (v := ?_) (a' := ?_) #[true, true, true, true, true, true, true, true, true, true, true, true, true, true, true, true, true, true, true, true, true, true, true, true, false, false, false, false, false, false] rfl rfl (any_of HT_.out (by kernel_rfl)) (fun _ _ _ h => h) (Or.inl ⟨by rfl, ?_⟩) ?_ ?_
            rotate_left
            · intro w'
              go_simp
              with_reducible rfl
            rotate_left
            · simp only [Act.put, List.setIfInBounds_toArray, List.set_cons_zero, List.set_cons_succ, i64_w, i32_w]
              rfl
            refine pure_ (i := 25) (N := some 57) (v := ?_) (a' := ?_) #[true, true, true, true, true, true, true, true, true, true, true, true, true, true, true, true, true, true, true, true, true, true, true, true, false, true, false, false, false, false] rfl rfl (any_of HT_.out (by kernel_rfl)) (fun _ _ _ h => h) (Or.inl ⟨by rfl, ?_⟩) ?_ ?_
            rotate_left
            · intro w'
              go_simp
              with_reducible rfl
            rotate_left
            · simp only [Act.put, List.setIfInBounds_toArray, List.set_cons_zero, List.set_cons_succ, i64_w, i32_w]
              rfl
            refine one_ (i := 24) (N := some 56) #[true, true, true, true, true, true, true, true, true, true, true, true, true, true, true, true, true, true, true, true, true, true, true, true, true, true, false, false, false, false] rfl rfl (one_of HT_.out (by kernel_rfl)) (by decide) (fun K hK => ?_)
            refine goes_ Try.func17 (by kernel_rfl) rfl #[.int .u64 a3] (by rfl) rfl rfl (by (try simp only [List.map_toArray, List.map_cons, List.map_nil]); first | done | rfl | (simp only [List.length_drop, List.length_take]; rfl)) ?_
            with_reducible refine (prague_New.calls a3 t306 t307 t308 t309 t310 t311 t312 t313 t314 _ A20.out).mono ?_
            rintro e w35 ⟨rfl, hb⟩
            refine ⟨_, rfl, ?_⟩
            have n0_ := Aside0.mk (blk_below (g := gb231) (o := .cells #[.int .u64 a0_0, .int .u64 a0_1, .int .u64 a0_2, .int .u64 a0_3, .int .u64 a0_4, .int .u64 a0_5, .int .u64 a0_6, .int .u64 a0_7, .bool a0_8] 26 (0, 0)) (by (with_reducible repeat (first | refine blk_drewN ?_ _ | refine blk_drew ?_ | refine blk_alloc ?_ _)); exact BK231.out) hb)
            have n1_ := Aside0.mk (blk_below (g := gb232) (o := .cells #[.int .u64 a1_0, .int .u64 a1_1, .int .u64 a1_2, .int .u64 a1_3, .int .u64 a1_4, .int .u64 a1_5, .int .u64 a1_6, .int .u64 a1_7, .bool a1_8, .bool a1_9] 32 (0, 0)) (by (with_reducible repeat (first | refine blk_drewN ?_ _ | refine blk_drew ?_ | refine blk_alloc ?_ _)); exact BK232.out) hb)
            have n2_ := Aside0.mk (below_step (by repeat (first | (with_reducible first | exact HB.out | apply below_alloc | apply pw_below_drewN | apply below_drew1 | refine below_set ?_ GE231.out | refine below_set ?_ GE232.out) | exact HB.out)) hb)
            clear BK231
            clear BK232
            clear HB
            have BK231 := n0_
            have BK232 := n1_
            have HB := n2_
            clear n0_ n1_ n2_
            (try clear hb)
            (try clear hb2)
            (try clear hk)
            (try clear hi)
            refine hK.out _ _ ⟨(blk_cell BK231.out 0).trans rfl, (blk_cell BK231.out 1).trans rfl, (blk_cell BK231.out 2).trans rfl, (blk_cell BK231.out 3).trans rfl, (blk_cell BK231.out 4).trans rfl, (blk_cell BK231.out 5).trans rfl, (blk_cell BK231.out 6).trans rfl, (blk_cell BK231.out 7).trans rfl, (blk_cell BK231.out 8).trans rfl⟩ (fun hHeld => ?_)
            clear hK K
            refine norm_ (a' := ?_) ?_ ?_
            rotate_left
            · show Act.put _ (some 56) _ = _
              simp only [Act.put, List.setIfInBounds_toArray, List.set_cons_zero, List.set_cons_succ, i64_w, i32_w]
              rfl
            refine one_ (i := 26) (N := some 58) #[true, true, true, true, true, true, true, true, true, true, true, true, true, true, true, true, true, true, true, true, true, true, true, true, true, true, true, false, false, false] rfl rfl (one_of HT_.out (by kernel_rfl)) (by decide) (fun K hK => ?_)
            refine goes_ Try.func18 (by kernel_rfl) rfl #[.int .u64 a3] (by rfl) rfl rfl (by (try simp only [List.map_toArray, List.map_cons, List.map_nil]); first | done | rfl | (simp only [List.length_drop, List.length_take]; rfl)) ?_
            with_reducible refine (wigwagref14_New.calls a3 t315 t316 t317 t318 t319 t320 t321 t322 t323 _ A21.out).mono ?_
            rintro e w36 ⟨rfl, hb⟩
            refine ⟨_, rfl, ?_⟩
            have n0_ := Aside0.mk (blk_below (g := gb231) (o := .cells #[.int .u64 a0_0, .int .u64 a0_1, .int .u64 a0_2, .int .u64 a0_3, .int .u64 a0_4, .int .u64 a0_5, .int .u64 a0_6, .int .u64 a0_7, .bool a0_8] 26 (0, 0)) (by (with_reducible repeat (first | refine blk_drewN ?_ _ | refine blk_drew ?_ | refine blk_alloc ?_ _)); exact BK231.out) hb)
            have n1_ := Aside0.mk (blk_below (g := gb232) (o := .cells #[.int .u64 a1_0, .int .u64 a1_1, .int .u64 a1_2, .int .u64 a1_3, .int .u64 a1_4, .int .u64 a1_5, .int .u64 a1_6, .int .u64 a1_7, .bool a1_8, .bool a1_9] 32 (0, 0)) (by (with_reducible repeat (first | refine blk_drewN ?_ _ | refine blk_drew ?_ | refine blk_alloc ?_ _)); exact BK232.out) hb)
            have n2_ := Aside0.mk (below_step (by repeat (first | (with_reducible first | exact HB.out | apply below_alloc | apply pw_below_drewN | apply below_drew1 | refine below_set ?_ GE231.out | refine below_set ?_ GE232.out) | exact HB.out)) hb)
            clear BK231
            clear BK232
            clear HB
            have BK231 := n0_
            have BK232 := n1_
            have HB := n2_
            clear n0_ n1_ n2_
            (try clear hb)
            (try clear hb2)
            (try clear hk)
            (try clear hi)
            refine hK.out _ _ ⟨(blk_cell BK231.out 0).trans rfl, (blk_cell BK231.out 1).trans rfl, (blk_cell BK231.out 2).trans rfl, (blk_cell BK231.out 3).trans rfl, (blk_cell BK231.out 4).trans rfl, (blk_cell BK231.out 5).trans rfl, (blk_cell BK231.out 6).trans rfl, (blk_cell BK231.out 7).trans rfl, (blk_cell BK231.out 8).trans rfl⟩ (fun hHeld => ?_)
            clear hK K
            refine norm_ (a' := ?_) ?_ ?_
            rotate_left
            · show Act.put _ (some 58) _ = _
              simp only [Act.put, List.setIfInBounds_toArray, List.set_cons_zero, List.set_cons_succ, i64_w, i32_w]
              rfl
            refine pure_ (i := 27) (N := some 59) (v := ?_) (a' := ?_) #[true, true, true, true, true, true, true, true, true, true, true, true, true, true, true, true, true, true, true, true, true, true, true, true, true, true, true, true, false, false] rfl rfl (any_of HT_.out (by kernel_rfl)) (fun _ _ _ h => h) (Or.inl ⟨by rfl, ?_⟩) ?_ ?_
            rotate_left
            · intro w'
              go_simp
              with_reducible rfl
            rotate_left
            · simp only [Act.put, List.setIfInBounds_toArray, List.set_cons_zero, List.set_cons_succ, i64_w, i32_w]
              rfl
            refine pure_ (i := 28) (N := some 60) (v := ?_) (a' := ?_) #[true, true, true, true, true, true, true, true, true, true, true, true, true, true, true, true, true, true, true, true, true, true, true, true, true, true, true, true, true, false] rfl rfl (any_of HT_.out (by kernel_rfl)) (fun _ _ _ h => h) (Or.inl ⟨by rfl, ?_⟩) ?_ ?_
            rotate_left
            · intro w'
              go_simp
              with_reducible rfl
            rotate_left
            · simp only [Act.put, List.setIfInBounds_toArray, List.set_cons_zero, List.set_cons_succ, i64_w, i32_w]
              rfl
            refine pure_ (i := 29) (N := some 10) (v := ?_) (a' := ?_) #[true, true, true, true, true, true, true, true, true, true, true, true, true, true, true, true, true, true, true, true, true, true, true, true, true, true, true, true, true, true] rfl rfl (any_of HT_.out (by kernel_rfl)) (fun _ _ _ h => h) (Or.inl ⟨by rfl, ?_⟩) ?_ ?_
            rotate_left
            · intro w'
              go_simp
              with_reducible rfl
            rotate_left
            · simp only [Act.put, List.setIfInBounds_toArray, List.set_cons_zero, List.set_cons_succ, i64_w, i32_w]
              rfl
            refine done_ (done_of HT_.out (by kernel_rfl)) ?_
            try go_wp2
            go_ret
            exact ⟨by first | rfl | (simp [errW_none, errW_some] <;> rfl) | (simp [*, errW_none, errW_some] <;> rfl), by repeat (first | (with_reducible first | exact HB.out | apply below_alloc | apply pw_below_drewN | apply below_drew1 | refine below_set ?_ GE231.out | refine below_set ?_ GE232.out) | exact HB.out)⟩
          · rw [if_neg c19] at H
            have c19b0 : ((t288 == t297 && (t289 == t298 && (t290 == t299 && (t291 == t300)))) && (t292 == t301 && (t293 == t302 && (t294 == t303 && (t295 == t304 && (t296 == t305)))))) = false := by simpa using c19
            clear c19
            exact absurd H (by simp)
        · rw [if_neg c16] at H
          have c16b0 : ((t270 == t279 && (t271 == t280 && (t272 == t281 && (t273 == t282)))) && (t274 == t283 && (t275 == t284 && (t276 == t285 && (t277 == t286 && (t278 == t287)))))) = false := by simpa using c16
          clear c16
          exact absurd H (by simp)
      · rw [if_neg c13] at H
        have c13b0 : ((t252 == t261 && (t253 == t262 && (t254 == t263 && (t255 == t264)))) && (t256 == t265 && (t257 == t266 && (t258 == t267 && (t259 == t268 && (t260 == t269)))))) = false := by simpa using c13
        clear c13
        exact absurd H (by simp)
    · replace c12 := Bool.eq_false_iff.mpr c12
      subst c12
      have H1 : (none) = some r := by rw [if_neg (show ¬ (false = true) by decide)] at H; exact H
      clear H
      have H := H1
      clear H1
      exact absurd H (by simp)
  · rw [if_neg c9] at H
    have c9b0 : ((t234 == t243 && (t235 == t244 && (t236 == t245 && (t237 == t246)))) && (t238 == t247 && (t239 == t248 && (t240 == t249 && (t241 == t250 && (t242 == t251)))))) = false := by simpa using c9
    clear c9
    by_cases c37 : t233 = true
    · subst c37
      have H1 : (none) = some r := by rw [if_pos rfl] at H; exact H
      clear H
      have H := H1
      clear H1
      exact absurd H (by simp)
    · replace c37 := Bool.eq_false_iff.mpr c37
      subst c37
      have H1 : (none) = some r := by rw [if_neg (show ¬ (false = true) by decide)] at H; exact H
      clear H
      have H := H1
      clear H1
      exact absurd H (by simp)

/-- THE ONE PURE STATEMENT of wigwaglaw14_PragueTells: yours. -/
def wigwaglaw14_PragueTells.Pure : Prop := ∀ (a0_0 : Int) (a0_1 : Int) (a0_2 : Int) (a0_3 : Int) (a0_4 : Int) (a0_5 : Int) (a0_6 : Int) (a0_7 : Int) (a0_8 : Bool) (a1_0 : Int) (a1_1 : Int) (a1_2 : Int) (a1_3 : Int) (a1_4 : Int) (a1_5 : Int) (a1_6 : Int) (a1_7 : Int) (a1_8 : Bool) (a1_9 : Bool) (a2 : Int) (a3 : Int) (a4 : Int), (Lit.int .u64 a0_0).wf = true → (Lit.int .u64 a0_1).wf = true → (Lit.int .u64 a0_2).wf = true → (Lit.int .u64 a0_3).wf = true → (Lit.int .u64 a0_4).wf = true → (Lit.int .u64 a0_5).wf = true → (Lit.int .u64 a0_6).wf = true → (Lit.int .u64 a0_7).wf = true → (Lit.int .u64 a1_0).wf = true → (Lit.int .u64 a1_1).wf = true → (Lit.int .u64 a1_2).wf = true → (Lit.int .u64 a1_3).wf = true → (Lit.int .u64 a1_4).wf = true → (Lit.int .u64 a1_5).wf = true → (Lit.int .u64 a1_6).wf = true → (Lit.int .u64 a1_7).wf = true → (Lit.int .u64 a2).wf = true → (Lit.int .u64 a3).wf = true → (Lit.int .u64 a4).wf = true → wigwaglaw14_PragueTells.f a0_0 a0_1 a0_2 a0_3 a0_4 a0_5 a0_6 a0_7 a0_8 a1_0 a1_1 a1_2 a1_3 a1_4 a1_5 a1_6 a1_7 a1_8 a1_9 a2 a3 a4 = some true
theorem wigwaglaw14_PragueTells.walk (P : wigwaglaw14_PragueTells.Pure) (a0_0 : Int) (a0_1 : Int) (a0_2 : Int) (a0_3 : Int) (a0_4 : Int) (a0_5 : Int) (a0_6 : Int) (a0_7 : Int) (a0_8 : Bool) (a1_0 : Int) (a1_1 : Int) (a1_2 : Int) (a1_3 : Int) (a1_4 : Int) (a1_5 : Int) (a1_6 : Int) (a1_7 : Int) (a1_8 : Bool) (a1_9 : Bool) (a2 : Int) (a3 : Int) (a4 : Int) (w : World) (w0_0 : (Lit.int .u64 a0_0).wf = true) (w0_1 : (Lit.int .u64 a0_1).wf = true) (w0_2 : (Lit.int .u64 a0_2).wf = true) (w0_3 : (Lit.int .u64 a0_3).wf = true) (w0_4 : (Lit.int .u64 a0_4).wf = true) (w0_5 : (Lit.int .u64 a0_5).wf = true) (w0_6 : (Lit.int .u64 a0_6).wf = true) (w0_7 : (Lit.int .u64 a0_7).wf = true) (w1_0 : (Lit.int .u64 a1_0).wf = true) (w1_1 : (Lit.int .u64 a1_1).wf = true) (w1_2 : (Lit.int .u64 a1_2).wf = true) (w1_3 : (Lit.int .u64 a1_3).wf = true) (w1_4 : (Lit.int .u64 a1_4).wf = true) (w1_5 : (Lit.int .u64 a1_5).wf = true) (w1_6 : (Lit.int .u64 a1_6).wf = true) (w1_7 : (Lit.int .u64 a1_7).wf = true) (w2 : (Lit.int .u64 a2).wf = true) (w3 : (Lit.int .u64 a3).wf = true) (w4 : (Lit.int .u64 a4).wf = true) :
    Calls Try.prog 5 #[.agg #[.int .u64 a0_0, .int .u64 a0_1, .int .u64 a0_2, .int .u64 a0_3, .int .u64 a0_4, .int .u64 a0_5, .int .u64 a0_6, .int .u64 a0_7, .bool a0_8], .agg #[.int .u64 a1_0, .int .u64 a1_1, .int .u64 a1_2, .int .u64 a1_3, .int .u64 a1_4, .int .u64 a1_5, .int .u64 a1_6, .int .u64 a1_7, .bool a1_8, .bool a1_9], .int .u64 a2, .int .u64 a3, .int .u64 a4] w fun e w' => e = .returned (.bool true) ∧ Below w.heap.size w w' := by
  have h := P a0_0 a0_1 a0_2 a0_3 a0_4 a0_5 a0_6 a0_7 a0_8 a1_0 a1_1 a1_2 a1_3 a1_4 a1_5 a1_6 a1_7 a1_8 a1_9 a2 a3 a4 w0_0 w0_1 w0_2 w0_3 w0_4 w0_5 w0_6 w0_7 w1_0 w1_1 w1_2 w1_3 w1_4 w1_5 w1_6 w1_7 w2 w3 w4
  refine (wigwaglaw14_PragueTells.calls a0_0 a0_1 a0_2 a0_3 a0_4 a0_5 a0_6 a0_7 a0_8 a1_0 a1_1 a1_2 a1_3 a1_4 a1_5 a1_6 a1_7 a1_8 a1_9 a2 a3 a4 true w h).mono ?_
  rintro e w' ⟨rfl, hd⟩
  exact ⟨rfl, hd⟩

end Go.Proofs.Ytaaieijkmhmecaa.PPrT
